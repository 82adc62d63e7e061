/- What the Go functions that FnExactKeptFind reaches come to, walked step by step; there is no condition beyond those each statement names. -/
import Derived.Deep.RegionLaw
import Derived.Lib.SliceRun
import Derived.Test.YtmgnmgobibpjjaaGFnExactKeptFindx0
import Derived.Test.YtmgnmgobibpjjaaGFnExactKeptFindx2
import Derived.Test.YtmgnmgobibpjjaaGFnExactKeptFindx3
import Derived.Test.YtmgnmgobibpjjaaGFnExactKeptFindx4
import Derived.Test.YtmgnmgobibpjjaaGFnExactKeptFindx6
namespace Go.Proofs.Ytmgnmgobibpjjaa.GFnExactKeptFind
open Go.RowKit Go.Proofs.YtmgnmgobibpjjaaVExactKeptFind.PrintWords Go.Proofs.YtmgnmgobibpjjaaVExactKeptFind.PrintLast Go.Proofs.YtmgnmgobibpjjaaVExactKeptFind.PrintMore
attribute [local go_sem] max2_int min2_int max_two min_two max_three min_three max_four min_four   -- for this text's walks alone
set_option linter.unusedVariables false
set_option linter.unusedSimpArgs false

/-! ### impl_keptOk: function 73 -/
def impl_keptOk.f (k : Nat) (l0 : List (S83)) (l1 : List (S26)) (a2 : ByteArray) (a3 : Int) : Option (Bool) := (impl_KeptOk.f k l0).bind fun t180 => (if t180 = true then ((impl_NamesOk.f k l1).bind fun t181 => (if t181 = true then ((impl_textOk.f k a2).bind fun t182 => (if t182 = true then ((impl_in.f a3 0 900000).bind fun t183 => (some t183)) else (some false))) else (some false))) else (some false))
theorem impl_keptOk.mono : ∀ a0 a1 a2 a3 k, LeO (impl_keptOk.f k a0 a1 a2 a3) (impl_keptOk.f (k + 1) a0 a1 a2 a3) := by
 intro a0 a1 a2 a3 k
 unfold impl_keptOk.f
 repeat' first
   | (with_reducible exact impl_KeptOk.mono _ _)
   | (with_reducible exact impl_NamesOk.mono _ _)
   | (with_reducible exact impl_textOk.mono _ _)
   | (with_reducible exact LeO.refl _)
   | (with_reducible exact LeO.none _)
   | (with_reducible refine LeO.ite ?_ ?_)
   | (with_reducible refine LeO.bind ?_ (fun _ => ?_))
   | exact impl_KeptOk.mono _ _
   | exact impl_NamesOk.mono _ _
   | exact impl_textOk.mono _ _
   | exact LeO.none _
   | refine LeO.ite ?_ ?_
   | refine LeO.bind ?_ (fun _ => ?_)
set_option maxHeartbeats 8000000 in
set_option maxRecDepth 100000 in
theorem impl_keptOk.calls (k : Nat) (A0 : Option Addr) (c0 : Nat) (l0 : List (S83)) (A1 : Option Addr) (c1 : Nat) (l1 : List (S26)) (a2 : ByteArray) (a3 : Int) (r : Bool) (w : World) (hr0 : Kd.C k83 w A0 l0.length l0) (hc0 : l0.length ≤ c0) (hr1 : Kd.C k26 w A1 l1.length l1) (hc1 : l1.length ≤ c1) (h : impl_keptOk.f k l0 l1 a2 a3 = some r) :
  Calls Try.prog 73 #[.slice A0 l0.length c0, .slice A1 l1.length c1, .string a2, .int .i64 a3] w fun e w' => e = .returned (.bool r) ∧ Below w.heap.size w w' := by
 have HR0 := Aside0.mk hr0
 have HC0 := Aside0.mk hc0
 clear hr0 hc0
 have HR1 := Aside0.mk hr1
 have HC1 := Aside0.mk hc1
 clear hr1 hc1
 have HB := Aside0.mk (Below.refl w.heap.size w)
 have H : ((impl_KeptOk.f k l0).bind fun t180 => (if t180 = true then ((impl_NamesOk.f k l1).bind fun t181 => (if t181 = true then ((impl_textOk.f k a2).bind fun t182 => (if t182 = true then ((impl_in.f a3 0 900000).bind fun t183 => (some t183)) else (some false))) else (some false))) else (some false))) = some r := h
 clear h
 replace H := Option.bind_eq_some_iff.mp H
 obtain ⟨t180, A50, H⟩ := H
 have A5 := Aside0.mk A50
 clear A50
 by_cases c6 : t180 = true
 ·subst c6
  rw [if_pos rfl] at H
  replace H := Option.bind_eq_some_iff.mp H
  obtain ⟨t181, A70, H⟩ := H
  have A7 := Aside0.mk A70
  clear A70
  by_cases c8 : t181 = true
  ·subst c8
   rw [if_pos rfl] at H
   replace H := Option.bind_eq_some_iff.mp H
   obtain ⟨t182, A90, H⟩ := H
   have A9 := Aside0.mk A90
   clear A90
   by_cases c10 : t182 = true
   ·subst c10
    rw [if_pos rfl] at H
    replace H := Option.bind_eq_some_iff.mp H
    obtain ⟨t183, A110, H⟩ := H
    have A11 := Aside0.mk A110
    clear A110
    obtain rfl := Option.some.inj H
    go_enter Try.func73, Try.ntmps73
    go_wp2_with (first | ((with_reducible refine gate_callee (f := 36) rfl ?_); refine goesL_ (some 10) rfl rfl Try.func36 (z_0) rfl #[.slice A0 l0.length c0] rfl (z_8) ?_; (with_reducible refine (impl_KeptOk.calls k _ _ l0 true _ ?side1 ?side2 A5.out).mono ?_); (case side1 => exact z_60); (case side2 => exact HC0.out); rintro e w12 ⟨rfl, hb⟩; refine ⟨_, rfl, ?_⟩; have n0_ := Aside0.mk (below_step (z_2) hb); clear HB; have HB := n0_; clear n0_; (try clear hb); (try clear hb2); (try clear hk); (try clear hi)) | (go_at_call 27; (with_reducible refine (impl_NamesOk.calls k _ _ l1 true _ ?side1 ?side2 A7.out).mono ?_); (case side1 => exact z_61); (case side2 => exact HC1.out); rintro e w13 ⟨rfl, hb⟩; have n0_ := Aside0.mk (below_step (z_2) hb); clear HB; have HB := n0_; clear n0_; (try clear hb); (try clear hb2); (try clear hk); (try clear hi)) | (go_at_call 56; (with_reducible refine (impl_textOk.calls k a2 true _ A9.out).mono ?_); rintro e w14 ⟨rfl, hb⟩; have n0_ := Aside0.mk (below_step (z_2) hb); clear HB; have HB := n0_; clear n0_; (try clear hb); (try clear hb2); (try clear hk); (try clear hi)) | (go_at_call 57; (with_reducible refine (impl_in.calls a3 0 900000 t183 _ A11.out).mono ?_); rintro e w' ⟨rfl, ⟨nd, rfl⟩⟩))
    go_ret
    exact ⟨z_4, z_2⟩
   ·replace c10 := Bool.eq_false_iff.mpr c10
    subst c10
    rw [if_neg (show ¬ (false = true) by decide)] at H
    obtain rfl := Option.some.inj H
    go_enter Try.func73, Try.ntmps73
    go_wp2_with (first | ((with_reducible refine gate_callee (f := 36) rfl ?_); refine goesL_ (some 10) rfl rfl Try.func36 (z_0) rfl #[.slice A0 l0.length c0] rfl (z_8) ?_; (with_reducible refine (impl_KeptOk.calls k _ _ l0 true _ ?side1 ?side2 A5.out).mono ?_); (case side1 => exact z_60); (case side2 => exact HC0.out); rintro e w15 ⟨rfl, hb⟩; refine ⟨_, rfl, ?_⟩; have n0_ := Aside0.mk (below_step (z_2) hb); clear HB; have HB := n0_; clear n0_; (try clear hb); (try clear hb2); (try clear hk); (try clear hi)) | (go_at_call 27; (with_reducible refine (impl_NamesOk.calls k _ _ l1 true _ ?side1 ?side2 A7.out).mono ?_); (case side1 => exact z_61); (case side2 => exact HC1.out); rintro e w16 ⟨rfl, hb⟩; have n0_ := Aside0.mk (below_step (z_2) hb); clear HB; have HB := n0_; clear n0_; (try clear hb); (try clear hb2); (try clear hk); (try clear hi)) | (go_at_call 56; (with_reducible refine (impl_textOk.calls k a2 false _ A9.out).mono ?_); rintro e w17 ⟨rfl, hb⟩; have n0_ := Aside0.mk (below_step (z_2) hb); clear HB; have HB := n0_; clear n0_; (try clear hb); (try clear hb2); (try clear hk); (try clear hi)))
    go_ret
    exact ⟨z_4, z_2⟩
  ·replace c8 := Bool.eq_false_iff.mpr c8
   subst c8
   rw [if_neg (show ¬ (false = true) by decide)] at H
   obtain rfl := Option.some.inj H
   go_enter Try.func73, Try.ntmps73
   go_wp2_with (first | ((with_reducible refine gate_callee (f := 36) rfl ?_); refine goesL_ (some 10) rfl rfl Try.func36 (z_0) rfl #[.slice A0 l0.length c0] rfl (z_8) ?_; (with_reducible refine (impl_KeptOk.calls k _ _ l0 true _ ?side1 ?side2 A5.out).mono ?_); (case side1 => exact z_60); (case side2 => exact HC0.out); rintro e w18 ⟨rfl, hb⟩; refine ⟨_, rfl, ?_⟩; have n0_ := Aside0.mk (below_step (z_2) hb); clear HB; have HB := n0_; clear n0_; (try clear hb); (try clear hb2); (try clear hk); (try clear hi)) | (go_at_call 27; (with_reducible refine (impl_NamesOk.calls k _ _ l1 false _ ?side1 ?side2 A7.out).mono ?_); (case side1 => exact z_61); (case side2 => exact HC1.out); rintro e w19 ⟨rfl, hb⟩; have n0_ := Aside0.mk (below_step (z_2) hb); clear HB; have HB := n0_; clear n0_; (try clear hb); (try clear hb2); (try clear hk); (try clear hi)))
   go_ret
   exact ⟨z_4, z_2⟩
 ·replace c6 := Bool.eq_false_iff.mpr c6
  subst c6
  rw [if_neg (show ¬ (false = true) by decide)] at H
  obtain rfl := Option.some.inj H
  go_enter Try.func73, Try.ntmps73
  go_wp2_with (first | ((with_reducible refine gate_callee (f := 36) rfl ?_); refine goesL_ (some 10) rfl rfl Try.func36 (z_0) rfl #[.slice A0 l0.length c0] rfl (z_8) ?_; (with_reducible refine (impl_KeptOk.calls k _ _ l0 false _ ?side1 ?side2 A5.out).mono ?_); (case side1 => exact z_60); (case side2 => exact HC0.out); rintro e w20 ⟨rfl, hb⟩; refine ⟨_, rfl, ?_⟩; have n0_ := Aside0.mk (below_step (z_2) hb); clear HB; have HB := n0_; clear n0_; (try clear hb); (try clear hb2); (try clear hk); (try clear hi)))
  go_ret
  exact ⟨z_4, z_2⟩

-- NOT PRINTED: function 80 (impl_Name)

/-! ### impl_ask: function 63 -/
def impl_ask.l0 : Nat → List (S26) → ByteArray → Int → Option (ByteArray × Int × Int × ByteArray × Int)
 | 0, _, _, _ => none
 | k + 1, x0, x1, x5 => if x5 < (x0.length : Int) then (if 0 ≤ x5 then (if ((rd_T26 x0 x5).f0).toList = x1.toList then (some ((rd_T26 x0 x5).f0, (rd_T26 x0 x5).f1, (rd_T26 x0 x5).f2, (rd_T26 x0 x5).f3, (rd_T26 x0 x5).f4)) else (impl_ask.l0 k x0 x1 (wrap64 (x5 + 1)))) else (none)) else (some (x1, 0, 0, (⟨#[]⟩ : ByteArray), 5))
def impl_ask.f (k : Nat) (l0 : List (S26)) (a1 : ByteArray) : Option (ByteArray × Int × Int × ByteArray × Int) := impl_ask.l0 k l0 a1 0
theorem impl_ask.mono_l : ∀ k, (∀ y0 y1 y2, LeO (impl_ask.l0 k y0 y1 y2) (impl_ask.l0 (k + 1) y0 y1 y2))
 | 0 => fun _ _ _ r h => by simp [impl_ask.l0] at h
 | k + 1 => by
  have ih0 := impl_ask.mono_l k
  ·intro y0 y1 y2
   unfold impl_ask.l0
   repeat' first
   | (with_reducible exact ih0 _ _ _)
   | (with_reducible exact LeO.refl _)
   | (with_reducible exact LeO.none _)
   | (with_reducible refine LeO.ite ?_ ?_)
   | (with_reducible refine LeO.bind ?_ (fun _ => ?_))
   | exact ih0 _ _ _
   | exact LeO.none _
   | refine LeO.ite ?_ ?_
   | refine LeO.bind ?_ (fun _ => ?_)
theorem impl_ask.mono : ∀ a0 a1 k, LeO (impl_ask.f k a0 a1) (impl_ask.f (k + 1) a0 a1) := by
 intro a0 a1 k
 have ih0 := impl_ask.mono_l k
 unfold impl_ask.f
 repeat' first
   | (with_reducible exact ih0 _ _ _)
   | (with_reducible exact LeO.refl _)
   | (with_reducible exact LeO.none _)
   | (with_reducible refine LeO.ite ?_ ?_)
   | (with_reducible refine LeO.bind ?_ (fun _ => ?_))
   | exact ih0 _ _ _
   | exact LeO.none _
   | refine LeO.ite ?_ ?_
   | refine LeO.bind ?_ (fun _ => ?_)
set_option maxHeartbeats 8000000 in
set_option maxRecDepth 100000 in
theorem lam_81.calls (B : Nat) (s : ByteArray) (x : S26) (w : World) (hc : w.cell? ⟨B, 0, none⟩ = some (.string s)) (hB : B < w.heap.size) :
  Calls Try.prog 81 #[.agg #[.string x.f0, .int .i64 x.f1, .int .i64 x.f2, .string x.f3, .int .i64 x.f4], .pointer (some ⟨B, 0, none⟩)] w fun e w' => e = .returned (.bool ((x).f0.toList == s.toList)) ∧ Below w.heap.size w w' := by
 have hne : B ≠ w.heap.size := by omega
 go_enter Try.func81, Try.ntmps81
 go_wp2
 all_goals (go_ret; exact ⟨by simp_all, (Below.refl _ w).alloc (Nat.le_refl _) _⟩)
/-- The first place of a text; -1 where it is not. -/
def At26 (l : List S26) (s : ByteArray) (r : Int) : Prop := (∃ j : Nat, j < l.length ∧ r = j ∧ ((rd_T26 l j).f0.toList == s.toList) = true ∧ ∀ i : Nat, i < j → ((rd_T26 l i).f0.toList == s.toList) = false) ∨ (r = -1 ∧ ∀ i : Nat, i < l.length → ((rd_T26 l i).f0.toList == s.toList) = false)
set_option maxHeartbeats 8000000 in
set_option maxRecDepth 100000 in
theorem idx_80.calls (B : Nat) (s : ByteArray) (A : Option Addr) (c : Nat) (l : List S26) (r : Int) (w : World) (hr : Kd.C k26 w A l.length l) (hc : w.cell? ⟨B, 0, none⟩ = some (.string s)) (hB : B < w.heap.size) (hf : At26 l s r) :
  Calls Try.prog 80 #[.slice A l.length c, .func (.func 81) #[] #[.pointer (some ⟨B, 0, none⟩)]] w fun e w' => e = .returned (.int .i64 r) ∧ Below w.heap.size w w' := by
 have HR := Aside0.mk hr
 have HM := Aside0.mk (Kd.C_max hr)
 have HC := Aside0.mk hc
 have HF := Aside0.mk hf
 have HL := Aside0.mk hB
 clear hr hc hf hB
 go_enter Try.func80, Try.ntmps80
 go_wp2
 go_loopg [5, 8] l.length (fun gg _ s8 wr => ∃ kk : Nat, s8 = .int .i64 kk ∧ kk ≤ l.length ∧ l.length - kk ≤ gg ∧ Aside0 (Below w.heap.size w wr) ∧ Aside0 (∀ j : Nat, j < kk → ((rd_T26 l j).f0.toList == s.toList) = false))
 case atStart => exact ⟨0, rfl, Nat.zero_le _, by omega, ⟨Below.refl _ w⟩, ⟨fun j hj => absurd hj (Nat.not_lt_zero _)⟩⟩
 case round =>
  obtain ⟨kk, rfl, hkk, hg, HB, HN⟩ := hrel
  by_cases hlt : kk < l.length
  ·have c4b0 : decide ((kk : Int) < (l.length : Int)) = true := decide_eq_true (by omega)
   have p_ : 0 ≤ (kk : Int) := by omega
   have q_ : (kk : Int) < (l.length : Int) := by omega
   obtain ⟨ad_, e_, hx_0, hx_1, hx_2, hx_3, hx_4⟩ := at_T26 HR.out kk p_ q_
   cases e_
   simp only [Int.toNat_natCast] at hx_0 hx_1 hx_2 hx_3 hx_4
   replace hx_0 := pw_cell_below HB.out hx_0
   replace hx_1 := pw_cell_below HB.out hx_1
   replace hx_2 := pw_cell_below HB.out hx_2
   replace hx_3 := pw_cell_below HB.out hx_3
   replace hx_4 := pw_cell_below HB.out hx_4
   have hcall := lam_81.calls B s (rd_T26 l kk) wr ((HB.out.cell HL.out).trans HC.out) (Nat.lt_of_lt_of_le HL.out HB.out.size)
   cases hq : ((rd_T26 l kk).f0.toList == s.toList) with
   | true =>
    rw [hq] at hcall
    have HQ := Aside0.mk hq
    clear hq
    go_wp2_with (go_at_call 81; refine hcall.mono ?_; rintro e w' ⟨rfl, hb'⟩)
    go_ret
    refine ⟨?_, below_then HB.out HB.out.size hb'⟩
    rcases HF.out with ⟨j, h1, rfl, h3, h4⟩ | ⟨rfl, h2⟩
    ·have : j = kk := by
      rcases Nat.lt_trichotomy j kk with h | h | h
      ·have := HN.out j h; rw [this] at h3; cases h3
      ·exact h
      ·have := h4 kk h; rw [HQ.out] at this; cases this
     subst this; rfl
    ·have := h2 kk hlt; rw [HQ.out] at this; cases this
   | false =>
    rw [hq] at hcall
    have HQ := Aside0.mk hq
    clear hq
    go_wp2_with (go_at_call 81; refine hcall.mono ?_; rintro e w' ⟨rfl, hb'⟩)
    go_roundg (l.length - (kk + 1))
    case measure => omega
    case rel =>
     have hm := HM.out
     have ew : wrap64 ((kk : Int) + 1) = ((kk + 1 : Nat) : Int) := by unfold wrap64; omega
     refine ⟨kk + 1, (by rw [ew]), by omega, by omega, ⟨below_then HB.out HB.out.size hb'⟩, ⟨fun j hj => ?_⟩⟩
     by_cases e : j = kk
     ·rw [e]; exact HQ.out
     ·exact HN.out j (by omega)
  ·have c4b0 : decide ((kk : Int) < (l.length : Int)) = false := decide_eq_false (by omega)
   have hk : kk = l.length := by omega
   go_wp2
   go_ret
   refine ⟨?_, HB.out⟩
   rcases HF.out with ⟨j, h1, rfl, h3, h4⟩ | ⟨rfl, h2⟩
   ·have := HN.out j (by omega); rw [this] at h3; cases h3
   ·rfl
theorem impl_ask_tells {l : List S26} {s : ByteArray} (hm : l.length ≤ 9223372036854775807) : ∀ (k i : Nat) (r : ByteArray × Int × Int × ByteArray × Int), i ≤ l.length → (∀ q : Nat, q < i → ((rd_T26 l q).f0.toList == s.toList) = false) → impl_ask.l0 k l s i = some r →
  (∃ j : Nat, j < l.length ∧ At26 l s j ∧ r = ((rd_T26 l j).f0, (rd_T26 l j).f1, (rd_T26 l j).f2, (rd_T26 l j).f3, (rd_T26 l j).f4)) ∨ (At26 l s (-1) ∧ r = (s, 0, 0, (⟨#[]⟩ : ByteArray), 5)) := by
 intro k
 induction k with
 | zero => intro i r _ _ h; simp [impl_ask.l0] at h
 | succ k ih =>
  intro i r hi hn h
  simp only [impl_ask.l0] at h
  by_cases c1 : (i : Int) < (l.length : Int)
  ·rw [if_pos c1, if_pos (by omega)] at h
   by_cases c2 : (rd_T26 l i).f0.toList = s.toList
   ·rw [if_pos c2] at h
    exact Or.inl ⟨i, by omega, Or.inl ⟨i, by omega, rfl, beq_iff_eq.mpr c2, hn⟩, (Option.some.inj h).symm⟩
   ·rw [if_neg c2, show wrap64 ((i : Int) + 1) = ((i + 1 : Nat) : Int) by unfold wrap64; omega] at h
    refine ih (i + 1) r (by omega) (fun q hq => ?_) h
    by_cases e : q = i
    ·subst e; exact beq_eq_false_iff_ne.mpr c2
    ·exact hn q (by omega)
  ·rw [if_neg c1] at h
   exact Or.inr ⟨Or.inr ⟨rfl, fun q hq => hn q (by omega)⟩, (Option.some.inj h).symm⟩
set_option maxHeartbeats 8000000 in
set_option maxRecDepth 100000 in
theorem impl_ask.calls (k : Nat) (A0 : Option Addr) (c0 : Nat) (l0 : List (S26)) (a1 : ByteArray) (r1 : ByteArray) (r2 : Int) (r3 : Int) (r4 : ByteArray) (r5 : Int) (w : World) (hr0 : Kd.C k26 w A0 l0.length l0) (hc0 : l0.length ≤ c0) (h : impl_ask.f k l0 a1 = some (r1, r2, r3, r4, r5)) :
  Calls Try.prog 63 #[.slice A0 l0.length c0, .string a1] w fun e w' => e = .returned (.agg #[.string r1, .int .i64 r2, .int .i64 r3, .string r4, .int .i64 r5]) ∧ Below w.heap.size w w' := by
 have hu_ := Try.underlying26
 have HR0 := Aside0.mk hr0
 have HB := Aside0.mk (Below.refl w.heap.size w)
 have HT := impl_ask_tells (Kd.C_max hr0) k 0 _ (Nat.zero_le _) (fun q hq => absurd hq (Nat.not_lt_zero _)) h
 clear hr0 hc0 h
 rcases HT with ⟨j, hj, hat, he⟩ | ⟨hat, he⟩
 ·have HA := Aside0.mk hat
  clear hat
  simp only [Prod.mk.injEq] at he
  obtain ⟨rfl, rfl, rfl, rfl, rfl⟩ := he
  have p_ : 0 ≤ (j : Int) := by omega
  have q_ : (j : Int) < (l0.length : Int) := by omega
  obtain ⟨ad_, e_, hx_0, hx_1, hx_2, hx_3, hx_4⟩ := at_T26 HR0.out j p_ q_
  cases e_
  simp only [Int.toNat_natCast] at hx_0 hx_1 hx_2 hx_3 hx_4
  have HX0 := Aside0.mk hx_0
  clear hx_0
  have HX1 := Aside0.mk hx_1
  clear hx_1
  have HX2 := Aside0.mk hx_2
  clear hx_2
  have HX3 := Aside0.mk hx_3
  clear hx_3
  have HX4 := Aside0.mk hx_4
  clear hx_4
  replace p_ := eq_true p_
  replace q_ := eq_true q_
  have g0 : decide ((j : Int) ≥ 0) = true := decide_eq_true (by omega)
  go_enter Try.func63, Try.ntmps63
  go_upto_region 2 with (first | ((with_reducible refine gate_dst (N := 3) rfl ?_); refine box_event ?hg (N := 3) ?hd (cs := #[.string a1]) (t := 9) ?hr ?_; (case hd => rfl); (case hg => rfl); (case hr => first | (go_simp; done) | (go_simp; rfl)); intro gb8001 hg w8001 hbox hb; have n0_ := Aside0.mk (below_step HB.out hb); have n1_ := Aside0.mk hbox; clear HB; have HB := n0_; have BK8001 := n1_; clear n0_ n1_ hb hbox hg) | ((with_reducible refine gate_dst (N := 4) rfl ?_); refine box_event ?hg (N := 4) ?hd (cs := #[.string (⟨#[]⟩ : ByteArray), .int .i64 0, .int .i64 0, .string (⟨#[]⟩ : ByteArray), .int .i64 0]) (t := 26) ?hr ?_; (case hd => rfl); (case hg => rfl); (case hr => first | (go_simp; done) | (go_simp; rfl)); intro gb8002 hg w8002 hbox hb; have n0_ := Aside0.mk (below_step HB.out hb); have n1_ := Aside0.mk hbox; have k8001_ := Aside0.mk (blk_below BK8001.out hb); have n3_ := Aside0.mk ((by rw [hg]; exact below_size HB.out) : w.heap.size ≤ gb8002); clear HB BK8001; have HB := n0_; have BK8002 := n1_; have BK8001 := k8001_; have GE8002 := n3_; clear n0_ n1_ k8001_ n3_ hb hbox hg) | (go_at_call 80; (with_reducible refine (idx_80.calls gb8001 a1 _ c0 l0 j _ (Kd.C_below HR0.out HB.out) ((blk_cell BK8001.out 0).trans rfl) (blk_lt BK8001.out) HA.out).mono ?_); rintro e w9 ⟨rfl, hb⟩; have n0_ := Aside0.mk (below_step HB.out hb); have n1_ := Aside0.mk (blk_below BK8002.out hb); have n2_ := Aside0.mk (blk_below BK8001.out hb); clear HB BK8002 BK8001; have HB := n0_; have BK8002 := n1_; have BK8001 := n2_; clear n0_ n1_ n2_ hb))
  have hx_0 := pw_cell_below HB.out HX0.out
  have hx_1 := pw_cell_below HB.out HX1.out
  have hx_2 := pw_cell_below HB.out HX2.out
  have hx_3 := pw_cell_below HB.out HX3.out
  have hx_4 := pw_cell_below HB.out HX4.out
  have hcz_0 : w9.cell? ⟨gb8002, 0, none⟩ = some (.string (⟨#[]⟩ : ByteArray)) := (blk_cell BK8002.out 0).trans rfl
  have hcz_1 : w9.cell? ⟨gb8002, 1, none⟩ = some (.int .i64 0) := (blk_cell BK8002.out 1).trans rfl
  have hcz_2 : w9.cell? ⟨gb8002, 2, none⟩ = some (.int .i64 0) := (blk_cell BK8002.out 2).trans rfl
  have hcz_3 : w9.cell? ⟨gb8002, 3, none⟩ = some (.string (⟨#[]⟩ : ByteArray)) := (blk_cell BK8002.out 3).trans rfl
  have hcz_4 : w9.cell? ⟨gb8002, 4, none⟩ = some (.int .i64 0) := (blk_cell BK8002.out 4).trans rfl
  have hfz_0 := blk_frozen BK8002.out 0
  have hfz_1 := blk_frozen BK8002.out 1
  have hfz_2 := blk_frozen BK8002.out 2
  have hfz_3 := blk_frozen BK8002.out 3
  have hfz_4 := blk_frozen BK8002.out 4
  go_wp2
  refine bodyPost_ret (results_cell_row rfl _ _ gb8002 26 #[.string (rd_T26 l0 j).f0, .int .i64 (rd_T26 l0 j).f1, .int .i64 (rd_T26 l0 j).f2, .string (rd_T26 l0 j).f3, .int .i64 (rd_T26 l0 j).f4] (0, 0) _ rfl (by (with_reducible repeat (first | refine blk_drewN ?_ _ | refine blk_drew ?_ | refine blk_alloc ?_ _)); refine blk_put (cs := #[.string (rd_T26 l0 j).f0, .int .i64 (rd_T26 l0 j).f1, .int .i64 (rd_T26 l0 j).f2, .string (rd_T26 l0 j).f3, .int .i64 0]) ?_ 4 _ rfl; (with_reducible repeat (first | refine blk_drewN ?_ _ | refine blk_drew ?_ | refine blk_alloc ?_ _)); refine blk_put (cs := #[.string (rd_T26 l0 j).f0, .int .i64 (rd_T26 l0 j).f1, .int .i64 (rd_T26 l0 j).f2, .string (⟨#[]⟩ : ByteArray), .int .i64 0]) ?_ 3 _ rfl; (with_reducible repeat (first | refine blk_drewN ?_ _ | refine blk_drew ?_ | refine blk_alloc ?_ _)); refine blk_put (cs := #[.string (rd_T26 l0 j).f0, .int .i64 (rd_T26 l0 j).f1, .int .i64 0, .string (⟨#[]⟩ : ByteArray), .int .i64 0]) ?_ 2 _ rfl; (with_reducible repeat (first | refine blk_drewN ?_ _ | refine blk_drew ?_ | refine blk_alloc ?_ _)); refine blk_put (cs := #[.string (rd_T26 l0 j).f0, .int .i64 0, .int .i64 0, .string (⟨#[]⟩ : ByteArray), .int .i64 0]) ?_ 1 _ rfl; (with_reducible repeat (first | refine blk_drewN ?_ _ | refine blk_drew ?_ | refine blk_alloc ?_ _)); refine blk_put (cs := #[.string (⟨#[]⟩ : ByteArray), .int .i64 0, .int .i64 0, .string (⟨#[]⟩ : ByteArray), .int .i64 0]) ?_ 0 _ rfl; (with_reducible repeat (first | refine blk_drewN ?_ _ | refine blk_drew ?_ | refine blk_alloc ?_ _)); exact BK8002.out) Try.underlying26 rfl (by kernel_rfl)) rfl ?_
  exact ⟨by first | rfl | (simp [*]; done), by repeat (first | (with_reducible first | exact HB.out | apply below_alloc | apply pw_below_drewN | apply below_drew1 | refine below_set ?_ GE8002.out) | exact HB.out)⟩
 ·have HA := Aside0.mk hat
  clear hat
  simp only [Prod.mk.injEq] at he
  obtain ⟨e1, rfl, rfl, rfl, rfl⟩ := he
  subst r1
  go_enter Try.func63, Try.ntmps63
  go_upto_region 2 with (first | ((with_reducible refine gate_dst (N := 3) rfl ?_); refine box_event ?hg (N := 3) ?hd (cs := #[.string a1]) (t := 9) ?hr ?_; (case hd => rfl); (case hg => rfl); (case hr => first | (go_simp; done) | (go_simp; rfl)); intro gb8001 hg w8001 hbox hb; have n0_ := Aside0.mk (below_step HB.out hb); have n1_ := Aside0.mk hbox; clear HB; have HB := n0_; have BK8001 := n1_; clear n0_ n1_ hb hbox hg) | ((with_reducible refine gate_dst (N := 4) rfl ?_); refine box_event ?hg (N := 4) ?hd (cs := #[.string (⟨#[]⟩ : ByteArray), .int .i64 0, .int .i64 0, .string (⟨#[]⟩ : ByteArray), .int .i64 0]) (t := 26) ?hr ?_; (case hd => rfl); (case hg => rfl); (case hr => first | (go_simp; done) | (go_simp; rfl)); intro gb8002 hg w8002 hbox hb; have n0_ := Aside0.mk (below_step HB.out hb); have n1_ := Aside0.mk hbox; have k8001_ := Aside0.mk (blk_below BK8001.out hb); have n3_ := Aside0.mk ((by rw [hg]; exact below_size HB.out) : w.heap.size ≤ gb8002); clear HB BK8001; have HB := n0_; have BK8002 := n1_; have BK8001 := k8001_; have GE8002 := n3_; clear n0_ n1_ k8001_ n3_ hb hbox hg) | (go_at_call 80; (with_reducible refine (idx_80.calls gb8001 a1 _ c0 l0 (-1) _ (Kd.C_below HR0.out HB.out) ((blk_cell BK8001.out 0).trans rfl) (blk_lt BK8001.out) HA.out).mono ?_); rintro e w9 ⟨rfl, hb⟩; have n0_ := Aside0.mk (below_step HB.out hb); have n1_ := Aside0.mk (blk_below BK8002.out hb); have n2_ := Aside0.mk (blk_below BK8001.out hb); clear HB BK8002 BK8001; have HB := n0_; have BK8002 := n1_; have BK8001 := n2_; clear n0_ n1_ n2_ hb))
  have hcz_0 : w9.cell? ⟨gb8002, 0, none⟩ = some (.string (⟨#[]⟩ : ByteArray)) := (blk_cell BK8002.out 0).trans rfl
  have hcz_1 : w9.cell? ⟨gb8002, 1, none⟩ = some (.int .i64 0) := (blk_cell BK8002.out 1).trans rfl
  have hcz_2 : w9.cell? ⟨gb8002, 2, none⟩ = some (.int .i64 0) := (blk_cell BK8002.out 2).trans rfl
  have hcz_3 : w9.cell? ⟨gb8002, 3, none⟩ = some (.string (⟨#[]⟩ : ByteArray)) := (blk_cell BK8002.out 3).trans rfl
  have hcz_4 : w9.cell? ⟨gb8002, 4, none⟩ = some (.int .i64 0) := (blk_cell BK8002.out 4).trans rfl
  have hfz_0 := blk_frozen BK8002.out 0
  have hfz_1 := blk_frozen BK8002.out 1
  have hfz_2 := blk_frozen BK8002.out 2
  have hfz_3 := blk_frozen BK8002.out 3
  have hfz_4 := blk_frozen BK8002.out 4
  have hcs_0 : w9.cell? ⟨gb8001, 0, none⟩ = some (.string a1) := (blk_cell BK8001.out 0).trans rfl
  go_wp2
  refine bodyPost_ret (results_cell_row rfl _ _ gb8002 26 #[.string a1, .int .i64 0, .int .i64 0, .string (⟨#[]⟩ : ByteArray), .int .i64 5] (0, 0) _ rfl (by (with_reducible repeat (first | refine blk_drewN ?_ _ | refine blk_drew ?_ | refine blk_alloc ?_ _)); refine blk_put (cs := #[.string a1, .int .i64 0, .int .i64 0, .string (⟨#[]⟩ : ByteArray), .int .i64 0]) ?_ 4 _ rfl; (with_reducible repeat (first | refine blk_drewN ?_ _ | refine blk_drew ?_ | refine blk_alloc ?_ _)); refine blk_put (cs := #[.string a1, .int .i64 0, .int .i64 0, .string (⟨#[]⟩ : ByteArray), .int .i64 0]) ?_ 3 _ rfl; (with_reducible repeat (first | refine blk_drewN ?_ _ | refine blk_drew ?_ | refine blk_alloc ?_ _)); refine blk_put (cs := #[.string a1, .int .i64 0, .int .i64 0, .string (⟨#[]⟩ : ByteArray), .int .i64 0]) ?_ 2 _ rfl; (with_reducible repeat (first | refine blk_drewN ?_ _ | refine blk_drew ?_ | refine blk_alloc ?_ _)); refine blk_put (cs := #[.string a1, .int .i64 0, .int .i64 0, .string (⟨#[]⟩ : ByteArray), .int .i64 0]) ?_ 1 _ rfl; (with_reducible repeat (first | refine blk_drewN ?_ _ | refine blk_drew ?_ | refine blk_alloc ?_ _)); refine blk_put (cs := #[.string (⟨#[]⟩ : ByteArray), .int .i64 0, .int .i64 0, .string (⟨#[]⟩ : ByteArray), .int .i64 0]) ?_ 0 _ rfl; (with_reducible repeat (first | refine blk_drewN ?_ _ | refine blk_drew ?_ | refine blk_alloc ?_ _)); exact BK8002.out) Try.underlying26 rfl (by kernel_rfl)) rfl ?_
  exact ⟨by first | rfl | (simp [*]; done), by repeat (first | (with_reducible first | exact HB.out | apply below_alloc | apply pw_below_drewN | apply below_drew1 | refine below_set ?_ GE8002.out) | exact HB.out)⟩

/-! ### slices_Clip_86: function 86 -/
set_option maxHeartbeats 8000000 in
set_option maxRecDepth 100000 in
theorem slices_Clip_86.calls (A : Option Addr) (n c : Nat) (w : World) (hn : n ≤ c) (hm : n ≤ 9223372036854775807) :
  Calls Try.prog 86 #[.slice A n c] w fun e w' => e = .returned (.slice A n n) ∧ w' = w := by
 go_enter Try.func86, Try.ntmps86
 go_wp2
 go_ret
 exact ⟨rfl, rfl⟩

/-! ### impl_Kept_75: function 75 -/
def impl_Kept_75.f (l0 : List (S83)) : Option ((List (S83))) := if (l0.length : Int) = 0 then (some ([] : List (S83))) else ((some (([] : List (S83)) : List (S83))).bind fun y187 => (if y187.length + l0.length < 2199023255552 then (some (y187 ++ l0)) else (none)))
set_option maxHeartbeats 8000000 in
set_option maxRecDepth 100000 in
theorem impl_Kept_75.calls (A0 : Option Addr) (c0 : Nat) (l0 : List (S83)) (r : List (S83)) (w : World) (hr0 : Kd.C k83 w A0 l0.length l0) (hc0 : l0.length ≤ c0) (h : impl_Kept_75.f l0 = some r) :
  Calls Try.prog 75 #[.slice A0 l0.length c0] w fun e w' => ∃ v0_ : Value, e = .returned (v0_) ∧ Kd.R k83 83 w' w.heap.size (fun _ => True) v0_ r ∧ Below w.heap.size w w' := by
 have HR0 := Aside0.mk hr0
 have HC0 := Aside0.mk hc0
 clear hr0 hc0
 have HB := Aside0.mk (Below.refl w.heap.size w)
 have H : (if (l0.length : Int) = 0 then (some ([] : List (S83))) else ((some (([] : List (S83)) : List (S83))).bind fun y187 => (if y187.length + l0.length < 2199023255552 then (some (y187 ++ l0)) else (none)))) = some r := h
 clear h
 by_cases c2 : (l0.length : Int) = 0
 ·rw [if_pos c2] at H
  have c2b0 : ((l0.length : Int) == 0) = true := beq_iff_eq.mpr c2
  have c2b1 : ((l0.length : Int) != 0) = false := bne_eq_false_iff_eq.mpr c2
  clear c2
  obtain rfl := Option.some.inj H
  go_enter Try.func75, Try.ntmps75
  go_wp2
  go_ret
  exact ⟨_, by first | rfl | (simp [errW_none, errW_some] <;> rfl) | (simp [*, errW_none, errW_some] <;> rfl), by first | exact Kd.R_nil _ _ _ _ _ | exact Kd.N_nil _ _ _ _ _ | exact Kd.V_nil _ _ _ _ _ | exact Kd.Q_nil _ _ _ _ _ | exact Kd.S_nil _ _ _ _ _, by repeat (first | (with_reducible first | exact HB.out | apply below_alloc | apply pw_below_drewN | apply below_drew1) | exact HB.out)⟩
 ·rw [if_neg c2] at H
  have c2b0 : ((l0.length : Int) == 0) = false := beq_eq_false_iff_ne.mpr c2
  have c2b1 : ((l0.length : Int) != 0) = true := bne_iff_ne.mpr c2
  have c2b2 : ¬ (l0 = []) := fun h_ => c2 (by rw [h_]; rfl)
  obtain ⟨y187, hy187⟩ : ∃ y_ : List (S83), y_ = (([] : List (S83))) := ⟨_, rfl⟩
  replace H : (if y187.length + l0.length < 2199023255552 then (some (y187 ++ l0)) else (none)) = some r := by first | (rw [hy187]; with_reducible exact H) | (have H2_ := (Option.bind_some _ _).symm.trans H; rw [hy187]; with_reducible exact H2_) | (have H2_ := (Option.bind_some _ _).symm.trans H; with_reducible exact H2_) | with_reducible exact H | (rw [hy187]; exact H) | exact H
  have Ny187 := Aside0.mk hy187
  clear hy187
  by_cases c3 : y187.length + l0.length < 2199023255552
  ·rw [if_pos c3] at H
   have LMc3 := Aside0.mk c3
   clear c3
   obtain ⟨y190, hy190⟩ : ∃ y_ : List (S83), y_ = (y187 ++ l0) := ⟨_, rfl⟩
   replace H : (some y190) = some r := by first | (rw [hy190]; with_reducible exact H) | (have H2_ := (Option.bind_some _ _).symm.trans H; rw [hy190]; with_reducible exact H2_) | (have H2_ := (Option.bind_some _ _).symm.trans H; with_reducible exact H2_) | with_reducible exact H | (rw [hy190]; exact H) | exact H
   have Ny190 := Aside0.mk hy190
   clear hy190
   obtain rfl := Option.some.inj H
   have HO189 := Aside0.mk (show Kd.R k83 83 w w.heap.size (fun _ => True) (.slice none 0 0) y187 by rw [Ny187.out]; exact Kd.R_nil _ _ _ _ _)
   have HL63_ := Aside0.mk (show y190.length ≤ 9223372036854775807 by rw [Ny190.out, List.length_append]; have := LMc3.out; omega)
   go_enter Try.func75, Try.ntmps75
   go_wp2_with (first | ((with_reducible refine gate_builtin (b := .append) (xs := #[.const (.slice none 0 0), .tmp 6]) rfl ?_); at_builtin; refine Kd.R_append_rows k83 (w0 := w) w.heap.size rfl (.const (.slice none 0 0)) (.tmp 6) 48 83 (.agg #[(.string ⟨#[]⟩), (.int .i64 0), (.int .i64 0), (.string ⟨#[]⟩), (.int .i64 0), (.int .i64 0)]) 64 rfl Try.underlying48 info83 rfl (by decide) (by omega) (.slice none 0 0) y187 l0 _ _ _ (fun _ => True) (fun _ => False) rfl rfl ?aO ?aR (fun _ _ h => h) (fun _ h => h.elim) ?aF ?aB ?aS ?aL ?_; (case aR => repeat (first | exact (Kd.C_below HR0.out HB.out) | (with_reducible refine Kd.C_alloc ?_ _) | (with_reducible refine Kd.C_drewN ?_ _) | (with_reducible refine Kd.C_drew ?_))); (case aB => exact (by repeat (first | (with_reducible first | exact HB.out | apply below_alloc | apply pw_below_drewN | apply below_drew1) | exact HB.out))); (case aF => exact (fun _ _ => trivial)); (case aO => exact (by (with_reducible repeat (first | apply Kd.R_alloc | apply Kd.R_drewN | apply Kd.R_drew)); exact HO189.out)); (case aS => exact (below_size (by repeat (first | (with_reducible first | exact HB.out | apply below_alloc | apply pw_below_drewN | apply below_drew1) | exact HB.out)))); (case aL => have := LMc3.out; omega); intro v191 w6 ho hb hg hat; rw [← Ny190.out] at ho; have n0_ := Aside0.mk (hb); have n1_ := Aside0.mk (ho); clear HB; clear HO189; have HB := n0_; have HO192 := n1_; clear n0_ n1_; clear ho hb hg hat; obtain ⟨Ax_, cx_, ex_⟩ := Kd.R_slice HO192.out; subst ex_; have HLx_ := Aside0.mk (Kd.R_le HO192.out)) | (go_at_call 86; (with_reducible refine (slices_Clip_86.calls _ _ _ _ HLx_.out HL63_.out).mono ?_); rintro e w' ⟨rfl, hw_⟩; subst hw_))
   go_ret
   exact ⟨_, by first | rfl | (simp [errW_none, errW_some] <;> rfl) | (simp [*, errW_none, errW_some] <;> rfl), by (with_reducible repeat (first | apply Kd.R_alloc | apply Kd.R_drewN | apply Kd.R_drew)); exact Kd.R_clip HO192.out, by repeat (first | (with_reducible first | exact HB.out | apply below_alloc | apply pw_below_drewN | apply below_drew1) | exact HB.out)⟩
  ·rw [if_neg c3] at H
   exact absurd H (by simp)

/-! ### impl_Kept_84: function 84 -/
def impl_Kept_84.f (l0 : List (S83)) : Option ((List (S83))) := (some (([] : List (S83)) : List (S83))).bind fun y193 => (if y193.length + l0.length < 2199023255552 then (some (y193 ++ l0)) else (none))
set_option maxHeartbeats 8000000 in
set_option maxRecDepth 100000 in
theorem impl_Kept_84.calls (A0 : Option Addr) (c0 : Nat) (l0 : List (S83)) (r : List (S83)) (w : World) (hr0 : Kd.C k83 w A0 l0.length l0) (hc0 : l0.length ≤ c0) (h : impl_Kept_84.f l0 = some r) :
  Calls Try.prog 84 #[.slice A0 l0.length c0] w fun e w' => ∃ v0_ : Value, e = .returned (v0_) ∧ Kd.R k83 83 w' w.heap.size (fun _ => True) v0_ r ∧ Below w.heap.size w w' := by
 have HR0 := Aside0.mk hr0
 have HC0 := Aside0.mk hc0
 clear hr0 hc0
 have HB := Aside0.mk (Below.refl w.heap.size w)
 have H : ((some (([] : List (S83)) : List (S83))).bind fun y193 => (if y193.length + l0.length < 2199023255552 then (some (y193 ++ l0)) else (none))) = some r := h
 clear h
 obtain ⟨y193, hy193⟩ : ∃ y_ : List (S83), y_ = (([] : List (S83))) := ⟨_, rfl⟩
 replace H : (if y193.length + l0.length < 2199023255552 then (some (y193 ++ l0)) else (none)) = some r := by first | (rw [hy193]; with_reducible exact H) | (have H2_ := (Option.bind_some _ _).symm.trans H; rw [hy193]; with_reducible exact H2_) | (have H2_ := (Option.bind_some _ _).symm.trans H; with_reducible exact H2_) | with_reducible exact H | (rw [hy193]; exact H) | exact H
 have Ny193 := Aside0.mk hy193
 clear hy193
 by_cases c2 : y193.length + l0.length < 2199023255552
 ·rw [if_pos c2] at H
  have LMc2 := Aside0.mk c2
  clear c2
  obtain ⟨y196, hy196⟩ : ∃ y_ : List (S83), y_ = (y193 ++ l0) := ⟨_, rfl⟩
  replace H : (some y196) = some r := by first | (rw [hy196]; with_reducible exact H) | (have H2_ := (Option.bind_some _ _).symm.trans H; rw [hy196]; with_reducible exact H2_) | (have H2_ := (Option.bind_some _ _).symm.trans H; with_reducible exact H2_) | with_reducible exact H | (rw [hy196]; exact H) | exact H
  have Ny196 := Aside0.mk hy196
  clear hy196
  obtain rfl := Option.some.inj H
  cases A0 with
  | none =>
   have e0_ : l0 = [] := by
    rcases Nat.eq_zero_or_pos l0.length with h0 | h0
    ·exact List.eq_nil_of_length_eq_zero h0
    ·obtain ⟨_, h1, _⟩ := HR0.out.2.2 h0
     cases h1
   have e1_ : y196 = [] := by rw [Ny196.out, Ny193.out, e0_]; rfl
   subst e0_
   have hq_ : ∀ w, (binOp .eql 48 (.slice none 0 c0) (.slice none 0 0)).run Try.prog w = .ok (.bool true) w := fun w => Lib.run_eql_slice_nil w 48 83 none _ _ _ _ Try.underlying48
   go_enter Try.func84, Try.ntmps84
   go_wp2
   go_ret
   exact ⟨_, rfl, by first | exact Kd.R_nil _ _ _ _ _ | (rw [e1_]; exact Kd.R_nil _ _ _ _ _), HB.out⟩
  | some ad =>
   have hq_ : ∀ w, (binOp .eql 48 (.slice (some ad) l0.length c0) (.slice none 0 0)).run Try.prog w = .ok (.bool false) w := fun w => Lib.run_eql_slice_nil w 48 83 (some ad) _ _ _ _ Try.underlying48
   go_enter Try.func84, Try.ntmps84
   go_wp2_with (first | ((with_reducible refine gate_dst (N := 5) rfl ?_); refine Kd.R_lit k83 _ 83 ?hg (N := 5) ?hd (xs := ([] : List (S83))) (inner := []) (ok := fun _ => True) (okp := fun _ => True) ?hr ?hp (fun _ hk => hk) trivial (Below.refl _ _) (Nat.le_refl _) (by simp) ?_; (case hd => rfl); (case hg => rfl); (case hr => first | (go_simp; done) | (go_simp; rfl)); (case hp => exact (Reps.none _ _)); intro v194 w3 ho4 hb hg_ hnew_; clear hg_ hnew_; (first | rw [← Ny193.out] at ho4 | (simp only [Int.reduceToNat] at ho4; rw [← Ny193.out] at ho4)); have n0_ := Aside0.mk (Kd.R_lower ho4 (below_size (by repeat (first | (with_reducible first | exact HB.out | apply below_alloc | apply pw_below_drewN | apply below_drew1) | exact HB.out)))); have n1_ := Aside0.mk (below_step (by repeat (first | (with_reducible first | exact HB.out | apply below_alloc | apply pw_below_drewN | apply below_drew1) | exact HB.out)) hb); clear HB; have HO195 := n0_; have HB := n1_; clear n0_ n1_; clear hb ho4) | ((with_reducible refine gate_builtin (b := .append) (xs := #[.tmp 5, .tmp 6]) rfl ?_); at_builtin; refine Kd.R_append_rows k83 (w0 := w) w.heap.size rfl (.tmp 5) (.tmp 6) 48 83 (.agg #[(.string ⟨#[]⟩), (.int .i64 0), (.int .i64 0), (.string ⟨#[]⟩), (.int .i64 0), (.int .i64 0)]) 64 rfl Try.underlying48 info83 rfl (by decide) (by omega) v194 y193 l0 _ _ _ (fun _ => True) (fun _ => False) rfl rfl ?aO ?aR (fun _ _ h => h) (fun _ h => h.elim) ?aF ?aB ?aS ?aL ?_; (case aR => repeat (first | exact (Kd.C_below HR0.out HB.out) | (with_reducible refine Kd.C_alloc ?_ _) | (with_reducible refine Kd.C_drewN ?_ _) | (with_reducible refine Kd.C_drew ?_))); (case aB => exact (by repeat (first | (with_reducible first | exact HB.out | apply below_alloc | apply pw_below_drewN | apply below_drew1) | exact HB.out))); (case aF => exact (fun _ _ => trivial)); (case aO => exact (by (with_reducible repeat (first | apply Kd.R_alloc | apply Kd.R_drewN | apply Kd.R_drew)); exact HO195.out)); (case aS => exact (below_size (by repeat (first | (with_reducible first | exact HB.out | apply below_alloc | apply pw_below_drewN | apply below_drew1) | exact HB.out)))); (case aL => have := LMc2.out; omega); intro v197 w5 ho hb hg hat; rw [← Ny196.out] at ho; have n0_ := Aside0.mk (hb); have n1_ := Aside0.mk (ho); clear HB; clear HO195; have HB := n0_; have HO198 := n1_; clear n0_ n1_; clear ho hb hg hat))
   go_ret
   exact ⟨_, by first | rfl | (simp [errW_none, errW_some] <;> rfl) | (simp [*, errW_none, errW_some] <;> rfl), by (with_reducible repeat (first | apply Kd.R_alloc | apply Kd.R_drewN | apply Kd.R_drew)); exact HO198.out, by repeat (first | (with_reducible first | exact HB.out | apply below_alloc | apply pw_below_drewN | apply below_drew1) | exact HB.out)⟩
 ·rw [if_neg c2] at H
  exact absurd H (by simp)

/-! ### impl_Kept_85: function 85 -/
mutual
def impl_Kept_85.j0 : Nat → List (S83) → Int → Option ((List (S83)))
 | 0, _, _ => none
 | k + 1, x0, x1 => if 0 ≤ x1 then (if x1 < (x0.length : Int) then (impl_Kept_85.l0 k x0 x1) else (none)) else (none)
def impl_Kept_85.l0 : Nat → List (S83) → Int → Option ((List (S83)))
 | 0, _, _ => none
 | k + 1, x0, x8 => if (wrap64 (x8 + 1)) < (x0.length : Int) then (if 0 ≤ (wrap64 (x8 + 1)) then (if 0 ≤ x8 then (if x8 < (x0.length : Int) then (impl_Kept_85.l0 k (x0.set (x8 : Int).toNat (⟨(⟨(rd_T83 x0 (wrap64 (x8 + 1))).f0.f0, (rd_T83 x0 (wrap64 (x8 + 1))).f0.f1, (rd_T83 x0 (wrap64 (x8 + 1))).f0.f2, (rd_T83 x0 (wrap64 (x8 + 1))).f0.f3, (rd_T83 x0 (wrap64 (x8 + 1))).f0.f4⟩ : S26), (rd_T83 x0 (wrap64 (x8 + 1))).f1⟩ : S83)) (wrap64 (x8 + 1))) else (none)) else (none)) else (none)) else (if 0 ≤ (wrap64 ((x0.length : Int) - 1)) then (if (wrap64 ((x0.length : Int) - 1)) ≤ (x0.length : Int) then (some (x0.take ((wrap64 ((x0.length : Int) - 1)) : Int).toNat)) else (none)) else (none))
end
def impl_Kept_85.f (k : Nat) (l0 : List (S83)) (a1 : Int) (a2 : Int) : Option ((List (S83))) := if a2 = (wrap64 (a1 + 1)) then (impl_Kept_85.j0 k l0 a1) else (if 1 < ((([0] : List Int)).length : Int) then (impl_Kept_85.j0 k l0 a1) else (none))
theorem impl_Kept_85.mono_l : ∀ k, (∀ y0 y1, LeO (impl_Kept_85.j0 k y0 y1) (impl_Kept_85.j0 (k + 1) y0 y1)) ∧ (∀ y0 y1, LeO (impl_Kept_85.l0 k y0 y1) (impl_Kept_85.l0 (k + 1) y0 y1))
 | 0 => ⟨fun _ _ r h => by simp [impl_Kept_85.j0] at h, fun _ _ r h => by simp [impl_Kept_85.l0] at h⟩
 | k + 1 => by
  obtain ⟨ih0, ih1⟩ := impl_Kept_85.mono_l k
  refine ⟨?_, ?_⟩
  ·intro y0 y1
   unfold impl_Kept_85.j0
   repeat' first
   | (with_reducible exact ih0 _ _)
   | (with_reducible exact ih1 _ _)
   | (with_reducible exact LeO.refl _)
   | (with_reducible exact LeO.none _)
   | (with_reducible refine LeO.ite ?_ ?_)
   | (with_reducible refine LeO.bind ?_ (fun _ => ?_))
   | exact ih0 _ _
   | exact ih1 _ _
   | exact LeO.none _
   | refine LeO.ite ?_ ?_
   | refine LeO.bind ?_ (fun _ => ?_)
  ·intro y0 y1
   unfold impl_Kept_85.l0
   repeat' first
   | (with_reducible exact ih0 _ _)
   | (with_reducible exact ih1 _ _)
   | (with_reducible exact LeO.refl _)
   | (with_reducible exact LeO.none _)
   | (with_reducible refine LeO.ite ?_ ?_)
   | (with_reducible refine LeO.bind ?_ (fun _ => ?_))
   | exact ih0 _ _
   | exact ih1 _ _
   | exact LeO.none _
   | refine LeO.ite ?_ ?_
   | refine LeO.bind ?_ (fun _ => ?_)
theorem impl_Kept_85.mono : ∀ a0 a1 a2 k, LeO (impl_Kept_85.f k a0 a1 a2) (impl_Kept_85.f (k + 1) a0 a1 a2) := by
 intro a0 a1 a2 k
 obtain ⟨ih0, ih1⟩ := impl_Kept_85.mono_l k
 unfold impl_Kept_85.f
 repeat' first
   | (with_reducible exact ih0 _ _)
   | (with_reducible exact ih1 _ _)
   | (with_reducible exact LeO.refl _)
   | (with_reducible exact LeO.none _)
   | (with_reducible refine LeO.ite ?_ ?_)
   | (with_reducible refine LeO.bind ?_ (fun _ => ?_))
   | exact ih0 _ _
   | exact ih1 _ _
   | exact LeO.none _
   | refine LeO.ite ?_ ?_
   | refine LeO.bind ?_ (fun _ => ?_)
theorem del_tells : ∀ (k : Nat) (x : List S83) (j : Nat) (r : List S83), j < x.length → x.length ≤ 9223372036854775807 → impl_Kept_85.l0 k x j = some r → r = x.take j ++ x.drop (j + 1) := by
 intro k
 induction k with
 | zero => intro x j r _ _ h; simp [impl_Kept_85.l0] at h
 | succ k ih =>
  intro x j r hj hm h
  have e : wrap64 ((j : Int) + 1) = ((j + 1 : Nat) : Int) := by unfold wrap64; omega
  simp only [impl_Kept_85.l0] at h
  rw [e] at h
  by_cases c : ((j + 1 : Nat) : Int) < (x.length : Int)
  ·rw [if_pos c, if_pos (by omega), if_pos (by omega), if_pos (by omega)] at h
   have h2 := ih _ (j + 1) r (by rw [List.length_set]; omega) (by rw [List.length_set]; exact hm) h
   have hj1 : j + 1 < x.length := by omega
   have hv : rd_T83 x ((j + 1 : Nat) : Int) = x[j + 1] := by unfold rd_T83; rw [Int.toNat_natCast, List.getD_eq_getElem?_getD, List.getElem?_eq_getElem hj1]; rfl
   have h3 : x.drop (j + 1) = x[j + 1] :: x.drop (j + 1 + 1) := List.drop_eq_getElem_cons hj1
   have hl : (x.take j).length = j := by rw [List.length_take]; omega
   rw [h2, Int.toNat_natCast, List.set_eq_take_append_cons_drop, if_pos hj, List.take_append, List.drop_append, hl, h3, hv, List.take_of_length_le (by omega : (x.take j).length ≤ j + 1), List.drop_of_length_le (by omega : (x.take j).length ≤ j + 1 + 1)]
   have e1 : j + 1 - j = 1 := by omega
   have e2 : j + 1 + 1 - j = 2 := by omega
   rw [e1, e2]
   simp
   exact h3.symm
  ·rw [if_neg c] at h
   have e3 : wrap64 ((x.length : Int) - 1) = (j : Int) := by unfold wrap64; omega
   rw [e3, if_pos (by omega), if_pos (by omega), Int.toNat_natCast] at h
   rw [← Option.some.inj h, List.drop_of_length_le (by omega), List.append_nil]
theorem del_f {k : Nat} {x r : List S83} {a1 a2 : Int} (hm : x.length ≤ 9223372036854775807) (h : impl_Kept_85.f k x a1 a2 = some r) : ∃ j : Nat, a1 = j ∧ a2 = ((j + 1 : Nat) : Int) ∧ j < x.length ∧ r = x.take j ++ x.drop (j + 1) := by
 unfold impl_Kept_85.f at h
 by_cases c : a2 = wrap64 (a1 + 1)
 ·rw [if_pos c] at h
  cases k with
  | zero => exact absurd h (by simp [impl_Kept_85.j0])
  | succ k =>
   simp only [impl_Kept_85.j0] at h
   by_cases c1 : 0 ≤ a1
   ·rw [if_pos c1] at h
    by_cases c2 : a1 < (x.length : Int)
    ·rw [if_pos c2] at h
     obtain ⟨j, rfl⟩ := Int.eq_ofNat_of_zero_le c1
     exact ⟨j, rfl, by rw [c]; unfold wrap64; omega, by omega, del_tells k x j r (by omega) hm h⟩
    ·rw [if_neg c2] at h; exact absurd h (by simp)
   ·rw [if_neg c1] at h; exact absurd h (by simp)
 ·rw [if_neg c] at h
  rw [if_neg (by simp)] at h
  exact absurd h (by simp)
set_option maxHeartbeats 8000000 in
set_option maxRecDepth 100000 in
theorem impl_Kept_85.calls (k : Nat) (P0_ : Nat → Prop) (u9000_ : Value) (l0 : List (S83)) (a1 : Int) (a2 : Int) (r : List (S83)) (w0 w : World) (hB : Below w0.heap.size w0 w) (ho0 : Kd.R k83 83 w w0.heap.size P0_ u9000_ l0) (h : impl_Kept_85.f k l0 a1 a2 = some r) :
  Calls Try.prog 85 #[u9000_, .int .i64 a1, .int .i64 a2] w fun e w' => ∃ v0_ : Value, e = .returned (v0_) ∧ Kd.R k83 83 w' w0.heap.size (fun k_ => (P0_ k_ ∨ w.heap.size ≤ k_)) v0_ r ∧ Below w0.heap.size w0 w' ∧ Kept w w' (fun k_ => P0_ k_) := by
 obtain ⟨hok, inner, ho, hr⟩ := ho0
 have hm : l0.length ≤ 9223372036854775807 := by
  rcases ho.2 with ⟨_, h0⟩ | ⟨_, _, cur, _, _, hg, h1, h2, _⟩
  ·omega
  ·simp only [maxLen] at h2; omega
 obtain ⟨i, rfl, rfl, hi, rfl⟩ := del_f hm h
 clear h
 obtain ⟨g, cap, rfl, _, hgl⟩ := ho.form (by omega)
 obtain ⟨cur, hg, hbg, hnc, hcm, hcs, ht⟩ := ho.block
 have hs6 : (k83).sz = 6 := rfl
 rw [hs6] at hcs ht
 obtain ⟨n, hn⟩ : ∃ n, n = l0.length := ⟨_, rfl⟩
 have hil : inner.length = n * 6 := by rw [ho.1, hs6, hn]
 obtain ⟨news, hnews⟩ : ∃ news, news = inner.drop ((i + 1) * 6) := ⟨_, rfl⟩
 have hnl : news.length = (n - (i + 1)) * 6 := by rw [hnews, List.length_drop, hil]; omega
 have hcell : ∀ q u, inner[q]? = some u → w.cell? ⟨g, q, none⟩ = some u := by
  intro q u hu
  have hq : q < inner.length := (List.getElem?_eq_some_iff.1 hu).1
  rw [ho.cellAt q (by rw [hs6, ← hn]; omega)]; exact hu
 have hsome : ∀ q, q < n * 6 → (w.cell? ⟨g, q, none⟩).isSome = true ∧ w.frozen? ⟨g, q, none⟩ = false := by
  intro q hq
  refine ⟨?_, ho.frozenAt q⟩
  rw [hcell q (inner[q]'(by omega)) (List.getElem?_eq_getElem (by omega))]; rfl
 -- the cells that are moved to the left, and where they lie
 obtain ⟨A, hA, hsrc⟩ : ∃ A : Addr, (if cap = i + 1 then some (⟨g, 0, none⟩ : Addr) else some ⟨g, (i + 1) * 6, none⟩) = some A ∧ (∀ t u, news[t]? = some u → w.drew.cell? (A.add t) = some u) := by
  by_cases h : cap = i + 1
  ·refine ⟨⟨g, 0, none⟩, by simp [h], fun t u hu => ?_⟩
   have h0 : news.length = 0 := by rw [hnl]; omega
   rw [List.length_eq_zero_iff.1 h0] at hu
   simp at hu
  ·refine ⟨⟨g, (i + 1) * 6, none⟩, by simp [h], fun t u hu => ?_⟩
   rw [hnews, List.getElem?_drop] at hu
   rw [Addr.add_lit]
   exact hcell _ _ hu
 have hone : ∀ u ∈ inner, u.oneCell' = true := by
  intro u hu
  exact Kd.reps_one hr (by decide) (fun p c hp => k83.K_one (k83.K_of_M hp)) u hu
 -- the world behind the append
 obtain ⟨W1, hW1⟩ : ∃ W1, W1 = w.drew.setCells g (0 + i * 6) news := ⟨_, rfl⟩
 have hfit : i * 6 + news.length ≤ cur.size := by
  have h1 : cap * 6 ≤ cur.size := hcs
  omega
 obtain ⟨cur1, hg1, hs1, hc1⟩ := setCells_row news (0 + i * 6) w.drew cur hg (by omega)
 rw [← hW1] at hg1
 obtain ⟨o, ho_⟩ : ∃ o, o = (i + (n - (i + 1))) * 6 := ⟨_, rfl⟩
 obtain ⟨W2, hW2⟩ : ∃ W2, W2 = W1.setCells g o [.string ⟨#[]⟩, .int .i64 0, .int .i64 0, .string ⟨#[]⟩, .int .i64 0, .int .i64 0] := ⟨_, rfl⟩
 have hcl : ∀ ty, (Builtin.clear_ #[48] ty #[.slice (some ⟨g, o, none⟩) (n - (i + (n - (i + 1)))) (cap - (i + (n - (i + 1))))]).run Try.prog W1 = .ok (.tuple #[]) W2 := by
  intro ty
  have hone1 : n - (i + (n - (i + 1))) = 1 := by omega
  rw [hone1]
  have hst := run_storeCells_cells (P := Try.prog) g o [.string ⟨#[]⟩, .int .i64 0, .int .i64 0, .string ⟨#[]⟩, .int .i64 0, .int .i64 0] 0 W1
   (fun q hq => by
    have hq6 : q < 6 := hq
    have h1 : cap * 6 ≤ cur.size := hcs
    rw [blk_cell hg1, Array.getElem?_eq_getElem (by omega)]; rfl) (fun q hq => blk_frozen hg1 _) (by decide)
  simp only [Nat.add_zero] at hst
  rw [← hW2] at hst
  simp [Builtin.clear_, run_underlying Try.underlying48, Try.zeroValue83, Builtin.zeroCells, Value.cells, List.range, List.range.loop, hst]
 have hp6 : i * 6 ≤ n * 6 := Nat.mul_le_mul_right _ (by omega)
 have ho6 : o + 6 ≤ cur1.size := by
  have h1 : cap * 6 ≤ cur.size := hcs
  omega
 obtain ⟨cur2, hg2, hs2, hc2⟩ := setCells_row [.string ⟨#[]⟩, .int .i64 0, .int .i64 0, .string ⟨#[]⟩, .int .i64 0, .int .i64 0] o W1 cur1 hg1 ho6
 rw [← hW2] at hg2
 have hfar : ∀ k, k ≠ g → W2.heap[k]? = w.heap[k]? := fun k hk => by
  rw [hW2, setCells_far _ _ k hk, hW1, setCells_far _ _ k hk]; rfl
 have hsame : W2.os = w.os ∧ W2.tape = w.tape ∧ W2.output = w.output ∧ W2.heap.size = w.heap.size := by
  have h1 := setCells_same g news (0 + i * 6) w.drew
  have h2 := setCells_same g [.string ⟨#[]⟩, .int .i64 0, .int .i64 0, .string ⟨#[]⟩, .int .i64 0, .int .i64 0] o W1
  rw [← hW1] at h1
  rw [← hW2] at h2
  exact ⟨h2.1.trans h1.1, h2.2.1.trans h1.2.1, h2.2.2.1.trans h1.2.2.1, h2.2.2.2.trans h1.2.2.2⟩
 have hlen : (l0.take i ++ l0.drop (i + 1)).length = i + (n - (i + 1)) := by rw [List.length_append, List.length_take, List.length_drop]; omega
 have hR : Kd.R k83 83 W2 w0.heap.size (fun k_ => (P0_ k_ ∨ w.heap.size ≤ k_)) (.slice (some ⟨g, 0, none⟩) (i + (n - (i + 1))) cap) (l0.take i ++ l0.drop (i + 1)) := by
  refine ⟨fun k hk => Or.inl (hok k hk), inner.take (i * 6) ++ news, ?_, ?_⟩
  ·refine ⟨?_, Or.inr ⟨g, cap, cur2, by rw [hlen], hbg, hg2, by omega, hcm, by rw [hs2, hs1]; exact hcs, ?_⟩⟩
   ·rw [List.length_append, List.length_take, hil, hnl, hlen]
    show min (i * 6) (n * 6) + _ = _ * 6
    omega
   ·rw [hlen, hc2]
    show List.take ((i + (n - (i + 1))) * 6) _ = _
    rw [← ho_, List.append_assoc, List.take_append_of_le_length (by rw [List.length_take, Array.length_toList]; omega), List.take_take, Nat.min_self, hc1, Nat.zero_add,
     List.take_append_of_le_length (by rw [List.length_append, List.length_take, Array.length_toList, hnl]; omega),
     List.take_of_length_le (by rw [List.length_append, List.length_take, Array.length_toList, hnl]; omega), ← ht, List.take_take, Nat.min_eq_left (by omega)]
  ·rw [hnews]
   refine Kd.reps_append (Kd.reps_take (hr.imp_ fun p c hp => ?_) (by omega)) (Kd.reps_drop (hr.imp_ fun p c hp => ?_))
   ·exact k83.M_mono (fun k hk => ⟨Or.inl hk.1, hk.2⟩) (k83.M_move (fun k hk => hfar k (fun e => hk.2 (by rw [e]; rfl))) hp)
   ·exact k83.M_mono (fun k hk => ⟨Or.inl hk.1, hk.2⟩) (k83.M_move (fun k hk => hfar k (fun e => hk.2 (by rw [e]; rfl))) hp)
 have hBW : Below w0.heap.size w0 W2 := ⟨hsame.1.trans hB.os, hsame.2.1.trans hB.tape, hsame.2.2.1.trans hB.output, by rw [hsame.2.2.2]; exact hB.size, fun k hk => (hfar k (by omega)).trans (hB.block k hk)⟩
 have hKW : Kept w W2 (fun k_ => P0_ k_) := ⟨by rw [hsame.2.2.2]; exact Nat.le_refl _, fun k hk hn => hfar k (fun e => hn (by rw [e]; exact hok g rfl))⟩
 rw [ho_] at hcl
 have HRR := Aside0.mk hR
 have HBW := Aside0.mk hBW
 have HKW := Aside0.mk hKW
 clear hR hBW hKW hsame hfar hg2 hs2 hc2 ho6 hp6 hlen ho_
 have HX1 := Aside0.mk hW1
 have HX2 := Aside0.mk hW2
 have HG := Aside0.mk hg
 have HG1 := Aside0.mk hg1
 have HC1 := Aside0.mk hc1
 have HT := Aside0.mk ht
 have HR := Aside0.mk hr
 have HO := Aside0.mk ho
 have HN := Aside0.mk hnews
 have HNL := Aside0.mk hnl
 have HSRC := Aside0.mk hsrc
 have HSOME := Aside0.mk hsome
 have HONE := Aside0.mk (fun u (hu : u ∈ news) => hone u (by rw [hnews] at hu; exact List.mem_of_mem_drop hu))
 have HOK := Aside0.mk hok
 have HB' := Aside0.mk hB
 have hic : i ≤ cap := by omega
 have hjc : i + 1 ≤ cap := by omega
 have hin : i < n := by omega
 have hcap : n ≤ cap := by omega
 have hz1 : (0 : Int) ≤ (i : Int) + 1 := by omega
 have hz2 : (i : Int) + 1 ≤ (n : Int) := by omega
 rw [← hn]
 have HNN := Aside0.mk hn
 clear hn
 have hcm' : cap ≤ 9223372036854775807 := hcm
 clear hW1 hW2 hg hg1 hc1 ht hr ho hnews hnl hsrc hsome hone hok hB hcell hs6 hil hcs hcm hfit hs1 hi hnc hm hbg
 go_enter Try.func85, Try.ntmps85
 go_wp2_with fail
 go_region_law (refine step_append_room rfl (.tmp 22) (.tmp 25) 48 rfl 83 _ 6 Try.underlying48 rfl rfl g 0 i cap (by simp [Act.eval, Act.put]) A (n - (i + 1)) (cap - (i + 1)) news (by simp [Act.eval, Act.put]) HNL.out HSRC.out HONE.out (by omega) (fun q hq => by have h1 := HNL.out; have h2 := HSOME.out (0 + i * 6 + q) (by omega); exact h2) ?_; rw [← HX1.out])
 go_wp2
 go_ret
 exact ⟨_, rfl, HRR.out, HBW.out, HKW.out⟩

end Go.Proofs.Ytmgnmgobibpjjaa.GFnExactKeptFind
