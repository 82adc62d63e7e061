/- What the Go functions that FnKeptFind reaches come to, walked step by step; there is no condition beyond those each statement names. -/
import Derived.Test.YtmgnmgobibpjjaaGFnKeptFindx0
namespace Go.Proofs.Ytmgnmgobibpjjaa.GFnKeptFind
open Go.RowKit Go.Proofs.YtmgnmgobibpjjaaVKeptFind.PrintWords Go.Proofs.YtmgnmgobibpjjaaVKeptFind.PrintLast Go.Proofs.YtmgnmgobibpjjaaVKeptFind.PrintMore
attribute [local go_sem] max2_int min2_int max_two min_two max_three min_three max_four min_four   -- for this text's walks alone
set_option linter.unusedVariables false
set_option linter.unusedSimpArgs false

-- NOT PRINTED: function 82 (impl_Kept_82)

/-! ### impl_keptAt: function 66 -/
def impl_keptAt.l0 : Nat → List (S83) → ByteArray → Int → Option (Int)
 | 0, _, _, _ => none
 | k + 1, x0, x1, x5 => if x5 < (x0.length : Int) then (if 0 ≤ x5 then (if ((rd_T83 x0 x5).f0.f0).toList = x1.toList then (some x5) else (impl_keptAt.l0 k x0 x1 (wrap64 (x5 + 1)))) else (none)) else (some (-1))
def impl_keptAt.f (k : Nat) (l0 : List (S83)) (a1 : ByteArray) : Option (Int) := impl_keptAt.l0 k l0 a1 0
theorem impl_keptAt.mono_l : ∀ k, (∀ y0 y1 y2, LeO (impl_keptAt.l0 k y0 y1 y2) (impl_keptAt.l0 (k + 1) y0 y1 y2))
 | 0 => fun _ _ _ r h => by simp [impl_keptAt.l0] at h
 | k + 1 => by
  have ih0 := impl_keptAt.mono_l k
  ·intro y0 y1 y2
   unfold impl_keptAt.l0
   repeat' first
   | (with_reducible exact ih0 _ _ _)
   | (with_reducible exact LeO.refl _)
   | (with_reducible exact LeO.none _)
   | (with_reducible refine LeO.ite ?_ ?_)
   | (with_reducible refine LeO.bind ?_ (fun _ => ?_))
   | exact ih0 _ _ _
   | exact LeO.none _
   | refine LeO.ite ?_ ?_
   | refine LeO.bind ?_ (fun _ => ?_)
theorem impl_keptAt.mono : ∀ a0 a1 k, LeO (impl_keptAt.f k a0 a1) (impl_keptAt.f (k + 1) a0 a1) := by
 intro a0 a1 k
 have ih0 := impl_keptAt.mono_l k
 unfold impl_keptAt.f
 repeat' first
   | (with_reducible exact ih0 _ _ _)
   | (with_reducible exact LeO.refl _)
   | (with_reducible exact LeO.none _)
   | (with_reducible refine LeO.ite ?_ ?_)
   | (with_reducible refine LeO.bind ?_ (fun _ => ?_))
   | exact ih0 _ _ _
   | exact LeO.none _
   | refine LeO.ite ?_ ?_
   | refine LeO.bind ?_ (fun _ => ?_)
set_option maxHeartbeats 8000000 in
set_option maxRecDepth 100000 in
theorem lam_83.calls (B : Nat) (s : ByteArray) (x : S83) (w : World) (hc : w.cell? ⟨B, 0, none⟩ = some (.string s)) (hB : B < w.heap.size) :
  Calls Try.prog 83 #[.agg #[.string x.f0.f0, .int .i64 x.f0.f1, .int .i64 x.f0.f2, .string x.f0.f3, .int .i64 x.f0.f4, .int .i64 x.f1], .pointer (some ⟨B, 0, none⟩)] w fun e w' => e = .returned (.bool ((x).f0.f0.toList == s.toList)) ∧ Below w.heap.size w w' := by
 have hne : B ≠ w.heap.size := by omega
 go_enter Try.func83, Try.ntmps83
 go_wp2
 all_goals (go_ret; exact ⟨by simp_all, (Below.refl _ w).alloc (Nat.le_refl _) _⟩)
/-- The first place of a text; -1 where it is not. -/
def At83 (l : List S83) (s : ByteArray) (r : Int) : Prop := (∃ j : Nat, j < l.length ∧ r = j ∧ ((rd_T83 l j).f0.f0.toList == s.toList) = true ∧ ∀ i : Nat, i < j → ((rd_T83 l i).f0.f0.toList == s.toList) = false) ∨ (r = -1 ∧ ∀ i : Nat, i < l.length → ((rd_T83 l i).f0.f0.toList == s.toList) = false)
set_option maxHeartbeats 8000000 in
set_option maxRecDepth 100000 in
theorem idx_82.calls (B : Nat) (s : ByteArray) (A : Option Addr) (c : Nat) (l : List S83) (r : Int) (w : World) (hr : Kd.C k83 w A l.length l) (hc : w.cell? ⟨B, 0, none⟩ = some (.string s)) (hB : B < w.heap.size) (hf : At83 l s r) :
  Calls Try.prog 82 #[.slice A l.length c, .func (.func 83) #[] #[.pointer (some ⟨B, 0, none⟩)]] w fun e w' => e = .returned (.int .i64 r) ∧ Below w.heap.size w w' := by
 have HR := Aside0.mk hr
 have HM := Aside0.mk (Kd.C_max hr)
 have HC := Aside0.mk hc
 have HF := Aside0.mk hf
 have HL := Aside0.mk hB
 clear hr hc hf hB
 go_enter Try.func82, Try.ntmps82
 go_wp2
 go_loopg [5, 8] l.length (fun gg _ s8 wr => ∃ kk : Nat, s8 = .int .i64 kk ∧ kk ≤ l.length ∧ l.length - kk ≤ gg ∧ Aside0 (Below w.heap.size w wr) ∧ Aside0 (∀ j : Nat, j < kk → ((rd_T83 l j).f0.f0.toList == s.toList) = false))
 case atStart => exact ⟨0, rfl, Nat.zero_le _, by omega, ⟨Below.refl _ w⟩, ⟨fun j hj => absurd hj (Nat.not_lt_zero _)⟩⟩
 case round =>
  obtain ⟨kk, rfl, hkk, hg, HB, HN⟩ := hrel
  by_cases hlt : kk < l.length
  ·have c4b0 : decide ((kk : Int) < (l.length : Int)) = true := decide_eq_true (by omega)
   have p_ : 0 ≤ (kk : Int) := by omega
   have q_ : (kk : Int) < (l.length : Int) := by omega
   obtain ⟨ad_, e_, hx_0, hx_1, hx_2, hx_3, hx_4, hx_5⟩ := at_T83 HR.out kk p_ q_
   cases e_
   simp only [Int.toNat_natCast] at hx_0 hx_1 hx_2 hx_3 hx_4 hx_5
   replace hx_0 := pw_cell_below HB.out hx_0
   replace hx_1 := pw_cell_below HB.out hx_1
   replace hx_2 := pw_cell_below HB.out hx_2
   replace hx_3 := pw_cell_below HB.out hx_3
   replace hx_4 := pw_cell_below HB.out hx_4
   replace hx_5 := pw_cell_below HB.out hx_5
   have hcall := lam_83.calls B s (rd_T83 l kk) wr ((HB.out.cell HL.out).trans HC.out) (Nat.lt_of_lt_of_le HL.out HB.out.size)
   cases hq : ((rd_T83 l kk).f0.f0.toList == s.toList) with
   | true =>
    rw [hq] at hcall
    have HQ := Aside0.mk hq
    clear hq
    go_wp2_with (go_at_call 83; refine hcall.mono ?_; rintro e w' ⟨rfl, hb'⟩)
    go_ret
    refine ⟨?_, below_then HB.out HB.out.size hb'⟩
    rcases HF.out with ⟨j, h1, rfl, h3, h4⟩ | ⟨rfl, h2⟩
    ·have : j = kk := by
      rcases Nat.lt_trichotomy j kk with h | h | h
      ·have := HN.out j h; rw [this] at h3; cases h3
      ·exact h
      ·have := h4 kk h; rw [HQ.out] at this; cases this
     subst this; rfl
    ·have := h2 kk hlt; rw [HQ.out] at this; cases this
   | false =>
    rw [hq] at hcall
    have HQ := Aside0.mk hq
    clear hq
    go_wp2_with (go_at_call 83; refine hcall.mono ?_; rintro e w' ⟨rfl, hb'⟩)
    go_roundg (l.length - (kk + 1))
    case measure => omega
    case rel =>
     have hm := HM.out
     have ew : wrap64 ((kk : Int) + 1) = ((kk + 1 : Nat) : Int) := by unfold wrap64; omega
     refine ⟨kk + 1, (by rw [ew]), by omega, by omega, ⟨below_then HB.out HB.out.size hb'⟩, ⟨fun j hj => ?_⟩⟩
     by_cases e : j = kk
     ·rw [e]; exact HQ.out
     ·exact HN.out j (by omega)
  ·have c4b0 : decide ((kk : Int) < (l.length : Int)) = false := decide_eq_false (by omega)
   have hk : kk = l.length := by omega
   go_wp2
   go_ret
   refine ⟨?_, HB.out⟩
   rcases HF.out with ⟨j, h1, rfl, h3, h4⟩ | ⟨rfl, h2⟩
   ·have := HN.out j (by omega); rw [this] at h3; cases h3
   ·rfl
theorem impl_keptAt_tells {l : List S83} {s : ByteArray} (hm : l.length ≤ 9223372036854775807) : ∀ (k i : Nat) (r : Int), i ≤ l.length → (∀ q : Nat, q < i → ((rd_T83 l q).f0.f0.toList == s.toList) = false) → impl_keptAt.l0 k l s i = some r →
  (∃ j : Nat, j < l.length ∧ At83 l s j ∧ r = (j : Int)) ∨ (At83 l s (-1) ∧ r = -1) := by
 intro k
 induction k with
 | zero => intro i r _ _ h; simp [impl_keptAt.l0] at h
 | succ k ih =>
  intro i r hi hn h
  simp only [impl_keptAt.l0] at h
  by_cases c1 : (i : Int) < (l.length : Int)
  ·rw [if_pos c1, if_pos (by omega)] at h
   by_cases c2 : (rd_T83 l i).f0.f0.toList = s.toList
   ·rw [if_pos c2] at h
    exact Or.inl ⟨i, by omega, Or.inl ⟨i, by omega, rfl, beq_iff_eq.mpr c2, hn⟩, (Option.some.inj h).symm⟩
   ·rw [if_neg c2, show wrap64 ((i : Int) + 1) = ((i + 1 : Nat) : Int) by unfold wrap64; omega] at h
    refine ih (i + 1) r (by omega) (fun q hq => ?_) h
    by_cases e : q = i
    ·subst e; exact beq_eq_false_iff_ne.mpr c2
    ·exact hn q (by omega)
  ·rw [if_neg c1] at h
   exact Or.inr ⟨Or.inr ⟨rfl, fun q hq => hn q (by omega)⟩, (Option.some.inj h).symm⟩
set_option maxHeartbeats 8000000 in
set_option maxRecDepth 100000 in
theorem impl_keptAt.calls (k : Nat) (A0 : Option Addr) (c0 : Nat) (l0 : List (S83)) (a1 : ByteArray) (r : Int) (w : World) (hr0 : Kd.C k83 w A0 l0.length l0) (hc0 : l0.length ≤ c0) (h : impl_keptAt.f k l0 a1 = some r) :
  Calls Try.prog 66 #[.slice A0 l0.length c0, .string a1] w fun e w' => e = .returned (.int .i64 r) ∧ Below w.heap.size w w' := by
 have hu_ := Try.underlying83
 have HR0 := Aside0.mk hr0
 have HB := Aside0.mk (Below.refl w.heap.size w)
 have HA := Aside0.mk (show At83 l0 a1 r by
  rcases impl_keptAt_tells (Kd.C_max hr0) k 0 _ (Nat.zero_le _) (fun q hq => absurd hq (Nat.not_lt_zero _)) h with ⟨j, _, hat, he⟩ | ⟨hat, he⟩
  ·rw [he]; exact hat
  ·rw [he]; exact hat)
 clear hr0 hc0 h
 go_enter Try.func66, Try.ntmps66
 go_wp2_with (first | ((with_reducible refine gate_dst (N := 3) rfl ?_); refine box_event ?hg (N := 3) ?hd (cs := #[.string a1]) (t := 9) ?hr ?_; (case hd => rfl); (case hg => rfl); (case hr => first | (go_simp; done) | (go_simp; rfl)); intro gb8001 hg w8001 hbox hb; have n0_ := Aside0.mk (below_step HB.out hb); have n1_ := Aside0.mk hbox; clear HB; have HB := n0_; have BK8001 := n1_; clear n0_ n1_ hb hbox hg) | (go_at_call 82; (with_reducible refine (idx_82.calls gb8001 a1 _ c0 l0 r _ (Kd.C_below HR0.out HB.out) ((blk_cell BK8001.out 0).trans rfl) (blk_lt BK8001.out) HA.out).mono ?_); rintro e w9 ⟨rfl, hb⟩; have n0_ := Aside0.mk (below_step HB.out hb); clear HB BK8001; have HB := n0_; clear n0_ hb))
 go_ret
 exact ⟨by first | rfl | (simp [*]; done), by repeat (first | (with_reducible first | exact HB.out | apply below_alloc | apply pw_below_drewN | apply below_drew1) | exact HB.out)⟩

end Go.Proofs.Ytmgnmgobibpjjaa.GFnKeptFind
