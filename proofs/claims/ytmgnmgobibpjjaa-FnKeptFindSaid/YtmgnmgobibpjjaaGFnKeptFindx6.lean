/- What the Go functions that FnKeptFind reaches come to, walked step by step; there is no condition beyond those each statement names. -/
import Derived.Test.YtmgnmgobibpjjaaGFnKeptFindx0
import Derived.Test.YtmgnmgobibpjjaaGFnKeptFindx1
import Derived.Test.YtmgnmgobibpjjaaGFnKeptFindx2
import Derived.Test.YtmgnmgobibpjjaaGFnKeptFindx3
namespace Go.Proofs.Ytmgnmgobibpjjaa.GFnKeptFind
open Go.RowKit Go.Proofs.YtmgnmgobibpjjaaVKeptFind.PrintWords Go.Proofs.YtmgnmgobibpjjaaVKeptFind.PrintLast Go.Proofs.YtmgnmgobibpjjaaVKeptFind.PrintMore
attribute [local go_sem] max2_int min2_int max_two min_two max_three min_three max_four min_four   -- for this text's walks alone
set_option linter.unusedVariables false
set_option linter.unusedSimpArgs false

attribute [local go_sem high] eqA83
-- NOT PRINTED: function 80 (impl_Name)

/-! ### impl_ask: function 63 -/
def impl_ask.l0 : Nat → List (S26) → ByteArray → Int → Option (ByteArray × Int × Int × ByteArray × Int)
 | 0, _, _, _ => none
 | k + 1, x0, x1, x5 => if x5 < (x0.length : Int) then (if 0 ≤ x5 then (if ((rd_T26 x0 x5).f0).toList = x1.toList then (some ((rd_T26 x0 x5).f0, (rd_T26 x0 x5).f1, (rd_T26 x0 x5).f2, (rd_T26 x0 x5).f3, (rd_T26 x0 x5).f4)) else (impl_ask.l0 k x0 x1 (wrap64 (x5 + 1)))) else (none)) else (some (x1, 0, 0, (⟨#[]⟩ : ByteArray), 5))
def impl_ask.f (k : Nat) (l0 : List (S26)) (a1 : ByteArray) : Option (ByteArray × Int × Int × ByteArray × Int) := impl_ask.l0 k l0 a1 0
theorem impl_ask.mono_l : ∀ k, (∀ y0 y1 y2, LeO (impl_ask.l0 k y0 y1 y2) (impl_ask.l0 (k + 1) y0 y1 y2))
 | 0 => fun _ _ _ r h => by simp [impl_ask.l0] at h
 | k + 1 => by
  have ih0 := impl_ask.mono_l k
  ·intro y0 y1 y2
   unfold impl_ask.l0
   repeat' first
   | (with_reducible exact ih0 _ _ _)
   | (with_reducible exact LeO.refl _)
   | (with_reducible exact LeO.none _)
   | (with_reducible refine LeO.ite ?_ ?_)
   | (with_reducible refine LeO.bind ?_ (fun _ => ?_))
   | exact ih0 _ _ _
   | exact LeO.none _
   | refine LeO.ite ?_ ?_
   | refine LeO.bind ?_ (fun _ => ?_)
theorem impl_ask.mono : ∀ a0 a1 k, LeO (impl_ask.f k a0 a1) (impl_ask.f (k + 1) a0 a1) := by
 intro a0 a1 k
 have ih0 := impl_ask.mono_l k
 unfold impl_ask.f
 repeat' first
   | (with_reducible exact ih0 _ _ _)
   | (with_reducible exact LeO.refl _)
   | (with_reducible exact LeO.none _)
   | (with_reducible refine LeO.ite ?_ ?_)
   | (with_reducible refine LeO.bind ?_ (fun _ => ?_))
   | exact ih0 _ _ _
   | exact LeO.none _
   | refine LeO.ite ?_ ?_
   | refine LeO.bind ?_ (fun _ => ?_)
set_option maxHeartbeats 8000000 in
set_option maxRecDepth 100000 in
theorem lam_81.calls (B : Nat) (s : ByteArray) (x : S26) (w : World) (hc : w.cell? ⟨B, 0, none⟩ = some (.string s)) (hB : B < w.heap.size) :
  Calls Try.prog 81 #[.agg #[.string x.f0, .int .i64 x.f1, .int .i64 x.f2, .string x.f3, .int .i64 x.f4], .pointer (some ⟨B, 0, none⟩)] w fun e w' => e = .returned (.bool ((x).f0.toList == s.toList)) ∧ Below w.heap.size w w' := by
 have hne : B ≠ w.heap.size := by omega
 go_enter Try.func81, Try.ntmps81
 go_wp2
 all_goals (go_ret; exact ⟨by simp_all, (Below.refl _ w).alloc (Nat.le_refl _) _⟩)
/-- The first place of a text; -1 where it is not. -/
def At26 (l : List S26) (s : ByteArray) (r : Int) : Prop := (∃ j : Nat, j < l.length ∧ r = j ∧ ((rd_T26 l j).f0.toList == s.toList) = true ∧ ∀ i : Nat, i < j → ((rd_T26 l i).f0.toList == s.toList) = false) ∨ (r = -1 ∧ ∀ i : Nat, i < l.length → ((rd_T26 l i).f0.toList == s.toList) = false)
set_option maxHeartbeats 8000000 in
set_option maxRecDepth 100000 in
theorem idx_80.calls (B : Nat) (s : ByteArray) (A : Option Addr) (c : Nat) (l : List S26) (r : Int) (w : World) (hr : Kd.C k26 w A l.length l) (hc : w.cell? ⟨B, 0, none⟩ = some (.string s)) (hB : B < w.heap.size) (hf : At26 l s r) :
  Calls Try.prog 80 #[.slice A l.length c, .func (.func 81) #[] #[.pointer (some ⟨B, 0, none⟩)]] w fun e w' => e = .returned (.int .i64 r) ∧ Below w.heap.size w w' := by
 have HR := Aside0.mk hr
 have HM := Aside0.mk (Kd.C_max hr)
 have HC := Aside0.mk hc
 have HF := Aside0.mk hf
 have HL := Aside0.mk hB
 clear hr hc hf hB
 go_enter Try.func80, Try.ntmps80
 go_wp2
 go_loopg [5, 8] l.length (fun gg _ s8 wr => ∃ kk : Nat, s8 = .int .i64 kk ∧ kk ≤ l.length ∧ l.length - kk ≤ gg ∧ Aside0 (Below w.heap.size w wr) ∧ Aside0 (∀ j : Nat, j < kk → ((rd_T26 l j).f0.toList == s.toList) = false))
 case atStart => exact ⟨0, rfl, Nat.zero_le _, by omega, ⟨Below.refl _ w⟩, ⟨fun j hj => absurd hj (Nat.not_lt_zero _)⟩⟩
 case round =>
  obtain ⟨kk, rfl, hkk, hg, HB, HN⟩ := hrel
  by_cases hlt : kk < l.length
  ·have c4b0 : decide ((kk : Int) < (l.length : Int)) = true := decide_eq_true (by omega)
   have p_ : 0 ≤ (kk : Int) := by omega
   have q_ : (kk : Int) < (l.length : Int) := by omega
   obtain ⟨ad_, e_, hx_0, hx_1, hx_2, hx_3, hx_4⟩ := at_T26 HR.out kk p_ q_
   cases e_
   simp only [Int.toNat_natCast] at hx_0 hx_1 hx_2 hx_3 hx_4
   replace hx_0 := pw_cell_below HB.out hx_0
   replace hx_1 := pw_cell_below HB.out hx_1
   replace hx_2 := pw_cell_below HB.out hx_2
   replace hx_3 := pw_cell_below HB.out hx_3
   replace hx_4 := pw_cell_below HB.out hx_4
   have hcall := lam_81.calls B s (rd_T26 l kk) wr ((HB.out.cell HL.out).trans HC.out) (Nat.lt_of_lt_of_le HL.out HB.out.size)
   cases hq : ((rd_T26 l kk).f0.toList == s.toList) with
   | true =>
    rw [hq] at hcall
    have HQ := Aside0.mk hq
    clear hq
    go_wp2_with (go_at_call 81; refine hcall.mono ?_; rintro e w' ⟨rfl, hb'⟩)
    go_ret
    refine ⟨?_, below_then HB.out HB.out.size hb'⟩
    rcases HF.out with ⟨j, h1, rfl, h3, h4⟩ | ⟨rfl, h2⟩
    ·have : j = kk := by
      rcases Nat.lt_trichotomy j kk with h | h | h
      ·have := HN.out j h; rw [this] at h3; cases h3
      ·exact h
      ·have := h4 kk h; rw [HQ.out] at this; cases this
     subst this; rfl
    ·have := h2 kk hlt; rw [HQ.out] at this; cases this
   | false =>
    rw [hq] at hcall
    have HQ := Aside0.mk hq
    clear hq
    go_wp2_with (go_at_call 81; refine hcall.mono ?_; rintro e w' ⟨rfl, hb'⟩)
    go_roundg (l.length - (kk + 1))
    case measure => omega
    case rel =>
     have hm := HM.out
     have ew : wrap64 ((kk : Int) + 1) = ((kk + 1 : Nat) : Int) := by unfold wrap64; omega
     refine ⟨kk + 1, (by rw [ew]), by omega, by omega, ⟨below_then HB.out HB.out.size hb'⟩, ⟨fun j hj => ?_⟩⟩
     by_cases e : j = kk
     ·rw [e]; exact HQ.out
     ·exact HN.out j (by omega)
  ·have c4b0 : decide ((kk : Int) < (l.length : Int)) = false := decide_eq_false (by omega)
   have hk : kk = l.length := by omega
   go_wp2
   go_ret
   refine ⟨?_, HB.out⟩
   rcases HF.out with ⟨j, h1, rfl, h3, h4⟩ | ⟨rfl, h2⟩
   ·have := HN.out j (by omega); rw [this] at h3; cases h3
   ·rfl
theorem impl_ask_tells {l : List S26} {s : ByteArray} (hm : l.length ≤ 9223372036854775807) : ∀ (k i : Nat) (r : ByteArray × Int × Int × ByteArray × Int), i ≤ l.length → (∀ q : Nat, q < i → ((rd_T26 l q).f0.toList == s.toList) = false) → impl_ask.l0 k l s i = some r →
  (∃ j : Nat, j < l.length ∧ At26 l s j ∧ r = ((rd_T26 l j).f0, (rd_T26 l j).f1, (rd_T26 l j).f2, (rd_T26 l j).f3, (rd_T26 l j).f4)) ∨ (At26 l s (-1) ∧ r = (s, 0, 0, (⟨#[]⟩ : ByteArray), 5)) := by
 intro k
 induction k with
 | zero => intro i r _ _ h; simp [impl_ask.l0] at h
 | succ k ih =>
  intro i r hi hn h
  simp only [impl_ask.l0] at h
  by_cases c1 : (i : Int) < (l.length : Int)
  ·rw [if_pos c1, if_pos (by omega)] at h
   by_cases c2 : (rd_T26 l i).f0.toList = s.toList
   ·rw [if_pos c2] at h
    exact Or.inl ⟨i, by omega, Or.inl ⟨i, by omega, rfl, beq_iff_eq.mpr c2, hn⟩, (Option.some.inj h).symm⟩
   ·rw [if_neg c2, show wrap64 ((i : Int) + 1) = ((i + 1 : Nat) : Int) by unfold wrap64; omega] at h
    refine ih (i + 1) r (by omega) (fun q hq => ?_) h
    by_cases e : q = i
    ·subst e; exact beq_eq_false_iff_ne.mpr c2
    ·exact hn q (by omega)
  ·rw [if_neg c1] at h
   exact Or.inr ⟨Or.inr ⟨rfl, fun q hq => hn q (by omega)⟩, (Option.some.inj h).symm⟩
set_option maxHeartbeats 8000000 in
set_option maxRecDepth 100000 in
theorem impl_ask.calls (k : Nat) (A0 : Option Addr) (c0 : Nat) (l0 : List (S26)) (a1 : ByteArray) (r1 : ByteArray) (r2 : Int) (r3 : Int) (r4 : ByteArray) (r5 : Int) (w : World) (hr0 : Kd.C k26 w A0 l0.length l0) (hc0 : l0.length ≤ c0) (h : impl_ask.f k l0 a1 = some (r1, r2, r3, r4, r5)) :
  Calls Try.prog 63 #[.slice A0 l0.length c0, .string a1] w fun e w' => e = .returned (.agg #[.string r1, .int .i64 r2, .int .i64 r3, .string r4, .int .i64 r5]) ∧ Below w.heap.size w w' := by
 have hu_ := Try.underlying26
 have HR0 := Aside0.mk hr0
 have HB := Aside0.mk (Below.refl w.heap.size w)
 have HT := impl_ask_tells (Kd.C_max hr0) k 0 _ (Nat.zero_le _) (fun q hq => absurd hq (Nat.not_lt_zero _)) h
 clear hr0 hc0 h
 rcases HT with ⟨j, hj, hat, he⟩ | ⟨hat, he⟩
 ·have HA := Aside0.mk hat
  clear hat
  simp only [Prod.mk.injEq] at he
  obtain ⟨rfl, rfl, rfl, rfl, rfl⟩ := he
  have p_ : 0 ≤ (j : Int) := by omega
  have q_ : (j : Int) < (l0.length : Int) := by omega
  obtain ⟨ad_, e_, hx_0, hx_1, hx_2, hx_3, hx_4⟩ := at_T26 HR0.out j p_ q_
  cases e_
  simp only [Int.toNat_natCast] at hx_0 hx_1 hx_2 hx_3 hx_4
  have HX0 := Aside0.mk hx_0
  clear hx_0
  have HX1 := Aside0.mk hx_1
  clear hx_1
  have HX2 := Aside0.mk hx_2
  clear hx_2
  have HX3 := Aside0.mk hx_3
  clear hx_3
  have HX4 := Aside0.mk hx_4
  clear hx_4
  replace p_ := eq_true p_
  replace q_ := eq_true q_
  have g0 : decide ((j : Int) ≥ 0) = true := decide_eq_true (by omega)
  go_enter Try.func63, Try.ntmps63
  go_upto_region 2 with (first | ((with_reducible refine gate_dst (N := 3) rfl ?_); refine box_event ?hg (N := 3) ?hd (cs := #[.string a1]) (t := 9) ?hr ?_; (case hd => rfl); (case hg => rfl); (case hr => first | (go_simp; done) | (go_simp; rfl)); intro gb8001 hg w8001 hbox hb; have n0_ := Aside0.mk (below_step HB.out hb); have n1_ := Aside0.mk hbox; clear HB; have HB := n0_; have BK8001 := n1_; clear n0_ n1_ hb hbox hg) | ((with_reducible refine gate_dst (N := 4) rfl ?_); refine box_event ?hg (N := 4) ?hd (cs := #[.string (⟨#[]⟩ : ByteArray), .int .i64 0, .int .i64 0, .string (⟨#[]⟩ : ByteArray), .int .i64 0]) (t := 26) ?hr ?_; (case hd => rfl); (case hg => rfl); (case hr => first | (go_simp; done) | (go_simp; rfl)); intro gb8002 hg w8002 hbox hb; have n0_ := Aside0.mk (below_step HB.out hb); have n1_ := Aside0.mk hbox; have k8001_ := Aside0.mk (blk_below BK8001.out hb); have n3_ := Aside0.mk ((by rw [hg]; exact below_size HB.out) : w.heap.size ≤ gb8002); clear HB BK8001; have HB := n0_; have BK8002 := n1_; have BK8001 := k8001_; have GE8002 := n3_; clear n0_ n1_ k8001_ n3_ hb hbox hg) | (go_at_call 80; (with_reducible refine (idx_80.calls gb8001 a1 _ c0 l0 j _ (Kd.C_below HR0.out HB.out) ((blk_cell BK8001.out 0).trans rfl) (blk_lt BK8001.out) HA.out).mono ?_); rintro e w9 ⟨rfl, hb⟩; have n0_ := Aside0.mk (below_step HB.out hb); have n1_ := Aside0.mk (blk_below BK8002.out hb); have n2_ := Aside0.mk (blk_below BK8001.out hb); clear HB BK8002 BK8001; have HB := n0_; have BK8002 := n1_; have BK8001 := n2_; clear n0_ n1_ n2_ hb))
  have hx_0 := pw_cell_below HB.out HX0.out
  have hx_1 := pw_cell_below HB.out HX1.out
  have hx_2 := pw_cell_below HB.out HX2.out
  have hx_3 := pw_cell_below HB.out HX3.out
  have hx_4 := pw_cell_below HB.out HX4.out
  have hcz_0 : w9.cell? ⟨gb8002, 0, none⟩ = some (.string (⟨#[]⟩ : ByteArray)) := (blk_cell BK8002.out 0).trans rfl
  have hcz_1 : w9.cell? ⟨gb8002, 1, none⟩ = some (.int .i64 0) := (blk_cell BK8002.out 1).trans rfl
  have hcz_2 : w9.cell? ⟨gb8002, 2, none⟩ = some (.int .i64 0) := (blk_cell BK8002.out 2).trans rfl
  have hcz_3 : w9.cell? ⟨gb8002, 3, none⟩ = some (.string (⟨#[]⟩ : ByteArray)) := (blk_cell BK8002.out 3).trans rfl
  have hcz_4 : w9.cell? ⟨gb8002, 4, none⟩ = some (.int .i64 0) := (blk_cell BK8002.out 4).trans rfl
  have hfz_0 := blk_frozen BK8002.out 0
  have hfz_1 := blk_frozen BK8002.out 1
  have hfz_2 := blk_frozen BK8002.out 2
  have hfz_3 := blk_frozen BK8002.out 3
  have hfz_4 := blk_frozen BK8002.out 4
  go_wp2
  refine bodyPost_ret (results_cell_row rfl _ _ gb8002 26 #[.string (rd_T26 l0 j).f0, .int .i64 (rd_T26 l0 j).f1, .int .i64 (rd_T26 l0 j).f2, .string (rd_T26 l0 j).f3, .int .i64 (rd_T26 l0 j).f4] (0, 0) _ rfl (by (with_reducible repeat (first | refine blk_drewN ?_ _ | refine blk_drew ?_ | refine blk_alloc ?_ _)); refine blk_put (cs := #[.string (rd_T26 l0 j).f0, .int .i64 (rd_T26 l0 j).f1, .int .i64 (rd_T26 l0 j).f2, .string (rd_T26 l0 j).f3, .int .i64 0]) ?_ 4 _ rfl; (with_reducible repeat (first | refine blk_drewN ?_ _ | refine blk_drew ?_ | refine blk_alloc ?_ _)); refine blk_put (cs := #[.string (rd_T26 l0 j).f0, .int .i64 (rd_T26 l0 j).f1, .int .i64 (rd_T26 l0 j).f2, .string (⟨#[]⟩ : ByteArray), .int .i64 0]) ?_ 3 _ rfl; (with_reducible repeat (first | refine blk_drewN ?_ _ | refine blk_drew ?_ | refine blk_alloc ?_ _)); refine blk_put (cs := #[.string (rd_T26 l0 j).f0, .int .i64 (rd_T26 l0 j).f1, .int .i64 0, .string (⟨#[]⟩ : ByteArray), .int .i64 0]) ?_ 2 _ rfl; (with_reducible repeat (first | refine blk_drewN ?_ _ | refine blk_drew ?_ | refine blk_alloc ?_ _)); refine blk_put (cs := #[.string (rd_T26 l0 j).f0, .int .i64 0, .int .i64 0, .string (⟨#[]⟩ : ByteArray), .int .i64 0]) ?_ 1 _ rfl; (with_reducible repeat (first | refine blk_drewN ?_ _ | refine blk_drew ?_ | refine blk_alloc ?_ _)); refine blk_put (cs := #[.string (⟨#[]⟩ : ByteArray), .int .i64 0, .int .i64 0, .string (⟨#[]⟩ : ByteArray), .int .i64 0]) ?_ 0 _ rfl; (with_reducible repeat (first | refine blk_drewN ?_ _ | refine blk_drew ?_ | refine blk_alloc ?_ _)); exact BK8002.out) Try.underlying26 rfl (by kernel_rfl)) rfl ?_
  exact ⟨by first | rfl | (simp [*]; done), by repeat (first | (with_reducible first | exact HB.out | apply below_alloc | apply pw_below_drewN | apply below_drew1 | refine below_set ?_ GE8002.out) | exact HB.out)⟩
 ·have HA := Aside0.mk hat
  clear hat
  simp only [Prod.mk.injEq] at he
  obtain ⟨e1, rfl, rfl, rfl, rfl⟩ := he
  subst r1
  go_enter Try.func63, Try.ntmps63
  go_upto_region 2 with (first | ((with_reducible refine gate_dst (N := 3) rfl ?_); refine box_event ?hg (N := 3) ?hd (cs := #[.string a1]) (t := 9) ?hr ?_; (case hd => rfl); (case hg => rfl); (case hr => first | (go_simp; done) | (go_simp; rfl)); intro gb8001 hg w8001 hbox hb; have n0_ := Aside0.mk (below_step HB.out hb); have n1_ := Aside0.mk hbox; clear HB; have HB := n0_; have BK8001 := n1_; clear n0_ n1_ hb hbox hg) | ((with_reducible refine gate_dst (N := 4) rfl ?_); refine box_event ?hg (N := 4) ?hd (cs := #[.string (⟨#[]⟩ : ByteArray), .int .i64 0, .int .i64 0, .string (⟨#[]⟩ : ByteArray), .int .i64 0]) (t := 26) ?hr ?_; (case hd => rfl); (case hg => rfl); (case hr => first | (go_simp; done) | (go_simp; rfl)); intro gb8002 hg w8002 hbox hb; have n0_ := Aside0.mk (below_step HB.out hb); have n1_ := Aside0.mk hbox; have k8001_ := Aside0.mk (blk_below BK8001.out hb); have n3_ := Aside0.mk ((by rw [hg]; exact below_size HB.out) : w.heap.size ≤ gb8002); clear HB BK8001; have HB := n0_; have BK8002 := n1_; have BK8001 := k8001_; have GE8002 := n3_; clear n0_ n1_ k8001_ n3_ hb hbox hg) | (go_at_call 80; (with_reducible refine (idx_80.calls gb8001 a1 _ c0 l0 (-1) _ (Kd.C_below HR0.out HB.out) ((blk_cell BK8001.out 0).trans rfl) (blk_lt BK8001.out) HA.out).mono ?_); rintro e w9 ⟨rfl, hb⟩; have n0_ := Aside0.mk (below_step HB.out hb); have n1_ := Aside0.mk (blk_below BK8002.out hb); have n2_ := Aside0.mk (blk_below BK8001.out hb); clear HB BK8002 BK8001; have HB := n0_; have BK8002 := n1_; have BK8001 := n2_; clear n0_ n1_ n2_ hb))
  have hcz_0 : w9.cell? ⟨gb8002, 0, none⟩ = some (.string (⟨#[]⟩ : ByteArray)) := (blk_cell BK8002.out 0).trans rfl
  have hcz_1 : w9.cell? ⟨gb8002, 1, none⟩ = some (.int .i64 0) := (blk_cell BK8002.out 1).trans rfl
  have hcz_2 : w9.cell? ⟨gb8002, 2, none⟩ = some (.int .i64 0) := (blk_cell BK8002.out 2).trans rfl
  have hcz_3 : w9.cell? ⟨gb8002, 3, none⟩ = some (.string (⟨#[]⟩ : ByteArray)) := (blk_cell BK8002.out 3).trans rfl
  have hcz_4 : w9.cell? ⟨gb8002, 4, none⟩ = some (.int .i64 0) := (blk_cell BK8002.out 4).trans rfl
  have hfz_0 := blk_frozen BK8002.out 0
  have hfz_1 := blk_frozen BK8002.out 1
  have hfz_2 := blk_frozen BK8002.out 2
  have hfz_3 := blk_frozen BK8002.out 3
  have hfz_4 := blk_frozen BK8002.out 4
  have hcs_0 : w9.cell? ⟨gb8001, 0, none⟩ = some (.string a1) := (blk_cell BK8001.out 0).trans rfl
  go_wp2
  refine bodyPost_ret (results_cell_row rfl _ _ gb8002 26 #[.string a1, .int .i64 0, .int .i64 0, .string (⟨#[]⟩ : ByteArray), .int .i64 5] (0, 0) _ rfl (by (with_reducible repeat (first | refine blk_drewN ?_ _ | refine blk_drew ?_ | refine blk_alloc ?_ _)); refine blk_put (cs := #[.string a1, .int .i64 0, .int .i64 0, .string (⟨#[]⟩ : ByteArray), .int .i64 0]) ?_ 4 _ rfl; (with_reducible repeat (first | refine blk_drewN ?_ _ | refine blk_drew ?_ | refine blk_alloc ?_ _)); refine blk_put (cs := #[.string a1, .int .i64 0, .int .i64 0, .string (⟨#[]⟩ : ByteArray), .int .i64 0]) ?_ 3 _ rfl; (with_reducible repeat (first | refine blk_drewN ?_ _ | refine blk_drew ?_ | refine blk_alloc ?_ _)); refine blk_put (cs := #[.string a1, .int .i64 0, .int .i64 0, .string (⟨#[]⟩ : ByteArray), .int .i64 0]) ?_ 2 _ rfl; (with_reducible repeat (first | refine blk_drewN ?_ _ | refine blk_drew ?_ | refine blk_alloc ?_ _)); refine blk_put (cs := #[.string a1, .int .i64 0, .int .i64 0, .string (⟨#[]⟩ : ByteArray), .int .i64 0]) ?_ 1 _ rfl; (with_reducible repeat (first | refine blk_drewN ?_ _ | refine blk_drew ?_ | refine blk_alloc ?_ _)); refine blk_put (cs := #[.string (⟨#[]⟩ : ByteArray), .int .i64 0, .int .i64 0, .string (⟨#[]⟩ : ByteArray), .int .i64 0]) ?_ 0 _ rfl; (with_reducible repeat (first | refine blk_drewN ?_ _ | refine blk_drew ?_ | refine blk_alloc ?_ _)); exact BK8002.out) Try.underlying26 rfl (by kernel_rfl)) rfl ?_
  exact ⟨by first | rfl | (simp [*]; done), by repeat (first | (with_reducible first | exact HB.out | apply below_alloc | apply pw_below_drewN | apply below_drew1 | refine below_set ?_ GE8002.out) | exact HB.out)⟩

-- NOT PRINTED: function 70 (impl_follow)

/-! ### impl_NameFind: function 40 -/
mutual
def impl_NameFind.j0 : Nat → List (S26) → ByteArray → Bool → Option (Int × Bool)
 | 0, _, _, _ => none
 | k + 1, x0, x1, x15 => if x15 = true then (some (0, false)) else (impl_NameFind.l0 k x0 x1 0)
def impl_NameFind.l0 : Nat → List (S26) → ByteArray → Int → Option (Int × Bool)
 | 0, _, _, _ => none
 | k + 1, x0, x1, x6 => if x6 < 5 then ((impl_ask.f k x0 x1).bind fun bt150 => (if bt150.2.1 = 1 then (some (bt150.2.2.1, true)) else (if bt150.2.1 = 0 then (some (0, false)) else (impl_NameFind.l0 k x0 bt150.2.2.2.1 (wrap64 (x6 + 1)))))) else (some (0, false))
end
def impl_NameFind.f (k : Nat) (l0 : List (S26)) (a1 : ByteArray) : Option (Int × Bool) := (impl_NamesOk.f k l0).bind fun t148 => (if t148 = true then ((impl_textOk.f k a1).bind fun t149 => (impl_NameFind.j0 k l0 a1 (!t149))) else (impl_NameFind.j0 k l0 a1 true))
theorem impl_NameFind.mono_l : ∀ k, (∀ y0 y1 y2, LeO (impl_NameFind.j0 k y0 y1 y2) (impl_NameFind.j0 (k + 1) y0 y1 y2)) ∧ (∀ y0 y1 y2, LeO (impl_NameFind.l0 k y0 y1 y2) (impl_NameFind.l0 (k + 1) y0 y1 y2))
 | 0 => ⟨fun _ _ _ r h => by simp [impl_NameFind.j0] at h, fun _ _ _ r h => by simp [impl_NameFind.l0] at h⟩
 | k + 1 => by
  obtain ⟨ih0, ih1⟩ := impl_NameFind.mono_l k
  refine ⟨?_, ?_⟩
  ·intro y0 y1 y2
   unfold impl_NameFind.j0
   repeat' first
   | (with_reducible exact ih0 _ _ _)
   | (with_reducible exact ih1 _ _ _)
   | (with_reducible exact impl_NamesOk.mono _ _)
   | (with_reducible exact impl_ask.mono _ _ _)
   | (with_reducible exact impl_textOk.mono _ _)
   | (with_reducible exact LeO.refl _)
   | (with_reducible exact LeO.none _)
   | (with_reducible refine LeO.ite ?_ ?_)
   | (with_reducible refine LeO.bind ?_ (fun _ => ?_))
   | exact ih0 _ _ _
   | exact ih1 _ _ _
   | exact impl_NamesOk.mono _ _
   | exact impl_ask.mono _ _ _
   | exact impl_textOk.mono _ _
   | exact LeO.none _
   | refine LeO.ite ?_ ?_
   | refine LeO.bind ?_ (fun _ => ?_)
  ·intro y0 y1 y2
   unfold impl_NameFind.l0
   repeat' first
   | (with_reducible exact ih0 _ _ _)
   | (with_reducible exact ih1 _ _ _)
   | (with_reducible exact impl_NamesOk.mono _ _)
   | (with_reducible exact impl_ask.mono _ _ _)
   | (with_reducible exact impl_textOk.mono _ _)
   | (with_reducible exact LeO.refl _)
   | (with_reducible exact LeO.none _)
   | (with_reducible refine LeO.ite ?_ ?_)
   | (with_reducible refine LeO.bind ?_ (fun _ => ?_))
   | exact ih0 _ _ _
   | exact ih1 _ _ _
   | exact impl_NamesOk.mono _ _
   | exact impl_ask.mono _ _ _
   | exact impl_textOk.mono _ _
   | exact LeO.none _
   | refine LeO.ite ?_ ?_
   | refine LeO.bind ?_ (fun _ => ?_)
theorem impl_NameFind.mono : ∀ a0 a1 k, LeO (impl_NameFind.f k a0 a1) (impl_NameFind.f (k + 1) a0 a1) := by
 intro a0 a1 k
 obtain ⟨ih0, ih1⟩ := impl_NameFind.mono_l k
 unfold impl_NameFind.f
 repeat' first
   | (with_reducible exact ih0 _ _ _)
   | (with_reducible exact ih1 _ _ _)
   | (with_reducible exact impl_NamesOk.mono _ _)
   | (with_reducible exact impl_ask.mono _ _ _)
   | (with_reducible exact impl_textOk.mono _ _)
   | (with_reducible exact LeO.refl _)
   | (with_reducible exact LeO.none _)
   | (with_reducible refine LeO.ite ?_ ?_)
   | (with_reducible refine LeO.bind ?_ (fun _ => ?_))
   | exact ih0 _ _ _
   | exact ih1 _ _ _
   | exact impl_NamesOk.mono _ _
   | exact impl_ask.mono _ _ _
   | exact impl_textOk.mono _ _
   | exact LeO.none _
   | refine LeO.ite ?_ ?_
   | refine LeO.bind ?_ (fun _ => ?_)
set_option maxHeartbeats 8000000 in
set_option maxRecDepth 100000 in
theorem lam_71.calls (k : Nat) (B : Nat) (A : Option Addr) (c : Nat) (l : List S26) (s : ByteArray) (r1 : ByteArray) (r2 r3 : Int) (r4 : ByteArray) (r5 : Int) (w : World) (hr : Kd.C k26 w A l.length l) (hc : l.length ≤ c) (hB : w.heap[B]? = some (.cells #[.slice A l.length c] 36 (0, 0))) (h : impl_ask.f k l s = some (r1, r2, r3, r4, r5)) :
  Calls Try.prog 71 #[.string s, .pointer (some ⟨B, 0, none⟩)] w fun e w' => e = .returned (.agg #[.string r1, .int .i64 r2, .int .i64 r3, .string r4, .int .i64 r5]) ∧ Below w.heap.size w w' := by
 have hu_ := Try.underlying26
 have HR0 := Aside0.mk hr
 have HC0 := Aside0.mk hc
 have BK8004 := Aside0.mk hB
 have HA := Aside0.mk h
 have HB := Aside0.mk (Below.refl w.heap.size w)
 clear hr hc hB h
 go_enter Try.func71, Try.ntmps71
 go_upto_region 1 with (first | ((with_reducible refine gate_dst (N := 3) rfl ?_); refine box_event ?hg (N := 3) ?hd (cs := #[.string (⟨#[]⟩ : ByteArray), .int .i64 0, .int .i64 0, .string (⟨#[]⟩ : ByteArray), .int .i64 0]) (t := 26) ?hr ?_; (case hd => rfl); (case hg => rfl); (case hr => first | (go_simp; done) | (go_simp; rfl)); intro gb8003 hg w4 hbox hb; have n0_ := Aside0.mk (below_step HB.out hb); have n1_ := Aside0.mk hbox; have k8004_ := Aside0.mk (blk_below BK8004.out hb); have n3_ := Aside0.mk ((by rw [hg]; exact below_size HB.out) : w.heap.size ≤ gb8003); clear HB BK8004; have HB := n0_; have BK8003 := n1_; have BK8004 := k8004_; have GE8003 := n3_; clear n0_ n1_ n3_ k8004_ hb hbox hg; have hcz8003_0 : w4.cell? ⟨gb8003, 0, none⟩ = some (.string (⟨#[]⟩ : ByteArray)) := (blk_cell BK8003.out 0).trans rfl; have hfz8003_0 := blk_frozen BK8003.out 0; have hcz8003_1 : w4.cell? ⟨gb8003, 1, none⟩ = some (.int .i64 0) := (blk_cell BK8003.out 1).trans rfl; have hfz8003_1 := blk_frozen BK8003.out 1; have hcz8003_2 : w4.cell? ⟨gb8003, 2, none⟩ = some (.int .i64 0) := (blk_cell BK8003.out 2).trans rfl; have hfz8003_2 := blk_frozen BK8003.out 2; have hcz8003_3 : w4.cell? ⟨gb8003, 3, none⟩ = some (.string (⟨#[]⟩ : ByteArray)) := (blk_cell BK8003.out 3).trans rfl; have hfz8003_3 := blk_frozen BK8003.out 3; have hcz8003_4 : w4.cell? ⟨gb8003, 4, none⟩ = some (.int .i64 0) := (blk_cell BK8003.out 4).trans rfl; have hfz8003_4 := blk_frozen BK8003.out 4))
 have hcl_ : w4.cell? ⟨B, 0, none⟩ = some (.slice A l.length c) := (blk_cell BK8004.out 0).trans rfl
 clear hcz8003_0 hcz8003_1 hcz8003_2 hcz8003_3 hcz8003_4 hfz8003_0 hfz8003_1 hfz8003_2 hfz8003_3 hfz8003_4
 go_wp2_with (first | (go_at_call 63; (with_reducible refine (impl_ask.calls k _ c l s r1 r2 r3 r4 r5 _ (Kd.C_below HR0.out HB.out) HC0.out HA.out).mono ?_); rintro e w9 ⟨rfl, hb⟩; have n0_ := Aside0.mk (below_step HB.out hb); have n1_ := Aside0.mk (blk_below BK8003.out hb); clear HB BK8003 hcl_; have HB := n0_; have BK8003 := n1_; clear n0_ n1_ hb; have hcz_0 : w9.cell? ⟨gb8003, 0, none⟩ = some (.string (⟨#[]⟩ : ByteArray)) := (blk_cell BK8003.out 0).trans rfl; have hfz_0 := blk_frozen BK8003.out 0; have hcz_1 : w9.cell? ⟨gb8003, 1, none⟩ = some (.int .i64 0) := (blk_cell BK8003.out 1).trans rfl; have hfz_1 := blk_frozen BK8003.out 1; have hcz_2 : w9.cell? ⟨gb8003, 2, none⟩ = some (.int .i64 0) := (blk_cell BK8003.out 2).trans rfl; have hfz_2 := blk_frozen BK8003.out 2; have hcz_3 : w9.cell? ⟨gb8003, 3, none⟩ = some (.string (⟨#[]⟩ : ByteArray)) := (blk_cell BK8003.out 3).trans rfl; have hfz_3 := blk_frozen BK8003.out 3; have hcz_4 : w9.cell? ⟨gb8003, 4, none⟩ = some (.int .i64 0) := (blk_cell BK8003.out 4).trans rfl; have hfz_4 := blk_frozen BK8003.out 4))
 refine bodyPost_ret (results_cell_row rfl _ _ gb8003 26 #[.string r1, .int .i64 r2, .int .i64 r3, .string r4, .int .i64 r5] (0, 0) _ rfl (by (with_reducible repeat (first | refine blk_drewN ?_ _ | refine blk_drew ?_ | refine blk_alloc ?_ _)); refine blk_put (cs := #[.string r1, .int .i64 r2, .int .i64 r3, .string r4, .int .i64 0]) ?_ 4 _ rfl; (with_reducible repeat (first | refine blk_drewN ?_ _ | refine blk_drew ?_ | refine blk_alloc ?_ _)); refine blk_put (cs := #[.string r1, .int .i64 r2, .int .i64 r3, .string (⟨#[]⟩ : ByteArray), .int .i64 0]) ?_ 3 _ rfl; (with_reducible repeat (first | refine blk_drewN ?_ _ | refine blk_drew ?_ | refine blk_alloc ?_ _)); refine blk_put (cs := #[.string r1, .int .i64 r2, .int .i64 0, .string (⟨#[]⟩ : ByteArray), .int .i64 0]) ?_ 2 _ rfl; (with_reducible repeat (first | refine blk_drewN ?_ _ | refine blk_drew ?_ | refine blk_alloc ?_ _)); refine blk_put (cs := #[.string r1, .int .i64 0, .int .i64 0, .string (⟨#[]⟩ : ByteArray), .int .i64 0]) ?_ 1 _ rfl; (with_reducible repeat (first | refine blk_drewN ?_ _ | refine blk_drew ?_ | refine blk_alloc ?_ _)); refine blk_put (cs := #[.string (⟨#[]⟩ : ByteArray), .int .i64 0, .int .i64 0, .string (⟨#[]⟩ : ByteArray), .int .i64 0]) ?_ 0 _ rfl; (with_reducible repeat (first | refine blk_drewN ?_ _ | refine blk_drew ?_ | refine blk_alloc ?_ _)); exact BK8003.out) Try.underlying26 rfl (by kernel_rfl)) rfl ?_
 exact ⟨by first | rfl | (simp [*]; done), by repeat (first | (with_reducible first | exact HB.out | apply below_alloc | apply pw_below_drewN | apply below_drew1 | refine below_set ?_ GE8003.out) | exact HB.out)⟩
set_option maxHeartbeats 8000000 in
set_option maxRecDepth 100000 in
theorem follow_71.calls (k : Nat) (B : Nat) (A : Option Addr) (c : Nat) (l : List S26) (s : ByteArray) (r1 : Int) (r2 : Bool) (w : World) (hr : Kd.C k26 w A l.length l) (hc : l.length ≤ c) (hB : w.heap[B]? = some (.cells #[.slice A l.length c] 36 (0, 0))) (h : impl_NameFind.l0 k l s 0 = some (r1, r2)) :
  Calls Try.prog 70 #[.string s, .func (.func 71) #[] #[.pointer (some ⟨B, 0, none⟩)]] w fun e w' => e = .returned (.tuple #[.int .i64 r1, .bool r2]) ∧ Below w.heap.size w w' := by
 have hu_ := Try.underlying26
 have HR0 := Aside0.mk hr
 have HC0 := Aside0.mk hc
 have BK8004 := Aside0.mk hB
 have H' := Aside0.mk h
 have HB := Aside0.mk (Below.refl w.heap.size w)
 clear hr hc hB h
 go_enter Try.func70, Try.ntmps70
 go_wp2
 go_loopg [0, 7] k (fun kq v0 v7 w' => ∃ (x0 : ByteArray) (x7 : Int), v0 = .string x0 ∧ v7 = .int .i64 x7 ∧ Aside0 (impl_NameFind.l0 kq l x0 x7 = some (r1, r2)) ∧ Aside0 (kq ≤ k) ∧ Aside0 (w'.heap[B]? = some (.cells #[.slice A l.length c] 36 (0, 0))) ∧ Aside0 (Below w.heap.size w w'))
 case atStart => exact ⟨s, 0, rfl, rfl, H', ⟨Nat.le_refl _⟩, BK8004, HB⟩
 case round =>
  clear H' BK8004 HB
  obtain ⟨x0, x7, rfl, rfl, HA, HK, BK8004, HB⟩ := hrel
  cases gk with
  | zero => exact absurd HA.out (by simp [impl_NameFind.l0])
  | succ k1 =>
   have H := HA.out
   clear HA
   simp only [impl_NameFind.l0] at H
   by_cases c1 : x7 < 5
   ·rw [if_pos c1] at H
    have c1b0 : decide (x7 < 5) = true := decide_eq_true c1
    clear c1
    replace H := Option.bind_eq_some_iff.mp H
    obtain ⟨⟨q1, q2, q3, q4, q5⟩, A50, H⟩ := H
    dsimp only at H
    have A5 := Aside0.mk A50
    clear A50
    by_cases c2 : q2 = 1
    ·rw [if_pos c2] at H
     have c2b0 : (q2 == 1) = true := beq_iff_eq.mpr c2
     clear c2
     simp only [Option.some.injEq, Prod.mk.injEq] at H
     obtain ⟨rfl, rfl⟩ := H
     go_wp2_with (first | (go_at_call 71; (with_reducible refine (lam_71.calls k1 B _ c l x0 q1 q2 q3 q4 q5 _ (Kd.C_below HR0.out HB.out) HC0.out BK8004.out A5.out).mono ?_); rintro e w9 ⟨rfl, hb⟩; have n0_ := Aside0.mk (below_step HB.out hb); have n1_ := Aside0.mk (blk_below BK8004.out hb); clear HB BK8004; have HB := n0_; have BK8004 := n1_; clear n0_ n1_ hb) | ((with_reducible refine gate_dst (N := 6) rfl ?_); refine box_event ?hg (N := 6) ?hd (cs := #[.string (⟨#[]⟩ : ByteArray), .int .i64 0, .int .i64 0, .string (⟨#[]⟩ : ByteArray), .int .i64 0]) (t := 26) ?hr ?_; (case hd => rfl); (case hg => rfl); (case hr => first | (go_simp; done) | (go_simp; rfl)); intro gb8006 hg w6 hbox hb; have n0_ := Aside0.mk (below_step HB.out hb); have n1_ := Aside0.mk hbox; have k8004_ := Aside0.mk (blk_below BK8004.out hb); have n3_ := Aside0.mk ((by rw [hg]; exact below_size HB.out) : w.heap.size ≤ gb8006); have HB8004_ := BK8004.out; clear HB BK8004; have NB8006 := Aside0.mk (show B ≠ gb8006 by rw [hg]; exact Nat.ne_of_lt (blk_lt HB8004_)); clear HB8004_; have HB := n0_; have BK8006 := n1_; have BK8004 := k8004_; have GE8006 := n3_; clear n0_ n1_ n3_ k8004_ hb hbox hg; have hcz8006_0 : w6.cell? ⟨gb8006, 0, none⟩ = some (.string (⟨#[]⟩ : ByteArray)) := (blk_cell BK8006.out 0).trans rfl; have hfz8006_0 := blk_frozen BK8006.out 0; have hcz8006_1 : w6.cell? ⟨gb8006, 1, none⟩ = some (.int .i64 0) := (blk_cell BK8006.out 1).trans rfl; have hfz8006_1 := blk_frozen BK8006.out 1; have hcz8006_2 : w6.cell? ⟨gb8006, 2, none⟩ = some (.int .i64 0) := (blk_cell BK8006.out 2).trans rfl; have hfz8006_2 := blk_frozen BK8006.out 2; have hcz8006_3 : w6.cell? ⟨gb8006, 3, none⟩ = some (.string (⟨#[]⟩ : ByteArray)) := (blk_cell BK8006.out 3).trans rfl; have hfz8006_3 := blk_frozen BK8006.out 3; have hcz8006_4 : w6.cell? ⟨gb8006, 4, none⟩ = some (.int .i64 0) := (blk_cell BK8006.out 4).trans rfl; have hfz8006_4 := blk_frozen BK8006.out 4))
     go_ret2
     exact ⟨by first | rfl | (simp [*]; done), by repeat (first | (with_reducible first | exact HB.out | apply below_alloc | apply pw_below_drewN | apply below_drew1 | refine below_set ?_ GE8006.out) | exact HB.out)⟩
    ·rw [if_neg c2] at H
     have c2b0 : (q2 == 1) = false := beq_eq_false_iff_ne.mpr c2
     clear c2
     by_cases c3 : q2 = 0
     ·rw [if_pos c3] at H
      have c3b0 : (q2 == 0) = true := beq_iff_eq.mpr c3
      clear c3
      simp only [Option.some.injEq, Prod.mk.injEq] at H
      obtain ⟨rfl, rfl⟩ := H
      go_wp2_with (first | (go_at_call 71; (with_reducible refine (lam_71.calls k1 B _ c l x0 q1 q2 q3 q4 q5 _ (Kd.C_below HR0.out HB.out) HC0.out BK8004.out A5.out).mono ?_); rintro e w9 ⟨rfl, hb⟩; have n0_ := Aside0.mk (below_step HB.out hb); have n1_ := Aside0.mk (blk_below BK8004.out hb); clear HB BK8004; have HB := n0_; have BK8004 := n1_; clear n0_ n1_ hb) | ((with_reducible refine gate_dst (N := 6) rfl ?_); refine box_event ?hg (N := 6) ?hd (cs := #[.string (⟨#[]⟩ : ByteArray), .int .i64 0, .int .i64 0, .string (⟨#[]⟩ : ByteArray), .int .i64 0]) (t := 26) ?hr ?_; (case hd => rfl); (case hg => rfl); (case hr => first | (go_simp; done) | (go_simp; rfl)); intro gb8006 hg w6 hbox hb; have n0_ := Aside0.mk (below_step HB.out hb); have n1_ := Aside0.mk hbox; have k8004_ := Aside0.mk (blk_below BK8004.out hb); have n3_ := Aside0.mk ((by rw [hg]; exact below_size HB.out) : w.heap.size ≤ gb8006); have HB8004_ := BK8004.out; clear HB BK8004; have NB8006 := Aside0.mk (show B ≠ gb8006 by rw [hg]; exact Nat.ne_of_lt (blk_lt HB8004_)); clear HB8004_; have HB := n0_; have BK8006 := n1_; have BK8004 := k8004_; have GE8006 := n3_; clear n0_ n1_ n3_ k8004_ hb hbox hg; have hcz8006_0 : w6.cell? ⟨gb8006, 0, none⟩ = some (.string (⟨#[]⟩ : ByteArray)) := (blk_cell BK8006.out 0).trans rfl; have hfz8006_0 := blk_frozen BK8006.out 0; have hcz8006_1 : w6.cell? ⟨gb8006, 1, none⟩ = some (.int .i64 0) := (blk_cell BK8006.out 1).trans rfl; have hfz8006_1 := blk_frozen BK8006.out 1; have hcz8006_2 : w6.cell? ⟨gb8006, 2, none⟩ = some (.int .i64 0) := (blk_cell BK8006.out 2).trans rfl; have hfz8006_2 := blk_frozen BK8006.out 2; have hcz8006_3 : w6.cell? ⟨gb8006, 3, none⟩ = some (.string (⟨#[]⟩ : ByteArray)) := (blk_cell BK8006.out 3).trans rfl; have hfz8006_3 := blk_frozen BK8006.out 3; have hcz8006_4 : w6.cell? ⟨gb8006, 4, none⟩ = some (.int .i64 0) := (blk_cell BK8006.out 4).trans rfl; have hfz8006_4 := blk_frozen BK8006.out 4))
      go_ret2
      exact ⟨by first | rfl | (simp [*]; done), by repeat (first | (with_reducible first | exact HB.out | apply below_alloc | apply pw_below_drewN | apply below_drew1 | refine below_set ?_ GE8006.out) | exact HB.out)⟩
     ·rw [if_neg c3] at H
      have c3b0 : (q2 == 0) = false := beq_eq_false_iff_ne.mpr c3
      clear c3
      have H' := Aside0.mk H
      clear H
      go_wp2_with (first | (go_at_call 71; (with_reducible refine (lam_71.calls k1 B _ c l x0 q1 q2 q3 q4 q5 _ (Kd.C_below HR0.out HB.out) HC0.out BK8004.out A5.out).mono ?_); rintro e w9 ⟨rfl, hb⟩; have n0_ := Aside0.mk (below_step HB.out hb); have n1_ := Aside0.mk (blk_below BK8004.out hb); clear HB BK8004; have HB := n0_; have BK8004 := n1_; clear n0_ n1_ hb) | ((with_reducible refine gate_dst (N := 6) rfl ?_); refine box_event ?hg (N := 6) ?hd (cs := #[.string (⟨#[]⟩ : ByteArray), .int .i64 0, .int .i64 0, .string (⟨#[]⟩ : ByteArray), .int .i64 0]) (t := 26) ?hr ?_; (case hd => rfl); (case hg => rfl); (case hr => first | (go_simp; done) | (go_simp; rfl)); intro gb8006 hg w6 hbox hb; have n0_ := Aside0.mk (below_step HB.out hb); have n1_ := Aside0.mk hbox; have k8004_ := Aside0.mk (blk_below BK8004.out hb); have n3_ := Aside0.mk ((by rw [hg]; exact below_size HB.out) : w.heap.size ≤ gb8006); have HB8004_ := BK8004.out; clear HB BK8004; have NB8006 := Aside0.mk (show B ≠ gb8006 by rw [hg]; exact Nat.ne_of_lt (blk_lt HB8004_)); clear HB8004_; have HB := n0_; have BK8006 := n1_; have BK8004 := k8004_; have GE8006 := n3_; clear n0_ n1_ n3_ k8004_ hb hbox hg; have hcz8006_0 : w6.cell? ⟨gb8006, 0, none⟩ = some (.string (⟨#[]⟩ : ByteArray)) := (blk_cell BK8006.out 0).trans rfl; have hfz8006_0 := blk_frozen BK8006.out 0; have hcz8006_1 : w6.cell? ⟨gb8006, 1, none⟩ = some (.int .i64 0) := (blk_cell BK8006.out 1).trans rfl; have hfz8006_1 := blk_frozen BK8006.out 1; have hcz8006_2 : w6.cell? ⟨gb8006, 2, none⟩ = some (.int .i64 0) := (blk_cell BK8006.out 2).trans rfl; have hfz8006_2 := blk_frozen BK8006.out 2; have hcz8006_3 : w6.cell? ⟨gb8006, 3, none⟩ = some (.string (⟨#[]⟩ : ByteArray)) := (blk_cell BK8006.out 3).trans rfl; have hfz8006_3 := blk_frozen BK8006.out 3; have hcz8006_4 : w6.cell? ⟨gb8006, 4, none⟩ = some (.int .i64 0) := (blk_cell BK8006.out 4).trans rfl; have hfz8006_4 := blk_frozen BK8006.out 4))
      go_roundg k1
      case measure => have := HK.out; omega
      case rel => exact ⟨q4, wrap64 (x7 + 1), by first | rfl | (simp [*]; done), rfl, H', ⟨by have := HK.out; omega⟩, ⟨by (repeat (first | exact BK8004.out | refine blk_far ?_ (by first | exact NB8006.out | exact Ne.symm NB8006.out | omega) _))⟩, ⟨by repeat (first | (with_reducible first | exact HB.out | apply below_alloc | apply pw_below_drewN | apply below_drew1 | refine below_set ?_ GE8006.out) | exact HB.out)⟩⟩
   ·rw [if_neg c1] at H
    have c1b0 : decide (x7 < 5) = false := decide_eq_false c1
    clear c1
    simp only [Option.some.injEq, Prod.mk.injEq] at H
    obtain ⟨rfl, rfl⟩ := H
    go_wp2
    go_ret2
    exact ⟨by first | rfl | (simp [*]; done), HB.out⟩
set_option maxHeartbeats 8000000 in
set_option maxRecDepth 100000 in
theorem impl_NameFind.calls (k : Nat) (A0 : Option Addr) (c0 : Nat) (l0 : List (S26)) (a1 : ByteArray) (r1 : Int) (r2 : Bool) (w : World) (hr0 : Kd.C k26 w A0 l0.length l0) (hc0 : l0.length ≤ c0) (h : impl_NameFind.f k l0 a1 = some (r1, r2)) :
  Calls Try.prog 40 #[.slice A0 l0.length c0, .string a1] w fun e w' => e = .returned (.tuple #[.int .i64 r1, .bool r2]) ∧ Below w.heap.size w w' := by
 have hu_ := Try.underlying26
 have HR0 := Aside0.mk hr0
 have HC0 := Aside0.mk hc0
 have HB := Aside0.mk (Below.refl w.heap.size w)
 have H : ((impl_NamesOk.f k l0).bind fun t1 => (if t1 = true then ((impl_textOk.f k a1).bind fun t2 => (impl_NameFind.j0 k l0 a1 (!t2))) else (impl_NameFind.j0 k l0 a1 true))) = some (r1, r2) := h
 clear hr0 hc0 h
 replace H := Option.bind_eq_some_iff.mp H
 obtain ⟨t1, A30, H⟩ := H
 have A3 := Aside0.mk A30
 clear A30
 by_cases c4 : t1 = true
 ·subst c4
  rw [if_pos rfl] at H
  replace H := Option.bind_eq_some_iff.mp H
  obtain ⟨t2, A50, H⟩ := H
  have A5 := Aside0.mk A50
  clear A50
  cases k with
  | zero => exact absurd H (by simp [impl_NameFind.j0])
  | succ k1 =>
   simp only [impl_NameFind.j0] at H
   by_cases c6 : t2 = true
   ·subst c6
    rw [if_neg (by simp)] at H
    have H' := Aside0.mk H
    clear H
    go_enter Try.func40, Try.ntmps40
    go_wp2_with (first | ((with_reducible refine gate_dst (N := 2) rfl ?_); refine box_event ?hg (N := 2) ?hd (cs := #[.slice A0 l0.length c0]) (t := 36) ?hr ?_; (case hd => rfl); (case hg => rfl); (case hr => first | (go_simp; done) | (go_simp; rfl)); intro gb8004 hg w8004 hbox hb; have n0_ := Aside0.mk (below_step HB.out hb); have n1_ := Aside0.mk hbox; clear HB; have HB := n0_; have BK8004 := n1_; clear n0_ n1_ hb hbox hg; have hcl_ : w8004.cell? ⟨gb8004, 0, none⟩ = some (.slice A0 l0.length c0) := (blk_cell BK8004.out 0).trans rfl) | (go_at_call 27; (with_reducible refine (impl_NamesOk.calls _ _ _ l0 _ _ (Kd.C_below HR0.out HB.out) HC0.out A3.out).mono ?_); rintro e w9 ⟨rfl, hb⟩; have n0_ := Aside0.mk (below_step HB.out hb); have n1_ := Aside0.mk (blk_below BK8004.out hb); clear HB BK8004 hcl_; have HB := n0_; have BK8004 := n1_; clear n0_ n1_ hb) | (go_at_call 56; (with_reducible refine (impl_textOk.calls _ _ _ _ A5.out).mono ?_); rintro e w10 ⟨rfl, hb⟩; have n0_ := Aside0.mk (below_step HB.out hb); have n1_ := Aside0.mk (blk_below BK8004.out hb); clear HB BK8004; have HB := n0_; have BK8004 := n1_; clear n0_ n1_ hb) | (go_at_call 70; (with_reducible refine (follow_71.calls k1 gb8004 _ c0 l0 a1 r1 r2 _ (Kd.C_below HR0.out HB.out) HC0.out BK8004.out H'.out).mono ?_); rintro e w11 ⟨rfl, hb⟩; have n0_ := Aside0.mk (below_step HB.out hb); clear HB BK8004; have HB := n0_; clear n0_ hb))
    go_ret2
    exact ⟨by first | rfl | (simp [*]; done), by repeat (first | (with_reducible first | exact HB.out | apply below_alloc | apply pw_below_drewN | apply below_drew1) | exact HB.out)⟩
   ·replace c6 := Bool.eq_false_iff.mpr c6
    subst c6
    rw [if_pos (by simp)] at H
    simp only [Option.some.injEq, Prod.mk.injEq] at H
    obtain ⟨rfl, rfl⟩ := H
    go_enter Try.func40, Try.ntmps40
    go_wp2_with (first | ((with_reducible refine gate_dst (N := 2) rfl ?_); refine box_event ?hg (N := 2) ?hd (cs := #[.slice A0 l0.length c0]) (t := 36) ?hr ?_; (case hd => rfl); (case hg => rfl); (case hr => first | (go_simp; done) | (go_simp; rfl)); intro gb8004 hg w8004 hbox hb; have n0_ := Aside0.mk (below_step HB.out hb); have n1_ := Aside0.mk hbox; clear HB; have HB := n0_; have BK8004 := n1_; clear n0_ n1_ hb hbox hg; have hcl_ : w8004.cell? ⟨gb8004, 0, none⟩ = some (.slice A0 l0.length c0) := (blk_cell BK8004.out 0).trans rfl) | (go_at_call 27; (with_reducible refine (impl_NamesOk.calls _ _ _ l0 _ _ (Kd.C_below HR0.out HB.out) HC0.out A3.out).mono ?_); rintro e w9 ⟨rfl, hb⟩; have n0_ := Aside0.mk (below_step HB.out hb); have n1_ := Aside0.mk (blk_below BK8004.out hb); clear HB BK8004 hcl_; have HB := n0_; have BK8004 := n1_; clear n0_ n1_ hb) | (go_at_call 56; (with_reducible refine (impl_textOk.calls _ _ _ _ A5.out).mono ?_); rintro e w10 ⟨rfl, hb⟩; have n0_ := Aside0.mk (below_step HB.out hb); have n1_ := Aside0.mk (blk_below BK8004.out hb); clear HB BK8004; have HB := n0_; have BK8004 := n1_; clear n0_ n1_ hb))
    go_ret2
    exact ⟨by first | rfl | (simp [*]; done), by repeat (first | (with_reducible first | exact HB.out | apply below_alloc | apply pw_below_drewN | apply below_drew1) | exact HB.out)⟩
 ·replace c4 := Bool.eq_false_iff.mpr c4
  subst c4
  rw [if_neg (by simp)] at H
  cases k with
  | zero => exact absurd H (by simp [impl_NameFind.j0])
  | succ k1 =>
   simp only [impl_NameFind.j0] at H
   rw [if_pos trivial] at H
   simp only [Option.some.injEq, Prod.mk.injEq] at H
   obtain ⟨rfl, rfl⟩ := H
   go_enter Try.func40, Try.ntmps40
   go_wp2_with (first | ((with_reducible refine gate_dst (N := 2) rfl ?_); refine box_event ?hg (N := 2) ?hd (cs := #[.slice A0 l0.length c0]) (t := 36) ?hr ?_; (case hd => rfl); (case hg => rfl); (case hr => first | (go_simp; done) | (go_simp; rfl)); intro gb8004 hg w8004 hbox hb; have n0_ := Aside0.mk (below_step HB.out hb); have n1_ := Aside0.mk hbox; clear HB; have HB := n0_; have BK8004 := n1_; clear n0_ n1_ hb hbox hg; have hcl_ : w8004.cell? ⟨gb8004, 0, none⟩ = some (.slice A0 l0.length c0) := (blk_cell BK8004.out 0).trans rfl) | (go_at_call 27; (with_reducible refine (impl_NamesOk.calls _ _ _ l0 _ _ (Kd.C_below HR0.out HB.out) HC0.out A3.out).mono ?_); rintro e w9 ⟨rfl, hb⟩; have n0_ := Aside0.mk (below_step HB.out hb); have n1_ := Aside0.mk (blk_below BK8004.out hb); clear HB BK8004 hcl_; have HB := n0_; have BK8004 := n1_; clear n0_ n1_ hb))
   go_ret2
   exact ⟨by first | rfl | (simp [*]; done), by repeat (first | (with_reducible first | exact HB.out | apply below_alloc | apply pw_below_drewN | apply below_drew1) | exact HB.out)⟩

/-! ### laws_sameKept: function 46 -/
def laws_sameKept.l0 : Nat → List (S83) → List (S83) → Int → Option (Bool)
 | 0, _, _, _ => none
 | k + 1, x0, x1, x5 => if x5 < (x0.length : Int) then (if 0 ≤ x5 then (if x5 < (x1.length : Int) then (if ((!((((rd_T83 x0 x5).f0.f0).toList) == (((rd_T83 x1 x5).f0.f0).toList)) || (!(((rd_T83 x0 x5).f0.f1) == ((rd_T83 x1 x5).f0.f1)) || (!(((rd_T83 x0 x5).f0.f2) == ((rd_T83 x1 x5).f0.f2)) || (!((((rd_T83 x0 x5).f0.f3).toList) == (((rd_T83 x1 x5).f0.f3).toList)) || (!(((rd_T83 x0 x5).f0.f4) == ((rd_T83 x1 x5).f0.f4))))))) || (!(((rd_T83 x0 x5).f1) == ((rd_T83 x1 x5).f1)))) = true then (some false) else (laws_sameKept.l0 k x0 x1 (wrap64 (x5 + 1)))) else (none)) else (none)) else (some true)
def laws_sameKept.f (k : Nat) (l0 : List (S83)) (l1 : List (S83)) : Option (Bool) := if (l0.length : Int) = (l1.length : Int) then (laws_sameKept.l0 k l0 l1 0) else (some false)
theorem laws_sameKept.mono_l : ∀ k, (∀ y0 y1 y2, LeO (laws_sameKept.l0 k y0 y1 y2) (laws_sameKept.l0 (k + 1) y0 y1 y2))
 | 0 => fun _ _ _ r h => by simp [laws_sameKept.l0] at h
 | k + 1 => by
  have ih0 := laws_sameKept.mono_l k
  ·intro y0 y1 y2
   unfold laws_sameKept.l0
   repeat' first
   | (with_reducible exact ih0 _ _ _)
   | (with_reducible exact LeO.refl _)
   | (with_reducible exact LeO.none _)
   | (with_reducible refine LeO.ite ?_ ?_)
   | (with_reducible refine LeO.bind ?_ (fun _ => ?_))
   | exact ih0 _ _ _
   | exact LeO.none _
   | refine LeO.ite ?_ ?_
   | refine LeO.bind ?_ (fun _ => ?_)
theorem laws_sameKept.mono : ∀ a0 a1 k, LeO (laws_sameKept.f k a0 a1) (laws_sameKept.f (k + 1) a0 a1) := by
 intro a0 a1 k
 have ih0 := laws_sameKept.mono_l k
 unfold laws_sameKept.f
 repeat' first
   | (with_reducible exact ih0 _ _ _)
   | (with_reducible exact LeO.refl _)
   | (with_reducible exact LeO.none _)
   | (with_reducible refine LeO.ite ?_ ?_)
   | (with_reducible refine LeO.bind ?_ (fun _ => ?_))
   | exact ih0 _ _ _
   | exact LeO.none _
   | refine LeO.ite ?_ ?_
   | refine LeO.bind ?_ (fun _ => ?_)
set_option maxHeartbeats 8000000 in
set_option maxRecDepth 100000 in
theorem laws_sameKept.calls (k : Nat) (A0 : Option Addr) (c0 : Nat) (l0 : List (S83)) (A1 : Option Addr) (c1 : Nat) (l1 : List (S83)) (r : Bool) (w : World) (hr0 : Kd.C k83 w A0 l0.length l0) (hc0 : l0.length ≤ c0) (hr1 : Kd.C k83 w A1 l1.length l1) (hc1 : l1.length ≤ c1) (h : laws_sameKept.f k l0 l1 = some r) :
  Calls Try.prog 46 #[.slice A0 l0.length c0, .slice A1 l1.length c1] w fun e w' => e = .returned (.bool r) ∧ Drawn0 w w' := by
 have hu83 := Try.underlying83
 have HR0 := Aside0.mk hr0
 have HC0 := Aside0.mk hc0
 clear hr0 hc0
 have HR1 := Aside0.mk hr1
 have HC1 := Aside0.mk hc1
 clear hr1 hc1
 have H : (if (l0.length : Int) = (l1.length : Int) then (laws_sameKept.l0 k l0 l1 0) else (some false)) = some r := h
 clear h
 by_cases c3 : (l0.length : Int) = (l1.length : Int)
 ·rw [if_pos c3] at H
  have c3b0 : ((l0.length : Int) == (l1.length : Int)) = true := beq_iff_eq.mpr c3
  have c3b1 : ((l0.length : Int) != (l1.length : Int)) = false := bne_eq_false_iff_eq.mpr c3
  have c3b2 : (l0.length == l1.length) = true := by first | simpa using c3 | (simp at c3 ⊢; omega)
  clear c3
  have H' := Aside0.mk H
  clear H
  go_enter Try.func46, Try.ntmps46
  go_wp2
  repeat (go_quiet (fail); try go_wp2)
  go_loopg [5] k (fun kq v5 w' => ∃ (x5_1 : Int), v5 = .int .i64 x5_1 ∧ Aside0 (laws_sameKept.l0 kq l0 l1 x5_1 = some r) ∧ Aside0 (kq ≤ k) ∧ Drawn0 w w')
  case atStart => exact ⟨(0), (by first | rfl | (simp; done) | (simp [*]; done)), H', ⟨Nat.le_refl _⟩, by repeat (first | exact Drawn0.refl _ | apply Drawn0.step)⟩
  case round =>
   clear H'
   try clear c1
   try clear p2
   try clear c3
   try clear c3b0
   try clear c3b1
   try clear c3b2
   obtain ⟨x5_1, rfl, HA, HK1, ⟨m1, rfl⟩⟩ := hrel
   cases gk with
   | zero => exact absurd HA.out (by simp [laws_sameKept.l0])
   | succ k1 =>
    have H := HA.out
    clear HA
    simp only [laws_sameKept.l0] at H
    by_cases c4 : x5_1 < (l0.length : Int)
    ·rw [if_pos c4] at H
     have c4b0 : decide (x5_1 < (l0.length : Int)) = true := decide_eq_true c4
     clear c4
     by_cases c5 : 0 ≤ x5_1
     ·rw [if_pos c5] at H
      have c5b0 : decide (0 ≤ x5_1) = true := decide_eq_true c5
      clear c5
      by_cases c6 : x5_1 < (l1.length : Int)
      ·rw [if_pos c6] at H
       have c6b0 : decide (x5_1 < (l1.length : Int)) = true := decide_eq_true c6
       clear c6
       by_cases c7 : ((!((((rd_T83 l0 x5_1).f0.f0).toList) == (((rd_T83 l1 x5_1).f0.f0).toList)) || (!(((rd_T83 l0 x5_1).f0.f1) == ((rd_T83 l1 x5_1).f0.f1)) || (!(((rd_T83 l0 x5_1).f0.f2) == ((rd_T83 l1 x5_1).f0.f2)) || (!((((rd_T83 l0 x5_1).f0.f3).toList) == (((rd_T83 l1 x5_1).f0.f3).toList)) || (!(((rd_T83 l0 x5_1).f0.f4) == ((rd_T83 l1 x5_1).f0.f4))))))) || (!(((rd_T83 l0 x5_1).f1) == ((rd_T83 l1 x5_1).f1)))) = true
       ·rw [if_pos c7] at H
        have c7b0 : ((!((((rd_T83 l0 x5_1).f0.f0).toList) == (((rd_T83 l1 x5_1).f0.f0).toList)) || (!(((rd_T83 l0 x5_1).f0.f1) == ((rd_T83 l1 x5_1).f0.f1)) || (!(((rd_T83 l0 x5_1).f0.f2) == ((rd_T83 l1 x5_1).f0.f2)) || (!((((rd_T83 l0 x5_1).f0.f3).toList) == (((rd_T83 l1 x5_1).f0.f3).toList)) || (!(((rd_T83 l0 x5_1).f0.f4) == ((rd_T83 l1 x5_1).f0.f4))))))) || (!(((rd_T83 l0 x5_1).f1) == ((rd_T83 l1 x5_1).f1)))) = true := c7
        clear c7
        obtain rfl := Option.some.inj H
        have p156 : 0 ≤ (x5_1 : Int) := of_decide_eq_true (by first | (with_reducible assumption) | assumption)
        have q156 : x5_1 < (l0.length : Int) := of_decide_eq_true (by first | (with_reducible assumption) | assumption)
        obtain ⟨ad156, e156, hx156_0, hx156_1, hx156_2, hx156_3, hx156_4, hx156_5⟩ := at_T83 HR0.out x5_1 p156 q156
        cases e156
        replace p156 := eq_true p156
        replace q156 := eq_true q156
        have p157 : 0 ≤ (x5_1 : Int) := of_decide_eq_true (by first | (with_reducible assumption) | assumption)
        have q157 : x5_1 < (l1.length : Int) := of_decide_eq_true (by first | (with_reducible assumption) | assumption)
        obtain ⟨ad157, e157, hx157_0, hx157_1, hx157_2, hx157_3, hx157_4, hx157_5⟩ := at_T83 HR1.out x5_1 p157 q157
        cases e157
        replace p157 := eq_true p157
        replace q157 := eq_true q157
        go_wp2
        repeat (go_quiet (fail); try go_wp2)
        go_ret
        exact ⟨by first | rfl | (simp; done) | (simp [*]; done), by repeat (first | exact Drawn0.refl _ | apply Drawn0.step)⟩
       ·rw [if_neg c7] at H
        have c7b0 : ((!((((rd_T83 l0 x5_1).f0.f0).toList) == (((rd_T83 l1 x5_1).f0.f0).toList)) || (!(((rd_T83 l0 x5_1).f0.f1) == ((rd_T83 l1 x5_1).f0.f1)) || (!(((rd_T83 l0 x5_1).f0.f2) == ((rd_T83 l1 x5_1).f0.f2)) || (!((((rd_T83 l0 x5_1).f0.f3).toList) == (((rd_T83 l1 x5_1).f0.f3).toList)) || (!(((rd_T83 l0 x5_1).f0.f4) == ((rd_T83 l1 x5_1).f0.f4))))))) || (!(((rd_T83 l0 x5_1).f1) == ((rd_T83 l1 x5_1).f1)))) = false := by simpa using c7
        clear c7
        have H' := Aside0.mk H
        clear H
        have p156 : 0 ≤ (x5_1 : Int) := of_decide_eq_true (by first | (with_reducible assumption) | assumption)
        have q156 : x5_1 < (l0.length : Int) := of_decide_eq_true (by first | (with_reducible assumption) | assumption)
        obtain ⟨ad156, e156, hx156_0, hx156_1, hx156_2, hx156_3, hx156_4, hx156_5⟩ := at_T83 HR0.out x5_1 p156 q156
        cases e156
        replace p156 := eq_true p156
        replace q156 := eq_true q156
        have p157 : 0 ≤ (x5_1 : Int) := of_decide_eq_true (by first | (with_reducible assumption) | assumption)
        have q157 : x5_1 < (l1.length : Int) := of_decide_eq_true (by first | (with_reducible assumption) | assumption)
        obtain ⟨ad157, e157, hx157_0, hx157_1, hx157_2, hx157_3, hx157_4, hx157_5⟩ := at_T83 HR1.out x5_1 p157 q157
        cases e157
        replace p157 := eq_true p157
        replace q157 := eq_true q157
        go_wp2
        repeat (go_quiet (fail); try go_wp2)
        go_roundg k1
        case measure => have := HK1.out; omega
        case rel => exact ⟨(wrap64 (x5_1 + 1)), (by first | rfl | (simp; done) | (simp [*]; done)), H', ⟨by have := HK1.out; omega⟩, by repeat (first | exact Drawn0.refl _ | apply Drawn0.step)⟩
      ·rw [if_neg c6] at H
       exact absurd H (by simp)
     ·rw [if_neg c5] at H
      exact absurd H (by simp)
    ·rw [if_neg c4] at H
     have c4b0 : decide (x5_1 < (l0.length : Int)) = false := decide_eq_false c4
     clear c4
     obtain rfl := Option.some.inj H
     go_wp2
     repeat (go_quiet (fail); try go_wp2)
     go_ret
     exact ⟨by first | rfl | (simp; done) | (simp [*]; done), by repeat (first | exact Drawn0.refl _ | apply Drawn0.step)⟩
 ·rw [if_neg c3] at H
  have c3b0 : ((l0.length : Int) == (l1.length : Int)) = false := beq_eq_false_iff_ne.mpr c3
  have c3b1 : ((l0.length : Int) != (l1.length : Int)) = true := bne_iff_ne.mpr c3
  have c3b2 : (l0.length == l1.length) = false := by first | simpa using c3 | (simp at c3 ⊢; omega)
  obtain rfl := Option.some.inj H
  go_enter Try.func46, Try.ntmps46
  go_wp2
  repeat (go_quiet (fail); try go_wp2)
  go_ret
  exact ⟨by first | rfl | (simp; done) | (simp [*]; done), by repeat (first | exact Drawn0.refl _ | apply Drawn0.step)⟩

/-- A state of type 96 at block g of W; what its slices lead to came in by w0. -/
def IsS96 (w0 W : World) (g : Nat) (f0 : List Int) (f1 : Int) : Prop := ∃ A0 c0, W.heap[g]? = some (.cells #[.slice A0 f0.length c0, .int .i64 f1] 96 (0, 0)) ∧ w0.heap.size ≤ g ∧ Kd.C (Kd.int .u8) w0 A0 f0.length f0
theorem IsS96.grown {w0 W : World} {g : Nat} {f0 : List Int} {f1 : Int} {W1 : World} {row : Option Nat} (h : IsS96 w0 W g f0 f1) (hw : W.grownBy W1 row) (hne : some g ≠ row) : IsS96 w0 W1 g f0 f1 := by
 obtain ⟨A0, c0, hb, hg, hr0⟩ := h
 exact ⟨A0, c0, blk_grown hb hw hne, hg, hr0⟩
theorem IsS96.own_neN {w0 W : World} {g : Nat} {f0 : List Int} {f1 : Int} {α : Type} {d : Kd α} {e : Nat} {base : Nat} {ok : Nat → Prop} {v : Value} {xs : List α} (h : IsS96 w0 W g f0 f1) (ho : Kd.N d e W base ok v xs) (ht : e ≠ 96) : some g ≠ v.ownBlock := by
 obtain ⟨A0, c0, hb, hg, hr0⟩ := h
 exact Kd.N_ne ho hb ht
theorem IsS96.fresh {w0 W : World} {g : Nat} {f0 : List Int} {f1 : Int} (h : IsS96 w0 W g f0 f1) : ∀ k, W.heap.size ≤ k → k ≠ g := by
 obtain ⟨A0, c0, hb, hg, hr0⟩ := h
 exact Kd.freshB hb
theorem IsS96.kept {w0 W : World} {g : Nat} {f0 : List Int} {f1 : Int} {W1 : World} {S : Nat → Prop} (h : IsS96 w0 W g f0 f1) (hk : Kept W W1 S) (hne : ¬ S g) : IsS96 w0 W1 g f0 f1 := by
 obtain ⟨A0, c0, hb, hg, hr0⟩ := h
 exact ⟨A0, c0, blk_kept hb hk hne, hg, hr0⟩
theorem IsS96.below {w0 W : World} {g : Nat} {f0 : List Int} {f1 : Int} {W1 : World} (h : IsS96 w0 W g f0 f1) (hw : Below W.heap.size W W1) : IsS96 w0 W1 g f0 f1 := h.grown (grown_of_below hw none) (by simp)
theorem IsS96.alloc {w0 W : World} {g : Nat} {f0 : List Int} {f1 : Int} (h : IsS96 w0 W g f0 f1) (o : Obj) : IsS96 w0 (W.alloc o) g f0 f1 := h.below (below_alloc (Below.refl _ _) o)
theorem IsS96.drewN {w0 W : World} {g : Nat} {f0 : List Int} {f1 : Int} (h : IsS96 w0 W g f0 f1) (m : Nat) : IsS96 w0 (W.drewN m) g f0 f1 := h
theorem IsS96.drew {w0 W : World} {g : Nat} {f0 : List Int} {f1 : Int} (h : IsS96 w0 W g f0 f1) : IsS96 w0 W.drew g f0 f1 := h
theorem IsS96.at_ {w0 W : World} {g : Nat} {f0 : List Int} {f1 : Int} {w' : World} {m : Nat} (hq : W.drewN m = w') (h : IsS96 w0 W g f0 f1) : IsS96 w0 w' g f0 f1 := by subst hq; exact IsS96.drewN h m
theorem IsS96.apart {w0 W : World} {g : Nat} {f0 : List Int} {f1 : Int} {α : Type} {d : Kd α} {e : Nat} {base : Nat} {ok : Nat → Prop} {v : Value} {xs : List α} (h : IsS96 w0 W g f0 f1) (ho : d.R e W base ok v xs) (ht : ∀ q, q ∈ e :: d.E → q ≠ 96) : d.R e W base (fun k => ok k ∧ k ≠ g) v xs := by
 obtain ⟨A0, c0, hb, hg, hr0⟩ := h
 exact Kd.R_types ho hb ht
theorem IsS96.own_ne {w0 W : World} {g : Nat} {f0 : List Int} {f1 : Int} {α : Type} {d : Kd α} {e : Nat} {base : Nat} {ok : Nat → Prop} {v : Value} {xs : List α} (h : IsS96 w0 W g f0 f1) (ho : d.R e W base ok v xs) (ht : e ≠ 96) : some g ≠ v.ownBlock := by
 obtain ⟨A0, c0, hb, hg, hr0⟩ := h
 exact Kd.R_ne ho hb ht
theorem IsS96.apartQ {w0 W : World} {g : Nat} {f0 : List Int} {f1 : Int} {α : Type} {d : Kd α} {e : Nat} {base : Nat} {ok : Nat → Prop} {v : Value} {xs : List α} (h : IsS96 w0 W g f0 f1) (ho : d.Q e W base ok v xs) (ht : ∀ q, q ∈ e :: d.E → q ≠ 96) : d.Q e W base (fun k => ok k ∧ k ≠ g) v xs := by
 obtain ⟨A0, c0, hb, hg, hr0⟩ := h
 exact Kd.Q_types ho hb ht
theorem IsS96.own_neQ {w0 W : World} {g : Nat} {f0 : List Int} {f1 : Int} {α : Type} {d : Kd α} {e : Nat} {base : Nat} {ok : Nat → Prop} {v : Value} {xs : List α} (h : IsS96 w0 W g f0 f1) (ho : d.Q e W base ok v xs) (ht : e ≠ 96) : some g ≠ v.ownBlock := by
 obtain ⟨A0, c0, hb, hg, hr0⟩ := h
 exact Kd.Q_ne ho hb ht
theorem IsS96.apartS {w0 W : World} {g : Nat} {f0 : List Int} {f1 : Int} {α : Type} {d : Kd α} {e : Nat} {base : Nat} {ok : Nat → Prop} {v : Value} {xs : List α} (h : IsS96 w0 W g f0 f1) (ho : d.S e W base ok v xs) (ht : ∀ q, q ∈ e :: d.E → q ≠ 96) : d.S e W base (fun k => ok k ∧ k ≠ g) v xs := by
 obtain ⟨A0, c0, hb, hg, hr0⟩ := h
 exact Kd.S_types ho hb ht
theorem IsS96.own_neS {w0 W : World} {g : Nat} {f0 : List Int} {f1 : Int} {α : Type} {d : Kd α} {e : Nat} {base : Nat} {ok : Nat → Prop} {v : Value} {xs : List α} (h : IsS96 w0 W g f0 f1) (ho : d.S e W base ok v xs) (ht : e ≠ 96) : some g ≠ v.ownBlock := by
 obtain ⟨A0, c0, hb, hg, hr0⟩ := h
 exact Kd.S_ne ho hb ht
theorem IsS96.lt {w0 W : World} {g : Nat} {f0 : List Int} {f1 : Int} (h : IsS96 w0 W g f0 f1) : g < W.heap.size := by
 obtain ⟨A0, c0, hb, hg, hr0⟩ := h
 exact blk_lt hb
theorem IsS96.ge {w0 W : World} {g : Nat} {f0 : List Int} {f1 : Int} (h : IsS96 w0 W g f0 f1) : w0.heap.size ≤ g := by
 obtain ⟨A0, c0, hb, hg, hr0⟩ := h
 exact hg
theorem IsS96.ne_blk {w0 W : World} {g : Nat} {f0 : List Int} {f1 : Int} {a : Nat} {cs : Array Value} {t : TypeId} {fr : Nat × Nat} (h : IsS96 w0 W g f0 f1) (hb2 : W.heap[a]? = some (.cells cs t fr)) (ht : t ≠ 96) : g ≠ a := by
 obtain ⟨A0, c0, hb, hg, hr0⟩ := h
 rintro rfl
 rw [hb] at hb2
 injection hb2 with hb2
 injection hb2 with _ ht2
 exact ht ht2.symm
theorem IsS96.far {w0 W : World} {g : Nat} {f0 : List Int} {f1 : Int} {p : Addr} (h : IsS96 w0 W g f0 f1) (hne : g ≠ p.block) (u : Value) : IsS96 w0 (W.setCell p u) g f0 f1 := by
 obtain ⟨A0, c0, hb, hg, hr0⟩ := h
 exact ⟨A0, c0, blk_far hb hne u, hg, hr0⟩
theorem cellS96_0 {W : World} {g : Nat} {A0 : Option Addr} {c0 : Nat} {f0 : List Int} {f1 : Int} (h : W.heap[g]? = some (.cells #[.slice A0 f0.length c0, .int .i64 f1] 96 (0, 0))) : W.cell? ⟨g, 0, none⟩ = some (.slice A0 f0.length c0) := (blk_cell h 0).trans rfl
theorem cellS96_1 {W : World} {g : Nat} {A0 : Option Addr} {c0 : Nat} {f0 : List Int} {f1 : Int} (h : W.heap[g]? = some (.cells #[.slice A0 f0.length c0, .int .i64 f1] 96 (0, 0))) : W.cell? ⟨g, 1, none⟩ = some (.int .i64 f1) := (blk_cell h 1).trans rfl
theorem IsS96.set_1 {w0 W : World} {g : Nat} {f0 : List Int} {f1 : Int} (h : IsS96 w0 W g f0 f1) (x : Int) : IsS96 w0 (W.setCell ⟨g, 1, none⟩ (.int .i64 x)) g f0 x := by
 obtain ⟨A0, c0, hb, hg, hr0⟩ := h
 exact ⟨A0, c0, by simpa using blk_set hb 1 (.int .i64 x), hg, hr0⟩
theorem IsS96.new (w0 W : World) (A0 : Option Addr) (c0 : Nat) (f0 : List Int) (f1 : Int) (hB : Below w0.heap.size w0 W) (hr0 : Kd.C (Kd.int .u8) w0 A0 f0.length f0) : IsS96 w0 (W.alloc (.cells #[.slice A0 f0.length c0, .int .i64 f1] 96)) W.heap.size f0 f1 := ⟨A0, c0, by simpa using heap_alloc_new W _, hB.size, hr0⟩

/-! ### spec_l20Open: function 60 -/
def spec_l20Open.f (l0 : List Int) : Option (List Int × Int) := if (l0.length : Int) > 2000 then (if 2000 ≤ (l0.length : Int) then (some (l0.take 2000, 0)) else (none)) else (some (l0, 0))
set_option maxHeartbeats 8000000 in
set_option maxRecDepth 100000 in
theorem spec_l20Open.calls (A0 : Option Addr) (c0 : Nat) (l0 : List Int) (r1 : List Int) (r2 : Int) (w0 w : World) (hB : Below w0.heap.size w0 w) (hr0 : Kd.C (Kd.int .u8) w0 A0 l0.length l0) (hc0 : l0.length ≤ c0) (h : spec_l20Open.f l0 = some (r1, r2)) :
  Calls Try.prog 60 #[.slice A0 l0.length c0] w fun e w' => ∃ g_ : Nat, e = .returned (.pointer (some ⟨g_, 0, none⟩)) ∧ IsS96 w0 w' g_ r1 r2 ∧ Below w0.heap.size w0 w' ∧ Below w.heap.size w w' := by
 have hu96 := Try.underlying96
 have HR0 := Aside0.mk hr0
 have HC0 := Aside0.mk hc0
 clear hr0 hc0
 have HBW := Aside0.mk (Below.refl w.heap.size w)
 have HW0 := Aside0.mk hB.size
 have HB := Aside0.mk hB
 clear hB
 have H : (if (l0.length : Int) > 2000 then (if 2000 ≤ (l0.length : Int) then (some (l0.take 2000, 0)) else (none)) else (some (l0, 0))) = some (r1, r2) := h
 clear h
 by_cases c2 : (l0.length : Int) > 2000
 ·rw [if_pos c2] at H
  have c2b0 : decide (2000 < (l0.length : Int)) = true := decide_eq_true c2
  have c2b1 : decide (2000 < l0.length) = true := decide_eq_true (by omega)
  clear c2
  by_cases c3 : 2000 ≤ (l0.length : Int)
  ·rw [if_pos c3] at H
   have c3b0 := eq_true c3
   have c3b1 : decide (2000 ≤ (l0.length : Int)) = true := decide_eq_true c3
   clear c3
   simp only [Option.some.injEq, Prod.mk.injEq] at H
   obtain ⟨rfl, rfl⟩ := H
   obtain ⟨i04, hi04, _, hsz4, _⟩ := info_parts info5
   obtain ⟨hcut4, hA4, hC4⟩ := print_take_of (P := Try.prog) (Value.int .u8) 0 29 5 .i64 Try.underlying29 hi04 hsz4 A0 c0 l0 2000 (by omega) (of_decide_eq_true (by first | (with_reducible assumption) | assumption)) HC0.out
   have HR158 := Aside0.mk (Kd.C_of_reads (h1 := fun _ => rfl) (hA4 _ (Kd.reads_of_C HR0.out)))
   have HC158 := Aside0.mk hC4
   clear hA4 hC4 hi04 hsz4
   go_enter Try.func60, Try.ntmps60
   go_wp2_with (first | ((with_reducible refine gate_dst (N := 10) rfl ?_); refine box_event ?hg (N := 10) ?hd (cs := #[.slice A0 (l0.take 2000).length c0, .int .i64 0]) (t := 96) ?hr ?_; (case hd => rfl); (case hg => rfl); (case hr => first | (go_simp; done) | (go_simp; rfl)); intro gb159 hg w5 hbox hb; have n0_ := Aside0.mk (below_step HBW.out hb); have n1_ := Aside0.mk (below_step (by repeat (first | (with_reducible first | exact HB.out | apply below_alloc | apply pw_below_drewN | apply below_drew1) | exact HB.out)) hb); have n2_ := Aside0.mk (hbox); have n3_ := Aside0.mk ((by rw [hg]; exact (below_size (by repeat (first | (with_reducible first | exact HBW.out | apply below_alloc | apply pw_below_drewN | apply below_drew1) | exact HBW.out))) : w.heap.size ≤ gb159)); have n4_ := Aside0.mk ((Nat.le_trans HW0.out (by rw [hg]; exact (below_size (by repeat (first | (with_reducible first | exact HBW.out | apply below_alloc | apply pw_below_drewN | apply below_drew1) | exact HBW.out))) : w.heap.size ≤ gb159) : w0.heap.size ≤ gb159)); clear HBW; clear HB; have HBW := n0_; have HB := n1_; have BK159 := n2_; have GW159 := n3_; have GE159 := n4_; clear n0_ n1_ n2_ n3_ n4_; clear hb hbox hg))
   go_ret
   exact ⟨_, rfl, (show IsS96 w0 _ gb159 (l0.take 2000) 0 from ⟨_, _, by (with_reducible repeat (first | refine blk_drewN ?_ _ | refine blk_drew ?_ | refine blk_alloc ?_ _)); exact BK159.out, GE159.out, HR158.out⟩), by repeat (first | (with_reducible first | exact HB.out | apply below_alloc | apply pw_below_drewN | apply below_drew1 | refine below_set ?_ GE159.out) | exact HB.out), by repeat (first | (with_reducible first | exact HBW.out | apply below_alloc | apply pw_below_drewN | apply below_drew1 | refine below_set ?_ GW159.out) | exact HBW.out)⟩
  ·rw [if_neg c3] at H
   exact absurd H (by simp)
 ·rw [if_neg c2] at H
  have c2b0 : decide (2000 < (l0.length : Int)) = false := decide_eq_false c2
  have c2b1 : decide (2000 < l0.length) = false := decide_eq_false (by omega)
  clear c2
  simp only [Option.some.injEq, Prod.mk.injEq] at H
  obtain ⟨rfl, rfl⟩ := H
  go_enter Try.func60, Try.ntmps60
  go_wp2_with (first | ((with_reducible refine gate_dst (N := 10) rfl ?_); refine box_event ?hg (N := 10) ?hd (cs := #[.slice A0 l0.length c0, .int .i64 0]) (t := 96) ?hr ?_; (case hd => rfl); (case hg => rfl); (case hr => first | (go_simp; done) | (go_simp; rfl)); intro gb160 hg w6 hbox hb; have n0_ := Aside0.mk (below_step HBW.out hb); have n1_ := Aside0.mk (below_step (by repeat (first | (with_reducible first | exact HB.out | apply below_alloc | apply pw_below_drewN | apply below_drew1) | exact HB.out)) hb); have n2_ := Aside0.mk (hbox); have n3_ := Aside0.mk ((by rw [hg]; exact (below_size (by repeat (first | (with_reducible first | exact HBW.out | apply below_alloc | apply pw_below_drewN | apply below_drew1) | exact HBW.out))) : w.heap.size ≤ gb160)); have n4_ := Aside0.mk ((Nat.le_trans HW0.out (by rw [hg]; exact (below_size (by repeat (first | (with_reducible first | exact HBW.out | apply below_alloc | apply pw_below_drewN | apply below_drew1) | exact HBW.out))) : w.heap.size ≤ gb160) : w0.heap.size ≤ gb160)); clear HBW; clear HB; have HBW := n0_; have HB := n1_; have BK160 := n2_; have GW160 := n3_; have GE160 := n4_; clear n0_ n1_ n2_ n3_ n4_; clear hb hbox hg))
  go_ret
  exact ⟨_, rfl, (show IsS96 w0 _ gb160 l0 0 from ⟨_, _, by (with_reducible repeat (first | refine blk_drewN ?_ _ | refine blk_drew ?_ | refine blk_alloc ?_ _)); exact BK160.out, GE160.out, HR0.out⟩), by repeat (first | (with_reducible first | exact HB.out | apply below_alloc | apply pw_below_drewN | apply below_drew1 | refine below_set ?_ GE160.out) | exact HB.out), by repeat (first | (with_reducible first | exact HBW.out | apply below_alloc | apply pw_below_drewN | apply below_drew1 | refine below_set ?_ GW160.out) | exact HBW.out)⟩

/-! ### spec_l20Rd_pick: function 69 -/
def spec_l20Rd_pick.j0 : Nat → Int → Bool → List Int → Int → Option (Int × Int)
 | 0, _, _, _, _ => none
 | k + 1, x1, x24, x1000, x1001 => if x24 = true then (some (0, x1001)) else (if (wrap64 (x1001 - 1)) < (x1000.length : Int) then (if 0 ≤ (wrap64 (x1001 - 1)) then (if x1 = 0 then (none) else (some (Int.tmod (wrap64 (rd x1000 (wrap64 (x1001 - 1)))) x1, x1001))) else (none)) else (if (x1000.length : Int) = 0 then (none) else (if 0 ≤ (Int.tmod (wrap64 (x1001 - 1)) (x1000.length : Int)) then (if (Int.tmod (wrap64 (x1001 - 1)) (x1000.length : Int)) < (x1000.length : Int) then (if 0 ≤ (Int.tmod (wrap64 ((wrap64 ((wrap64 (x1001 - 1)) * 7)) + 3)) (x1000.length : Int)) then (if (Int.tmod (wrap64 ((wrap64 ((wrap64 (x1001 - 1)) * 7)) + 3)) (x1000.length : Int)) < (x1000.length : Int) then (if x1 = 0 then (none) else (some (Int.tmod (Go.bits .xor .i64 (wrap64 ((wrap64 ((wrap64 ((wrap64 ((wrap64 (rd x1000 (Int.tmod (wrap64 (x1001 - 1)) (x1000.length : Int)))) * 131)) + (wrap64 ((wrap64 (rd x1000 (Int.tmod (wrap64 ((wrap64 ((wrap64 (x1001 - 1)) * 7)) + 3)) (x1000.length : Int)))) * 1117)))) + (wrap64 ((wrap64 (x1001 - 1)) * 29)))) + (wrap64 ((wrap64 (Int.tdiv (wrap64 (x1001 - 1)) (x1000.length : Int))) * 53)))) (wrap64 (Int.tdiv (wrap64 ((wrap64 ((wrap64 ((wrap64 ((wrap64 (rd x1000 (Int.tmod (wrap64 (x1001 - 1)) (x1000.length : Int)))) * 131)) + (wrap64 ((wrap64 (rd x1000 (Int.tmod (wrap64 ((wrap64 ((wrap64 (x1001 - 1)) * 7)) + 3)) (x1000.length : Int)))) * 1117)))) + (wrap64 ((wrap64 (x1001 - 1)) * 29)))) + (wrap64 ((wrap64 (Int.tdiv (wrap64 (x1001 - 1)) (x1000.length : Int))) * 53)))) 64))) x1, x1001))) else (none)) else (none)) else (none)) else (none))))
def spec_l20Rd_pick.f (k : Nat) (s0_0 : List Int) (s0_1 : Int) (a1 : Int) : Option (Int × Int) := if a1 < 1 then (spec_l20Rd_pick.j0 k a1 true s0_0 (wrap64 (s0_1 + 1))) else (spec_l20Rd_pick.j0 k a1 ((s0_0.length : Int) == 0) s0_0 (wrap64 (s0_1 + 1)))
theorem spec_l20Rd_pick.mono_l : ∀ k, (∀ y0 y1 y2 y3, LeO (spec_l20Rd_pick.j0 k y0 y1 y2 y3) (spec_l20Rd_pick.j0 (k + 1) y0 y1 y2 y3))
 | 0 => fun _ _ _ _ r h => by simp [spec_l20Rd_pick.j0] at h
 | k + 1 => by
  have ih0 := spec_l20Rd_pick.mono_l k
  ·intro y0 y1 y2 y3
   unfold spec_l20Rd_pick.j0
   repeat' first
   | (with_reducible exact ih0 _ _ _ _)
   | (with_reducible exact LeO.refl _)
   | (with_reducible exact LeO.none _)
   | (with_reducible refine LeO.ite ?_ ?_)
   | (with_reducible refine LeO.bind ?_ (fun _ => ?_))
   | exact ih0 _ _ _ _
   | exact LeO.none _
   | refine LeO.ite ?_ ?_
   | refine LeO.bind ?_ (fun _ => ?_)
theorem spec_l20Rd_pick.mono : ∀ a0 a1 a2 k, LeO (spec_l20Rd_pick.f k a0 a1 a2) (spec_l20Rd_pick.f (k + 1) a0 a1 a2) := by
 intro a0 a1 a2 k
 have ih0 := spec_l20Rd_pick.mono_l k
 unfold spec_l20Rd_pick.f
 repeat' first
   | (with_reducible exact ih0 _ _ _ _)
   | (with_reducible exact LeO.refl _)
   | (with_reducible exact LeO.none _)
   | (with_reducible refine LeO.ite ?_ ?_)
   | (with_reducible refine LeO.bind ?_ (fun _ => ?_))
   | exact ih0 _ _ _ _
   | exact LeO.none _
   | refine LeO.ite ?_ ?_
   | refine LeO.bind ?_ (fun _ => ?_)
set_option maxHeartbeats 8000000 in
set_option maxRecDepth 100000 in
theorem spec_l20Rd_pick.calls (k : Nat) (g : Nat) (s0_0 : List Int) (s0_1 : Int) (a1 : Int) (r1 : Int) (r2 : Int) (w0 w : World) (hI : IsS96 w0 w g s0_0 s0_1) (hB : Below w0.heap.size w0 w) (h : spec_l20Rd_pick.f k s0_0 s0_1 a1 = some (r1, r2)) :
  Calls Try.prog 69 #[.pointer (some ⟨g, 0, none⟩), .int .i64 a1] w fun e w' => e = .returned (.int .i64 r1) ∧ IsS96 w0 w' g s0_0 r2 ∧ Below w0.heap.size w0 w' ∧ KeepBut w w' g none := by
 have HI0 := Aside0.mk hI
 have HK := Aside0.mk (KeepBut.refl w g none)
 have HL := Aside0.mk hB.size
 clear hI
 have HW0 := Aside0.mk hB.size
 have HB := Aside0.mk hB
 clear hB
 have H : (if a1 < 1 then (spec_l20Rd_pick.j0 k a1 true s0_0 (wrap64 (s0_1 + 1))) else (spec_l20Rd_pick.j0 k a1 ((s0_0.length : Int) == 0) s0_0 (wrap64 (s0_1 + 1)))) = some (r1, r2) := h
 clear h
 have HC3 := Aside0.mk H
 clear H
 obtain ⟨ASz4_0, cSz4_0, HGz4, hgz4, HSz4_0⟩ := HI0.out
 have hcz4_0 := cellS96_0 HGz4
 have hcz4_1 := cellS96_1 HGz4
 have hfz4_1 := blk_frozen HGz4 1
 clear HGz4 hgz4
 go_enter Try.func69, Try.ntmps69
 go_upto_region 2 with (fail)
 repeat (go_quiet (fail); go_upto_region 2 with (fail))
 go_cut [24] (fun v24 wc => ∃ (kq : Nat) (x24_2 : Bool), v24 = .bool x24_2 ∧ Aside0 (spec_l20Rd_pick.j0 kq a1 x24_2 s0_0 (wrap64 (s0_1 + 1)) = some (r1, r2)) ∧ Aside0 (kq ≤ k) ∧ Aside0 (IsS96 w0 wc g s0_0 (wrap64 (s0_1 + 1))) ∧ Aside0 (KeepBut w wc g none) ∧ Aside0 (Below w0.heap.size w0 wc))
 case first =>
  have H := HC3.out
  clear HC3
  by_cases c5 : a1 < 1
  ·rw [if_pos c5] at H
   have c5b0 : decide (a1 < 1) = true := decide_eq_true c5
   clear c5
   (first | rw [c5b0] | (simp only [i64_w, i32_w]; rw [c5b0]) | skip)
   have H' := Aside0.mk H
   clear H
   go_wp2
   repeat (go_quiet (fail); try go_wp2)
   go_meet
   case rel => exact ⟨_, (true), (by first | rfl | (simp; done) | (simp [*]; done)), H', ⟨by first | omega | exact Nat.le_refl _⟩, ⟨by repeat (first | (with_reducible first | exact HI0.out | apply IsS96.alloc | apply IsS96.drewN | apply IsS96.drew | apply IsS96.set_1) | exact HI0.out)⟩, ⟨by repeat (first | (with_reducible first | exact HK.out | apply KeepBut.set_ | apply keep_drewN | apply keep_drew | apply keep_alloc) | exact HK.out)⟩, ⟨by repeat (first | (with_reducible first | exact HB.out | apply below_alloc | apply pw_below_drewN | apply below_drew1 | refine below_set ?_ (IsS96.ge HI0.out)) | exact HB.out)⟩⟩
  ·rw [if_neg c5] at H
   have c5b0 : decide (a1 < 1) = false := decide_eq_false c5
   clear c5
   (first | rw [c5b0] | (simp only [i64_w, i32_w]; rw [c5b0]) | skip)
   have H' := Aside0.mk H
   clear H
   obtain ⟨ASz6_0, cSz6_0, HGz6, hgz6, HSz6_0⟩ := HI0.out
   have hcz6_0 := cellS96_0 HGz6
   have hcz6_1 := cellS96_1 HGz6
   have hfz6_1 := blk_frozen HGz6 1
   clear HGz6 hgz6
   go_wp2
   repeat (go_quiet (fail); try go_wp2)
   go_meet
   case rel => exact ⟨_, (((s0_0.length : Int) == 0)), (by first | rfl | (simp; done) | (simp [*]; done)), H', ⟨by first | omega | exact Nat.le_refl _⟩, ⟨by repeat (first | (with_reducible first | exact HI0.out | apply IsS96.alloc | apply IsS96.drewN | apply IsS96.drew | apply IsS96.set_1) | exact HI0.out)⟩, ⟨by repeat (first | (with_reducible first | exact HK.out | apply KeepBut.set_ | apply keep_drewN | apply keep_drew | apply keep_alloc) | exact HK.out)⟩, ⟨by repeat (first | (with_reducible first | exact HB.out | apply below_alloc | apply pw_below_drewN | apply below_drew1 | refine below_set ?_ (IsS96.ge HI0.out)) | exact HB.out)⟩⟩
 case rest =>
  clear HC3
  try clear p2
  try clear c5
  try clear c5b0
  try clear c6
  try clear p6
  try clear hcz4_0
  try clear hcz4_1
  try clear hcz6_0
  try clear hcz6_1
  try clear hfz4_1
  try clear hfz6_1
  obtain ⟨kq, x24_2, rfl, HA, HJ2, HI0, HK, HB⟩ := hcut
  cases kq with
  | zero => exact absurd HA.out (by simp [spec_l20Rd_pick.j0])
  | succ kj2 =>
   have H := HA.out
   clear HA
   simp only [spec_l20Rd_pick.j0] at H
   by_cases c7 : x24_2 = true
   ·subst c7
    rw [if_pos rfl] at H
    simp only [Option.some.injEq, Prod.mk.injEq] at H
    obtain ⟨rfl, rfl⟩ := H
    go_wp2
    repeat (go_quiet (fail); try go_wp2)
    go_ret
    exact ⟨by first | rfl | (simp [errW_none, errW_some] <;> rfl) | (simp [*, errW_none, errW_some] <;> rfl), by repeat (first | (with_reducible first | exact HI0.out | apply IsS96.alloc | apply IsS96.drewN | apply IsS96.drew | apply IsS96.set_1) | exact HI0.out), by repeat (first | (with_reducible first | exact HB.out | apply below_alloc | apply pw_below_drewN | apply below_drew1 | refine below_set ?_ (IsS96.ge HI0.out)) | exact HB.out), by repeat (first | (with_reducible first | exact HK.out | apply KeepBut.set_ | apply keep_drewN | apply keep_drew | apply keep_alloc) | exact HK.out)⟩
   ·replace c7 := Bool.eq_false_iff.mpr c7
    subst c7
    rw [if_neg (show ¬ (false = true) by decide)] at H
    by_cases c8 : (wrap64 ((wrap64 (s0_1 + 1)) - 1)) < (s0_0.length : Int)
    ·rw [if_pos c8] at H
     have c8b0 : decide ((wrap64 ((wrap64 (s0_1 + 1)) - 1)) < (s0_0.length : Int)) = true := decide_eq_true c8
     clear c8
     obtain ⟨ji9, hji9⟩ : ∃ j_ : Int, (wrap64 ((wrap64 (s0_1 + 1)) - 1)) = j_ := ⟨_, rfl⟩
     replace H : (if 0 ≤ (ji9) then (if a1 = 0 then (none) else (some (Int.tmod (wrap64 (rd s0_0 (ji9))) a1, (wrap64 (s0_1 + 1))))) else (none)) = some (r1, r2) := by first | (rw [hji9] at H; exact H) | (simp only [hji9] at H ⊢; exact H)
     (try rw [hji9] at c8b0)
     have hji9w : (IntKind.i64.wrap ((wrap64 (s0_1 + 1)) - 1)) = ji9 := (i64_w _).trans hji9
     by_cases c10 : 0 ≤ (ji9)
     ·rw [if_pos c10] at H
      have c10b0 : decide (0 ≤ (ji9)) = true := decide_eq_true c10
      clear c10
      by_cases c11 : a1 = 0
      ·rw [if_pos c11] at H
       exact absurd H (by simp)
      ·rw [if_neg c11] at H
       have c11b0 : (a1 == 0) = false := beq_eq_false_iff_ne.mpr c11
       have c11b1 : (a1 != 0) = true := bne_iff_ne.mpr c11
       simp only [Option.some.injEq, Prod.mk.injEq] at H
       obtain ⟨rfl, rfl⟩ := H
       obtain ⟨ASz12_0, cSz12_0, HGz12, hgz12, HSz12_0⟩ := HI0.out
       have hcz12_0 := cellS96_0 HGz12
       have hcz12_1 := cellS96_1 HGz12
       have hfz12_1 := blk_frozen HGz12 1
       clear HGz12 hgz12
       have p161 : 0 ≤ ((ji9) : Int) := of_decide_eq_true (by first | (with_reducible assumption) | assumption)
       have q161 : (ji9) < (s0_0.length : Int) := of_decide_eq_true (by first | (with_reducible assumption) | assumption)
       obtain ⟨ad161, e161, hx161_0⟩ := Kd.at_int HSz12_0 (ji9) p161 q161
       cases e161
       replace hx161_0 := pw_cell_below HB.out hx161_0
       replace p161 := eq_true p161
       replace q161 := eq_true q161
       go_wp2
       repeat (go_quiet (fail); try go_wp2)
       go_ret
       exact ⟨by first | rfl | (simp [errW_none, errW_some] <;> rfl) | (simp only [← hji9]; first | rfl | (simp [errW_none, errW_some] <;> rfl)) | (simp [*, errW_none, errW_some] <;> rfl), by repeat (first | (with_reducible first | exact HI0.out | apply IsS96.alloc | apply IsS96.drewN | apply IsS96.drew | apply IsS96.set_1) | exact HI0.out), by repeat (first | (with_reducible first | exact HB.out | apply below_alloc | apply pw_below_drewN | apply below_drew1 | refine below_set ?_ (IsS96.ge HI0.out)) | exact HB.out), by repeat (first | (with_reducible first | exact HK.out | apply KeepBut.set_ | apply keep_drewN | apply keep_drew | apply keep_alloc) | exact HK.out)⟩
     ·rw [if_neg c10] at H
      exact absurd H (by simp)
    ·rw [if_neg c8] at H
     have c8b0 : decide ((wrap64 ((wrap64 (s0_1 + 1)) - 1)) < (s0_0.length : Int)) = false := decide_eq_false c8
     clear c8
     by_cases c13 : (s0_0.length : Int) = 0
     ·rw [if_pos c13] at H
      exact absurd H (by simp)
     ·rw [if_neg c13] at H
      have c13b0 : ((s0_0.length : Int) == 0) = false := beq_eq_false_iff_ne.mpr c13
      have c13b1 : ((s0_0.length : Int) != 0) = true := bne_iff_ne.mpr c13
      have c13b2 : ¬ (s0_0 = []) := fun h_ => c13 (by rw [h_]; rfl)
      obtain ⟨ji14, hji14⟩ : ∃ j_ : Int, (Int.tmod (wrap64 ((wrap64 (s0_1 + 1)) - 1)) (s0_0.length : Int)) = j_ := ⟨_, rfl⟩
      replace H : (if 0 ≤ (ji14) then (if (ji14) < (s0_0.length : Int) then (if 0 ≤ (Int.tmod (wrap64 ((wrap64 ((wrap64 ((wrap64 (s0_1 + 1)) - 1)) * 7)) + 3)) (s0_0.length : Int)) then (if (Int.tmod (wrap64 ((wrap64 ((wrap64 ((wrap64 (s0_1 + 1)) - 1)) * 7)) + 3)) (s0_0.length : Int)) < (s0_0.length : Int) then (if a1 = 0 then (none) else (some (Int.tmod (Go.bits .xor .i64 (wrap64 ((wrap64 ((wrap64 ((wrap64 ((wrap64 (rd s0_0 (ji14))) * 131)) + (wrap64 ((wrap64 (rd s0_0 (Int.tmod (wrap64 ((wrap64 ((wrap64 ((wrap64 (s0_1 + 1)) - 1)) * 7)) + 3)) (s0_0.length : Int)))) * 1117)))) + (wrap64 ((wrap64 ((wrap64 (s0_1 + 1)) - 1)) * 29)))) + (wrap64 ((wrap64 (Int.tdiv (wrap64 ((wrap64 (s0_1 + 1)) - 1)) (s0_0.length : Int))) * 53)))) (wrap64 (Int.tdiv (wrap64 ((wrap64 ((wrap64 ((wrap64 ((wrap64 (rd s0_0 (ji14))) * 131)) + (wrap64 ((wrap64 (rd s0_0 (Int.tmod (wrap64 ((wrap64 ((wrap64 ((wrap64 (s0_1 + 1)) - 1)) * 7)) + 3)) (s0_0.length : Int)))) * 1117)))) + (wrap64 ((wrap64 ((wrap64 (s0_1 + 1)) - 1)) * 29)))) + (wrap64 ((wrap64 (Int.tdiv (wrap64 ((wrap64 (s0_1 + 1)) - 1)) (s0_0.length : Int))) * 53)))) 64))) a1, (wrap64 (s0_1 + 1))))) else (none)) else (none)) else (none)) else (none)) = some (r1, r2) := by first | (rw [hji14] at H; exact H) | (simp only [hji14] at H ⊢; exact H)
      by_cases c15 : 0 ≤ (ji14)
      ·rw [if_pos c15] at H
       have c15b0 : decide (0 ≤ (ji14)) = true := decide_eq_true c15
       clear c15
       by_cases c16 : (ji14) < (s0_0.length : Int)
       ·rw [if_pos c16] at H
        have c16b0 : decide ((ji14) < (s0_0.length : Int)) = true := decide_eq_true c16
        clear c16
        obtain ⟨ji17, hji17⟩ : ∃ j_ : Int, (Int.tmod (wrap64 ((wrap64 ((wrap64 ((wrap64 (s0_1 + 1)) - 1)) * 7)) + 3)) (s0_0.length : Int)) = j_ := ⟨_, rfl⟩
        replace H : (if 0 ≤ (ji17) then (if (ji17) < (s0_0.length : Int) then (if a1 = 0 then (none) else (some (Int.tmod (Go.bits .xor .i64 (wrap64 ((wrap64 ((wrap64 ((wrap64 ((wrap64 (rd s0_0 (ji14))) * 131)) + (wrap64 ((wrap64 (rd s0_0 (ji17))) * 1117)))) + (wrap64 ((wrap64 ((wrap64 (s0_1 + 1)) - 1)) * 29)))) + (wrap64 ((wrap64 (Int.tdiv (wrap64 ((wrap64 (s0_1 + 1)) - 1)) (s0_0.length : Int))) * 53)))) (wrap64 (Int.tdiv (wrap64 ((wrap64 ((wrap64 ((wrap64 ((wrap64 (rd s0_0 (ji14))) * 131)) + (wrap64 ((wrap64 (rd s0_0 (ji17))) * 1117)))) + (wrap64 ((wrap64 ((wrap64 (s0_1 + 1)) - 1)) * 29)))) + (wrap64 ((wrap64 (Int.tdiv (wrap64 ((wrap64 (s0_1 + 1)) - 1)) (s0_0.length : Int))) * 53)))) 64))) a1, (wrap64 (s0_1 + 1))))) else (none)) else (none)) = some (r1, r2) := by first | (rw [hji17] at H; exact H) | (simp only [hji17] at H ⊢; exact H)
        by_cases c18 : 0 ≤ (ji17)
        ·rw [if_pos c18] at H
         have c18b0 : decide (0 ≤ (ji17)) = true := decide_eq_true c18
         clear c18
         by_cases c19 : (ji17) < (s0_0.length : Int)
         ·rw [if_pos c19] at H
          have c19b0 : decide ((ji17) < (s0_0.length : Int)) = true := decide_eq_true c19
          clear c19
          by_cases c20 : a1 = 0
          ·rw [if_pos c20] at H
           exact absurd H (by simp)
          ·rw [if_neg c20] at H
           have c20b0 : (a1 == 0) = false := beq_eq_false_iff_ne.mpr c20
           have c20b1 : (a1 != 0) = true := bne_iff_ne.mpr c20
           simp only [Option.some.injEq, Prod.mk.injEq] at H
           obtain ⟨rfl, rfl⟩ := H
           obtain ⟨ASz21_0, cSz21_0, HGz21, hgz21, HSz21_0⟩ := HI0.out
           have hcz21_0 := cellS96_0 HGz21
           have hcz21_1 := cellS96_1 HGz21
           have hfz21_1 := blk_frozen HGz21 1
           clear HGz21 hgz21
           have p162 : 0 ≤ ((ji14) : Int) := of_decide_eq_true (by first | (with_reducible assumption) | assumption)
           have q162 : (ji14) < (s0_0.length : Int) := of_decide_eq_true (by first | (with_reducible assumption) | assumption)
           obtain ⟨ad162, e162, hx162_0⟩ := Kd.at_int HSz21_0 (ji14) p162 q162
           cases e162
           replace hx162_0 := pw_cell_below HB.out hx162_0
           replace p162 := eq_true p162
           replace q162 := eq_true q162
           have p163 : 0 ≤ ((ji17) : Int) := of_decide_eq_true (by first | (with_reducible assumption) | assumption)
           have q163 : (ji17) < (s0_0.length : Int) := of_decide_eq_true (by first | (with_reducible assumption) | assumption)
           obtain ⟨ad163, e163, hx163_0⟩ := Kd.at_int HSz21_0 (ji17) p163 q163
           obtain rfl : ad162 = ad163 := (by injection e163)
           replace hx163_0 := pw_cell_below HB.out hx163_0
           replace p163 := eq_true p163
           replace q163 := eq_true q163
           go_wp2
           repeat (go_quiet (fail); try go_wp2)
           go_ret
           exact ⟨by first | rfl | (simp [errW_none, errW_some] <;> rfl) | (simp only [← hji14, ← hji17]; first | rfl | (simp [errW_none, errW_some] <;> rfl)) | (simp [*, errW_none, errW_some] <;> rfl), by repeat (first | (with_reducible first | exact HI0.out | apply IsS96.alloc | apply IsS96.drewN | apply IsS96.drew | apply IsS96.set_1) | exact HI0.out), by repeat (first | (with_reducible first | exact HB.out | apply below_alloc | apply pw_below_drewN | apply below_drew1 | refine below_set ?_ (IsS96.ge HI0.out)) | exact HB.out), by repeat (first | (with_reducible first | exact HK.out | apply KeepBut.set_ | apply keep_drewN | apply keep_drew | apply keep_alloc) | exact HK.out)⟩
         ·rw [if_neg c19] at H
          exact absurd H (by simp)
        ·rw [if_neg c18] at H
         exact absurd H (by simp)
       ·rw [if_neg c16] at H
        exact absurd H (by simp)
      ·rw [if_neg c15] at H
       exact absurd H (by simp)

end Go.Proofs.Ytmgnmgobibpjjaa.GFnKeptFind
