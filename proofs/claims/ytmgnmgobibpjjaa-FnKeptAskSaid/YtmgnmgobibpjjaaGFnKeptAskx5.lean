/- What the Go functions that FnKeptAsk reaches come to, walked step by step; there is no condition beyond those each statement names. -/
import Derived.Test.YtmgnmgobibpjjaaGFnKeptAskx0
import Derived.Test.YtmgnmgobibpjjaaGFnKeptAskx3
import Derived.Test.YtmgnmgobibpjjaaGFnKeptAskx4
namespace Go.Proofs.Ytmgnmgobibpjjaa.GFnKeptAsk
open Go.RowKit Go.Proofs.YtmgnmgobibpjjaaVKeptAsk.PrintWords Go.Proofs.YtmgnmgobibpjjaaVKeptAsk.PrintLast Go.Proofs.YtmgnmgobibpjjaaVKeptAsk.PrintMore
attribute [local go_sem] max2_int min2_int max_two min_two max_three min_three max_four min_four   -- for this text's walks alone
set_option linter.unusedVariables false
set_option linter.unusedSimpArgs false

-- NOT PRINTED: function 80 (impl_Name)

/-! ### impl_ask: function 63 -/
def impl_ask.l0 : Nat → List (S26) → ByteArray → Int → Option (ByteArray × Int × Int × ByteArray × Int)
 | 0, _, _, _ => none
 | k + 1, x0, x1, x5 => if x5 < (x0.length : Int) then (if 0 ≤ x5 then (if ((rd_T26 x0 x5).f0).toList = x1.toList then (some ((rd_T26 x0 x5).f0, (rd_T26 x0 x5).f1, (rd_T26 x0 x5).f2, (rd_T26 x0 x5).f3, (rd_T26 x0 x5).f4)) else (impl_ask.l0 k x0 x1 (wrap64 (x5 + 1)))) else (none)) else (some (x1, 0, 0, (⟨#[]⟩ : ByteArray), 5))
def impl_ask.f (k : Nat) (l0 : List (S26)) (a1 : ByteArray) : Option (ByteArray × Int × Int × ByteArray × Int) := impl_ask.l0 k l0 a1 0
theorem impl_ask.mono_l : ∀ k, (∀ y0 y1 y2, LeO (impl_ask.l0 k y0 y1 y2) (impl_ask.l0 (k + 1) y0 y1 y2))
 | 0 => fun _ _ _ r h => by simp [impl_ask.l0] at h
 | k + 1 => by
  have ih0 := impl_ask.mono_l k
  ·intro y0 y1 y2
   unfold impl_ask.l0
   repeat' first
   | (with_reducible exact ih0 _ _ _)
   | (with_reducible exact LeO.refl _)
   | (with_reducible exact LeO.none _)
   | (with_reducible refine LeO.ite ?_ ?_)
   | (with_reducible refine LeO.bind ?_ (fun _ => ?_))
   | exact ih0 _ _ _
   | exact LeO.none _
   | refine LeO.ite ?_ ?_
   | refine LeO.bind ?_ (fun _ => ?_)
theorem impl_ask.mono : ∀ a0 a1 k, LeO (impl_ask.f k a0 a1) (impl_ask.f (k + 1) a0 a1) := by
 intro a0 a1 k
 have ih0 := impl_ask.mono_l k
 unfold impl_ask.f
 repeat' first
   | (with_reducible exact ih0 _ _ _)
   | (with_reducible exact LeO.refl _)
   | (with_reducible exact LeO.none _)
   | (with_reducible refine LeO.ite ?_ ?_)
   | (with_reducible refine LeO.bind ?_ (fun _ => ?_))
   | exact ih0 _ _ _
   | exact LeO.none _
   | refine LeO.ite ?_ ?_
   | refine LeO.bind ?_ (fun _ => ?_)
set_option maxHeartbeats 8000000 in
set_option maxRecDepth 100000 in
theorem lam_81.calls (B : Nat) (s : ByteArray) (x : S26) (w : World) (hc : w.cell? ⟨B, 0, none⟩ = some (.string s)) (hB : B < w.heap.size) :
  Calls Try.prog 81 #[.agg #[.string x.f0, .int .i64 x.f1, .int .i64 x.f2, .string x.f3, .int .i64 x.f4], .pointer (some ⟨B, 0, none⟩)] w fun e w' => e = .returned (.bool ((x).f0.toList == s.toList)) ∧ Below w.heap.size w w' := by
 have hne : B ≠ w.heap.size := by omega
 go_enter Try.func81, Try.ntmps81
 go_wp2
 all_goals (go_ret; exact ⟨by simp_all, (Below.refl _ w).alloc (Nat.le_refl _) _⟩)
/-- The first place of a text; -1 where it is not. -/
def At26 (l : List S26) (s : ByteArray) (r : Int) : Prop := (∃ j : Nat, j < l.length ∧ r = j ∧ ((rd_T26 l j).f0.toList == s.toList) = true ∧ ∀ i : Nat, i < j → ((rd_T26 l i).f0.toList == s.toList) = false) ∨ (r = -1 ∧ ∀ i : Nat, i < l.length → ((rd_T26 l i).f0.toList == s.toList) = false)
set_option maxHeartbeats 8000000 in
set_option maxRecDepth 100000 in
theorem idx_80.calls (B : Nat) (s : ByteArray) (A : Option Addr) (c : Nat) (l : List S26) (r : Int) (w : World) (hr : Kd.C k26 w A l.length l) (hc : w.cell? ⟨B, 0, none⟩ = some (.string s)) (hB : B < w.heap.size) (hf : At26 l s r) :
  Calls Try.prog 80 #[.slice A l.length c, .func (.func 81) #[] #[.pointer (some ⟨B, 0, none⟩)]] w fun e w' => e = .returned (.int .i64 r) ∧ Below w.heap.size w w' := by
 have HR := Aside0.mk hr
 have HM := Aside0.mk (Kd.C_max hr)
 have HC := Aside0.mk hc
 have HF := Aside0.mk hf
 have HL := Aside0.mk hB
 clear hr hc hf hB
 go_enter Try.func80, Try.ntmps80
 go_wp2
 go_loopg [5, 8] l.length (fun gg _ s8 wr => ∃ kk : Nat, s8 = .int .i64 kk ∧ kk ≤ l.length ∧ l.length - kk ≤ gg ∧ Aside0 (Below w.heap.size w wr) ∧ Aside0 (∀ j : Nat, j < kk → ((rd_T26 l j).f0.toList == s.toList) = false))
 case atStart => exact ⟨0, rfl, Nat.zero_le _, by omega, ⟨Below.refl _ w⟩, ⟨fun j hj => absurd hj (Nat.not_lt_zero _)⟩⟩
 case round =>
  obtain ⟨kk, rfl, hkk, hg, HB, HN⟩ := hrel
  by_cases hlt : kk < l.length
  ·have c4b0 : decide ((kk : Int) < (l.length : Int)) = true := decide_eq_true (by omega)
   have p_ : 0 ≤ (kk : Int) := by omega
   have q_ : (kk : Int) < (l.length : Int) := by omega
   obtain ⟨ad_, e_, hx_0, hx_1, hx_2, hx_3, hx_4⟩ := at_T26 HR.out kk p_ q_
   cases e_
   simp only [Int.toNat_natCast] at hx_0 hx_1 hx_2 hx_3 hx_4
   replace hx_0 := pw_cell_below HB.out hx_0
   replace hx_1 := pw_cell_below HB.out hx_1
   replace hx_2 := pw_cell_below HB.out hx_2
   replace hx_3 := pw_cell_below HB.out hx_3
   replace hx_4 := pw_cell_below HB.out hx_4
   have hcall := lam_81.calls B s (rd_T26 l kk) wr ((HB.out.cell HL.out).trans HC.out) (Nat.lt_of_lt_of_le HL.out HB.out.size)
   cases hq : ((rd_T26 l kk).f0.toList == s.toList) with
   | true =>
    rw [hq] at hcall
    have HQ := Aside0.mk hq
    clear hq
    go_wp2_with (go_at_call 81; refine hcall.mono ?_; rintro e w' ⟨rfl, hb'⟩)
    go_ret
    refine ⟨?_, below_then HB.out HB.out.size hb'⟩
    rcases HF.out with ⟨j, h1, rfl, h3, h4⟩ | ⟨rfl, h2⟩
    ·have : j = kk := by
      rcases Nat.lt_trichotomy j kk with h | h | h
      ·have := HN.out j h; rw [this] at h3; cases h3
      ·exact h
      ·have := h4 kk h; rw [HQ.out] at this; cases this
     subst this; rfl
    ·have := h2 kk hlt; rw [HQ.out] at this; cases this
   | false =>
    rw [hq] at hcall
    have HQ := Aside0.mk hq
    clear hq
    go_wp2_with (go_at_call 81; refine hcall.mono ?_; rintro e w' ⟨rfl, hb'⟩)
    go_roundg (l.length - (kk + 1))
    case measure => omega
    case rel =>
     have hm := HM.out
     have ew : wrap64 ((kk : Int) + 1) = ((kk + 1 : Nat) : Int) := by unfold wrap64; omega
     refine ⟨kk + 1, (by rw [ew]), by omega, by omega, ⟨below_then HB.out HB.out.size hb'⟩, ⟨fun j hj => ?_⟩⟩
     by_cases e : j = kk
     ·rw [e]; exact HQ.out
     ·exact HN.out j (by omega)
  ·have c4b0 : decide ((kk : Int) < (l.length : Int)) = false := decide_eq_false (by omega)
   have hk : kk = l.length := by omega
   go_wp2
   go_ret
   refine ⟨?_, HB.out⟩
   rcases HF.out with ⟨j, h1, rfl, h3, h4⟩ | ⟨rfl, h2⟩
   ·have := HN.out j (by omega); rw [this] at h3; cases h3
   ·rfl
theorem impl_ask_tells {l : List S26} {s : ByteArray} (hm : l.length ≤ 9223372036854775807) : ∀ (k i : Nat) (r : ByteArray × Int × Int × ByteArray × Int), i ≤ l.length → (∀ q : Nat, q < i → ((rd_T26 l q).f0.toList == s.toList) = false) → impl_ask.l0 k l s i = some r →
  (∃ j : Nat, j < l.length ∧ At26 l s j ∧ r = ((rd_T26 l j).f0, (rd_T26 l j).f1, (rd_T26 l j).f2, (rd_T26 l j).f3, (rd_T26 l j).f4)) ∨ (At26 l s (-1) ∧ r = (s, 0, 0, (⟨#[]⟩ : ByteArray), 5)) := by
 intro k
 induction k with
 | zero => intro i r _ _ h; simp [impl_ask.l0] at h
 | succ k ih =>
  intro i r hi hn h
  simp only [impl_ask.l0] at h
  by_cases c1 : (i : Int) < (l.length : Int)
  ·rw [if_pos c1, if_pos (by omega)] at h
   by_cases c2 : (rd_T26 l i).f0.toList = s.toList
   ·rw [if_pos c2] at h
    exact Or.inl ⟨i, by omega, Or.inl ⟨i, by omega, rfl, beq_iff_eq.mpr c2, hn⟩, (Option.some.inj h).symm⟩
   ·rw [if_neg c2, show wrap64 ((i : Int) + 1) = ((i + 1 : Nat) : Int) by unfold wrap64; omega] at h
    refine ih (i + 1) r (by omega) (fun q hq => ?_) h
    by_cases e : q = i
    ·subst e; exact beq_eq_false_iff_ne.mpr c2
    ·exact hn q (by omega)
  ·rw [if_neg c1] at h
   exact Or.inr ⟨Or.inr ⟨rfl, fun q hq => hn q (by omega)⟩, (Option.some.inj h).symm⟩
set_option maxHeartbeats 8000000 in
set_option maxRecDepth 100000 in
theorem impl_ask.calls (k : Nat) (A0 : Option Addr) (c0 : Nat) (l0 : List (S26)) (a1 : ByteArray) (r1 : ByteArray) (r2 : Int) (r3 : Int) (r4 : ByteArray) (r5 : Int) (w : World) (hr0 : Kd.C k26 w A0 l0.length l0) (hc0 : l0.length ≤ c0) (h : impl_ask.f k l0 a1 = some (r1, r2, r3, r4, r5)) :
  Calls Try.prog 63 #[.slice A0 l0.length c0, .string a1] w fun e w' => e = .returned (.agg #[.string r1, .int .i64 r2, .int .i64 r3, .string r4, .int .i64 r5]) ∧ Below w.heap.size w w' := by
 have hu_ := Try.underlying26
 have HR0 := Aside0.mk hr0
 have HB := Aside0.mk (Below.refl w.heap.size w)
 have HT := impl_ask_tells (Kd.C_max hr0) k 0 _ (Nat.zero_le _) (fun q hq => absurd hq (Nat.not_lt_zero _)) h
 clear hr0 hc0 h
 rcases HT with ⟨j, hj, hat, he⟩ | ⟨hat, he⟩
 ·have HA := Aside0.mk hat
  clear hat
  simp only [Prod.mk.injEq] at he
  obtain ⟨rfl, rfl, rfl, rfl, rfl⟩ := he
  have p_ : 0 ≤ (j : Int) := by omega
  have q_ : (j : Int) < (l0.length : Int) := by omega
  obtain ⟨ad_, e_, hx_0, hx_1, hx_2, hx_3, hx_4⟩ := at_T26 HR0.out j p_ q_
  cases e_
  simp only [Int.toNat_natCast] at hx_0 hx_1 hx_2 hx_3 hx_4
  have HX0 := Aside0.mk hx_0
  clear hx_0
  have HX1 := Aside0.mk hx_1
  clear hx_1
  have HX2 := Aside0.mk hx_2
  clear hx_2
  have HX3 := Aside0.mk hx_3
  clear hx_3
  have HX4 := Aside0.mk hx_4
  clear hx_4
  replace p_ := eq_true p_
  replace q_ := eq_true q_
  have g0 : decide ((j : Int) ≥ 0) = true := decide_eq_true (by omega)
  go_enter Try.func63, Try.ntmps63
  go_upto_region 2 with (first | ((with_reducible refine gate_dst (N := 3) rfl ?_); refine box_event ?hg (N := 3) ?hd (cs := #[.string a1]) (t := 9) ?hr ?_; (case hd => rfl); (case hg => rfl); (case hr => first | (go_simp; done) | (go_simp; rfl)); intro gb8001 hg w8001 hbox hb; have n0_ := Aside0.mk (below_step HB.out hb); have n1_ := Aside0.mk hbox; clear HB; have HB := n0_; have BK8001 := n1_; clear n0_ n1_ hb hbox hg) | ((with_reducible refine gate_dst (N := 4) rfl ?_); refine box_event ?hg (N := 4) ?hd (cs := #[.string (⟨#[]⟩ : ByteArray), .int .i64 0, .int .i64 0, .string (⟨#[]⟩ : ByteArray), .int .i64 0]) (t := 26) ?hr ?_; (case hd => rfl); (case hg => rfl); (case hr => first | (go_simp; done) | (go_simp; rfl)); intro gb8002 hg w8002 hbox hb; have n0_ := Aside0.mk (below_step HB.out hb); have n1_ := Aside0.mk hbox; have k8001_ := Aside0.mk (blk_below BK8001.out hb); have n3_ := Aside0.mk ((by rw [hg]; exact below_size HB.out) : w.heap.size ≤ gb8002); clear HB BK8001; have HB := n0_; have BK8002 := n1_; have BK8001 := k8001_; have GE8002 := n3_; clear n0_ n1_ k8001_ n3_ hb hbox hg) | (go_at_call 80; (with_reducible refine (idx_80.calls gb8001 a1 _ c0 l0 j _ (Kd.C_below HR0.out HB.out) ((blk_cell BK8001.out 0).trans rfl) (blk_lt BK8001.out) HA.out).mono ?_); rintro e w9 ⟨rfl, hb⟩; have n0_ := Aside0.mk (below_step HB.out hb); have n1_ := Aside0.mk (blk_below BK8002.out hb); have n2_ := Aside0.mk (blk_below BK8001.out hb); clear HB BK8002 BK8001; have HB := n0_; have BK8002 := n1_; have BK8001 := n2_; clear n0_ n1_ n2_ hb))
  have hx_0 := pw_cell_below HB.out HX0.out
  have hx_1 := pw_cell_below HB.out HX1.out
  have hx_2 := pw_cell_below HB.out HX2.out
  have hx_3 := pw_cell_below HB.out HX3.out
  have hx_4 := pw_cell_below HB.out HX4.out
  have hcz_0 : w9.cell? ⟨gb8002, 0, none⟩ = some (.string (⟨#[]⟩ : ByteArray)) := (blk_cell BK8002.out 0).trans rfl
  have hcz_1 : w9.cell? ⟨gb8002, 1, none⟩ = some (.int .i64 0) := (blk_cell BK8002.out 1).trans rfl
  have hcz_2 : w9.cell? ⟨gb8002, 2, none⟩ = some (.int .i64 0) := (blk_cell BK8002.out 2).trans rfl
  have hcz_3 : w9.cell? ⟨gb8002, 3, none⟩ = some (.string (⟨#[]⟩ : ByteArray)) := (blk_cell BK8002.out 3).trans rfl
  have hcz_4 : w9.cell? ⟨gb8002, 4, none⟩ = some (.int .i64 0) := (blk_cell BK8002.out 4).trans rfl
  have hfz_0 := blk_frozen BK8002.out 0
  have hfz_1 := blk_frozen BK8002.out 1
  have hfz_2 := blk_frozen BK8002.out 2
  have hfz_3 := blk_frozen BK8002.out 3
  have hfz_4 := blk_frozen BK8002.out 4
  go_wp2
  refine bodyPost_ret (results_cell_row rfl _ _ gb8002 26 #[.string (rd_T26 l0 j).f0, .int .i64 (rd_T26 l0 j).f1, .int .i64 (rd_T26 l0 j).f2, .string (rd_T26 l0 j).f3, .int .i64 (rd_T26 l0 j).f4] (0, 0) _ rfl (by (with_reducible repeat (first | refine blk_drewN ?_ _ | refine blk_drew ?_ | refine blk_alloc ?_ _)); refine blk_put (cs := #[.string (rd_T26 l0 j).f0, .int .i64 (rd_T26 l0 j).f1, .int .i64 (rd_T26 l0 j).f2, .string (rd_T26 l0 j).f3, .int .i64 0]) ?_ 4 _ rfl; (with_reducible repeat (first | refine blk_drewN ?_ _ | refine blk_drew ?_ | refine blk_alloc ?_ _)); refine blk_put (cs := #[.string (rd_T26 l0 j).f0, .int .i64 (rd_T26 l0 j).f1, .int .i64 (rd_T26 l0 j).f2, .string (⟨#[]⟩ : ByteArray), .int .i64 0]) ?_ 3 _ rfl; (with_reducible repeat (first | refine blk_drewN ?_ _ | refine blk_drew ?_ | refine blk_alloc ?_ _)); refine blk_put (cs := #[.string (rd_T26 l0 j).f0, .int .i64 (rd_T26 l0 j).f1, .int .i64 0, .string (⟨#[]⟩ : ByteArray), .int .i64 0]) ?_ 2 _ rfl; (with_reducible repeat (first | refine blk_drewN ?_ _ | refine blk_drew ?_ | refine blk_alloc ?_ _)); refine blk_put (cs := #[.string (rd_T26 l0 j).f0, .int .i64 0, .int .i64 0, .string (⟨#[]⟩ : ByteArray), .int .i64 0]) ?_ 1 _ rfl; (with_reducible repeat (first | refine blk_drewN ?_ _ | refine blk_drew ?_ | refine blk_alloc ?_ _)); refine blk_put (cs := #[.string (⟨#[]⟩ : ByteArray), .int .i64 0, .int .i64 0, .string (⟨#[]⟩ : ByteArray), .int .i64 0]) ?_ 0 _ rfl; (with_reducible repeat (first | refine blk_drewN ?_ _ | refine blk_drew ?_ | refine blk_alloc ?_ _)); exact BK8002.out) Try.underlying26 rfl (by kernel_rfl)) rfl ?_
  exact ⟨by first | rfl | (simp [*]; done), by repeat (first | (with_reducible first | exact HB.out | apply below_alloc | apply pw_below_drewN | apply below_drew1 | refine below_set ?_ GE8002.out) | exact HB.out)⟩
 ·have HA := Aside0.mk hat
  clear hat
  simp only [Prod.mk.injEq] at he
  obtain ⟨e1, rfl, rfl, rfl, rfl⟩ := he
  subst r1
  go_enter Try.func63, Try.ntmps63
  go_upto_region 2 with (first | ((with_reducible refine gate_dst (N := 3) rfl ?_); refine box_event ?hg (N := 3) ?hd (cs := #[.string a1]) (t := 9) ?hr ?_; (case hd => rfl); (case hg => rfl); (case hr => first | (go_simp; done) | (go_simp; rfl)); intro gb8001 hg w8001 hbox hb; have n0_ := Aside0.mk (below_step HB.out hb); have n1_ := Aside0.mk hbox; clear HB; have HB := n0_; have BK8001 := n1_; clear n0_ n1_ hb hbox hg) | ((with_reducible refine gate_dst (N := 4) rfl ?_); refine box_event ?hg (N := 4) ?hd (cs := #[.string (⟨#[]⟩ : ByteArray), .int .i64 0, .int .i64 0, .string (⟨#[]⟩ : ByteArray), .int .i64 0]) (t := 26) ?hr ?_; (case hd => rfl); (case hg => rfl); (case hr => first | (go_simp; done) | (go_simp; rfl)); intro gb8002 hg w8002 hbox hb; have n0_ := Aside0.mk (below_step HB.out hb); have n1_ := Aside0.mk hbox; have k8001_ := Aside0.mk (blk_below BK8001.out hb); have n3_ := Aside0.mk ((by rw [hg]; exact below_size HB.out) : w.heap.size ≤ gb8002); clear HB BK8001; have HB := n0_; have BK8002 := n1_; have BK8001 := k8001_; have GE8002 := n3_; clear n0_ n1_ k8001_ n3_ hb hbox hg) | (go_at_call 80; (with_reducible refine (idx_80.calls gb8001 a1 _ c0 l0 (-1) _ (Kd.C_below HR0.out HB.out) ((blk_cell BK8001.out 0).trans rfl) (blk_lt BK8001.out) HA.out).mono ?_); rintro e w9 ⟨rfl, hb⟩; have n0_ := Aside0.mk (below_step HB.out hb); have n1_ := Aside0.mk (blk_below BK8002.out hb); have n2_ := Aside0.mk (blk_below BK8001.out hb); clear HB BK8002 BK8001; have HB := n0_; have BK8002 := n1_; have BK8001 := n2_; clear n0_ n1_ n2_ hb))
  have hcz_0 : w9.cell? ⟨gb8002, 0, none⟩ = some (.string (⟨#[]⟩ : ByteArray)) := (blk_cell BK8002.out 0).trans rfl
  have hcz_1 : w9.cell? ⟨gb8002, 1, none⟩ = some (.int .i64 0) := (blk_cell BK8002.out 1).trans rfl
  have hcz_2 : w9.cell? ⟨gb8002, 2, none⟩ = some (.int .i64 0) := (blk_cell BK8002.out 2).trans rfl
  have hcz_3 : w9.cell? ⟨gb8002, 3, none⟩ = some (.string (⟨#[]⟩ : ByteArray)) := (blk_cell BK8002.out 3).trans rfl
  have hcz_4 : w9.cell? ⟨gb8002, 4, none⟩ = some (.int .i64 0) := (blk_cell BK8002.out 4).trans rfl
  have hfz_0 := blk_frozen BK8002.out 0
  have hfz_1 := blk_frozen BK8002.out 1
  have hfz_2 := blk_frozen BK8002.out 2
  have hfz_3 := blk_frozen BK8002.out 3
  have hfz_4 := blk_frozen BK8002.out 4
  have hcs_0 : w9.cell? ⟨gb8001, 0, none⟩ = some (.string a1) := (blk_cell BK8001.out 0).trans rfl
  go_wp2
  refine bodyPost_ret (results_cell_row rfl _ _ gb8002 26 #[.string a1, .int .i64 0, .int .i64 0, .string (⟨#[]⟩ : ByteArray), .int .i64 5] (0, 0) _ rfl (by (with_reducible repeat (first | refine blk_drewN ?_ _ | refine blk_drew ?_ | refine blk_alloc ?_ _)); refine blk_put (cs := #[.string a1, .int .i64 0, .int .i64 0, .string (⟨#[]⟩ : ByteArray), .int .i64 0]) ?_ 4 _ rfl; (with_reducible repeat (first | refine blk_drewN ?_ _ | refine blk_drew ?_ | refine blk_alloc ?_ _)); refine blk_put (cs := #[.string a1, .int .i64 0, .int .i64 0, .string (⟨#[]⟩ : ByteArray), .int .i64 0]) ?_ 3 _ rfl; (with_reducible repeat (first | refine blk_drewN ?_ _ | refine blk_drew ?_ | refine blk_alloc ?_ _)); refine blk_put (cs := #[.string a1, .int .i64 0, .int .i64 0, .string (⟨#[]⟩ : ByteArray), .int .i64 0]) ?_ 2 _ rfl; (with_reducible repeat (first | refine blk_drewN ?_ _ | refine blk_drew ?_ | refine blk_alloc ?_ _)); refine blk_put (cs := #[.string a1, .int .i64 0, .int .i64 0, .string (⟨#[]⟩ : ByteArray), .int .i64 0]) ?_ 1 _ rfl; (with_reducible repeat (first | refine blk_drewN ?_ _ | refine blk_drew ?_ | refine blk_alloc ?_ _)); refine blk_put (cs := #[.string (⟨#[]⟩ : ByteArray), .int .i64 0, .int .i64 0, .string (⟨#[]⟩ : ByteArray), .int .i64 0]) ?_ 0 _ rfl; (with_reducible repeat (first | refine blk_drewN ?_ _ | refine blk_drew ?_ | refine blk_alloc ?_ _)); exact BK8002.out) Try.underlying26 rfl (by kernel_rfl)) rfl ?_
  exact ⟨by first | rfl | (simp [*]; done), by repeat (first | (with_reducible first | exact HB.out | apply below_alloc | apply pw_below_drewN | apply below_drew1 | refine below_set ?_ GE8002.out) | exact HB.out)⟩

/-! ### impl_NameAsk: function 31 -/
def impl_NameAsk.f (k : Nat) (l0 : List (S26)) (a1 : ByteArray) : Option (ByteArray × Int × Int × ByteArray × Int × Bool) := (impl_NamesOk.f k l0).bind fun t138 => (if t138 = true then ((impl_textOk.f k a1).bind fun t139 => (if t139 = true then ((impl_ask.f k l0 a1).bind fun bt140 => (some (bt140.1, bt140.2.1, bt140.2.2.1, bt140.2.2.2.1, bt140.2.2.2.2, true))) else (some ((⟨#[]⟩ : ByteArray), 0, 0, (⟨#[]⟩ : ByteArray), 0, false)))) else (some ((⟨#[]⟩ : ByteArray), 0, 0, (⟨#[]⟩ : ByteArray), 0, false)))
theorem impl_NameAsk.mono : ∀ a0 a1 k, LeO (impl_NameAsk.f k a0 a1) (impl_NameAsk.f (k + 1) a0 a1) := by
 intro a0 a1 k
 unfold impl_NameAsk.f
 repeat' first
   | (with_reducible exact impl_NamesOk.mono _ _)
   | (with_reducible exact impl_ask.mono _ _ _)
   | (with_reducible exact impl_textOk.mono _ _)
   | (with_reducible exact LeO.refl _)
   | (with_reducible exact LeO.none _)
   | (with_reducible refine LeO.ite ?_ ?_)
   | (with_reducible refine LeO.bind ?_ (fun _ => ?_))
   | exact impl_NamesOk.mono _ _
   | exact impl_ask.mono _ _ _
   | exact impl_textOk.mono _ _
   | exact LeO.none _
   | refine LeO.ite ?_ ?_
   | refine LeO.bind ?_ (fun _ => ?_)
set_option maxHeartbeats 8000000 in
set_option maxRecDepth 100000 in
theorem impl_NameAsk.calls (k : Nat) (A0 : Option Addr) (c0 : Nat) (l0 : List (S26)) (a1 : ByteArray) (r1 : ByteArray) (r2 : Int) (r3 : Int) (r4 : ByteArray) (r5 : Int) (r6 : Bool) (w : World) (hr0 : Kd.C k26 w A0 l0.length l0) (hc0 : l0.length ≤ c0) (h : impl_NameAsk.f k l0 a1 = some (r1, r2, r3, r4, r5, r6)) :
  Calls Try.prog 31 #[.slice A0 l0.length c0, .string a1] w fun e w' => e = .returned (.tuple #[.agg #[.string r1, .int .i64 r2, .int .i64 r3, .string r4, .int .i64 r5], .bool r6]) ∧ Below w.heap.size w w' := by
 have hu26 := Try.underlying26
 have HR0 := Aside0.mk hr0
 have HC0 := Aside0.mk hc0
 clear hr0 hc0
 have HB := Aside0.mk (Below.refl w.heap.size w)
 have H : ((impl_NamesOk.f k l0).bind fun t138 => (if t138 = true then ((impl_textOk.f k a1).bind fun t139 => (if t139 = true then ((impl_ask.f k l0 a1).bind fun bt140 => (some (bt140.1, bt140.2.1, bt140.2.2.1, bt140.2.2.2.1, bt140.2.2.2.2, true))) else (some ((⟨#[]⟩ : ByteArray), 0, 0, (⟨#[]⟩ : ByteArray), 0, false)))) else (some ((⟨#[]⟩ : ByteArray), 0, 0, (⟨#[]⟩ : ByteArray), 0, false)))) = some (r1, r2, r3, r4, r5, r6) := h
 clear h
 replace H := Option.bind_eq_some_iff.mp H
 obtain ⟨t138, A30, H⟩ := H
 have A3 := Aside0.mk A30
 clear A30
 by_cases c4 : t138 = true
 ·subst c4
  rw [if_pos rfl] at H
  replace H := Option.bind_eq_some_iff.mp H
  obtain ⟨t139, A50, H⟩ := H
  have A5 := Aside0.mk A50
  clear A50
  by_cases c6 : t139 = true
  ·subst c6
   rw [if_pos rfl] at H
   replace H := Option.bind_eq_some_iff.mp H
   obtain ⟨⟨t140, t141, t142, t143, t144⟩, A70, H⟩ := H
   replace H : (some (t140, t141, t142, t143, t144, true)) = some (r1, r2, r3, r4, r5, r6) := H
   have A7 := Aside0.mk A70
   clear A70
   simp only [Option.some.injEq, Prod.mk.injEq] at H
   obtain ⟨rfl, rfl, rfl, rfl, rfl, rfl⟩ := H
   go_enter Try.func31, Try.ntmps31
   go_wp2_with (first | ((with_reducible refine gate_dst (N := 4) rfl ?_); refine box_event ?hg (N := 4) ?hd (cs := #[.string (⟨#[]⟩ : ByteArray), .int .i64 0, .int .i64 0, .string (⟨#[]⟩ : ByteArray), .int .i64 0]) (t := 26) ?hr ?_; (case hd => rfl); (case hg => rfl); (case hr => first | (go_simp; done) | (go_simp; rfl)); intro gb137 hg w8 hbox hb; have n0_ := Aside0.mk (below_step (by repeat (first | (with_reducible first | exact HB.out | apply below_alloc | apply pw_below_drewN | apply below_drew1) | exact HB.out)) hb); have n1_ := Aside0.mk (hbox); have n2_ := Aside0.mk ((by rw [hg]; exact (below_size (by repeat (first | (with_reducible first | exact HB.out | apply below_alloc | apply pw_below_drewN | apply below_drew1) | exact HB.out))) : w.heap.size ≤ gb137)); have n3_ := Aside0.mk ((by rw [hg]; exact (below_size (by repeat (first | (with_reducible first | exact HB.out | apply below_alloc | apply pw_below_drewN | apply below_drew1) | exact HB.out))) : w.heap.size ≤ gb137)); clear HB; have HB := n0_; have BK137 := n1_; have GW137 := n2_; have GE137 := n3_; clear n0_ n1_ n2_ n3_; clear hb hbox hg) | ((with_reducible refine gate_callee (f := 27) rfl ?_); refine goesL_ (some 7) rfl rfl Try.func27 (by kernel_rfl) rfl #[.slice A0 l0.length c0] rfl (by (try simp only [List.map_toArray, List.map_cons, List.map_nil]); first | done | rfl | (simp only [List.length_drop, List.length_take]; rfl)) ?_; (with_reducible refine (impl_NamesOk.calls k _ _ l0 true _ ?side1 ?side2 A3.out).mono ?_); (case side1 => repeat (first | exact (Kd.C_below HR0.out HB.out) | (with_reducible refine Kd.C_alloc ?_ _) | (with_reducible refine Kd.C_drewN ?_ _) | (with_reducible refine Kd.C_drew ?_))); (case side2 => exact HC0.out); rintro e w9 ⟨rfl, hb⟩; refine ⟨_, rfl, ?_⟩; have n0_ := Aside0.mk (blk_below (g := gb137) (o := .cells #[.string (⟨#[]⟩ : ByteArray), .int .i64 0, .int .i64 0, .string (⟨#[]⟩ : ByteArray), .int .i64 0] 26 (0, 0)) (by (with_reducible repeat (first | refine blk_drewN ?_ _ | refine blk_drew ?_ | refine blk_alloc ?_ _)); exact BK137.out) hb); have n1_ := Aside0.mk (below_step (by repeat (first | (with_reducible first | exact HB.out | apply below_alloc | apply pw_below_drewN | apply below_drew1 | refine below_set ?_ GE137.out) | exact HB.out)) hb); clear BK137; clear HB; have BK137 := n0_; have HB := n1_; clear n0_ n1_; (try clear hb); (try clear hb2); (try clear hk); (try clear hi)) | (go_at_call 56; (with_reducible refine (impl_textOk.calls k a1 true _ A5.out).mono ?_); rintro e w10 ⟨rfl, hb⟩; have n0_ := Aside0.mk (blk_below (g := gb137) (o := .cells #[.string (⟨#[]⟩ : ByteArray), .int .i64 0, .int .i64 0, .string (⟨#[]⟩ : ByteArray), .int .i64 0] 26 (0, 0)) (by (with_reducible repeat (first | refine blk_drewN ?_ _ | refine blk_drew ?_ | refine blk_alloc ?_ _)); exact BK137.out) hb); have n1_ := Aside0.mk (below_step (by repeat (first | (with_reducible first | exact HB.out | apply below_alloc | apply pw_below_drewN | apply below_drew1 | refine below_set ?_ GE137.out) | exact HB.out)) hb); clear BK137; clear HB; have BK137 := n0_; have HB := n1_; clear n0_ n1_; (try clear hb); (try clear hb2); (try clear hk); (try clear hi)) | ((with_reducible refine gate_callee (f := 63) rfl ?_); refine goesL_ (some 17) rfl rfl Try.func63 (by kernel_rfl) rfl #[.slice A0 l0.length c0, .string a1] rfl (by (try simp only [List.map_toArray, List.map_cons, List.map_nil]); first | done | rfl | (simp only [List.length_drop, List.length_take]; rfl)) ?_; (with_reducible refine (impl_ask.calls k _ _ l0 a1 t140 t141 t142 t143 t144 _ ?side1 ?side2 A7.out).mono ?_); (case side1 => repeat (first | exact (Kd.C_below HR0.out HB.out) | (with_reducible refine Kd.C_alloc ?_ _) | (with_reducible refine Kd.C_drewN ?_ _) | (with_reducible refine Kd.C_drew ?_))); (case side2 => exact HC0.out); rintro e w11 ⟨rfl, hb⟩; refine ⟨_, rfl, ?_⟩; have n0_ := Aside0.mk (blk_below (g := gb137) (o := .cells #[.string (⟨#[]⟩ : ByteArray), .int .i64 0, .int .i64 0, .string (⟨#[]⟩ : ByteArray), .int .i64 0] 26 (0, 0)) (by (with_reducible repeat (first | refine blk_drewN ?_ _ | refine blk_drew ?_ | refine blk_alloc ?_ _)); exact BK137.out) hb); have n1_ := Aside0.mk (below_step (by repeat (first | (with_reducible first | exact HB.out | apply below_alloc | apply pw_below_drewN | apply below_drew1 | refine below_set ?_ GE137.out) | exact HB.out)) hb); clear BK137; clear HB; have BK137 := n0_; have HB := n1_; clear n0_ n1_; (try clear hb); (try clear hb2); (try clear hk); (try clear hi); have hcz12_0 : w11.cell? ⟨gb137, 0, none⟩ = some (.string (⟨#[]⟩ : ByteArray)) := (blk_cell BK137.out 0).trans rfl; have hcz12_1 : w11.cell? ⟨gb137, 1, none⟩ = some (.int .i64 0) := (blk_cell BK137.out 1).trans rfl; have hcz12_2 : w11.cell? ⟨gb137, 2, none⟩ = some (.int .i64 0) := (blk_cell BK137.out 2).trans rfl; have hcz12_3 : w11.cell? ⟨gb137, 3, none⟩ = some (.string (⟨#[]⟩ : ByteArray)) := (blk_cell BK137.out 3).trans rfl; have hcz12_4 : w11.cell? ⟨gb137, 4, none⟩ = some (.int .i64 0) := (blk_cell BK137.out 4).trans rfl; have hfz12_0 := blk_frozen BK137.out 0; have hfz12_1 := blk_frozen BK137.out 1; have hfz12_2 := blk_frozen BK137.out 2; have hfz12_3 := blk_frozen BK137.out 3; have hfz12_4 := blk_frozen BK137.out 4))
   refine bodyPost_ret (results_ct rfl _ _ gb137 26 #[.string t140, .int .i64 t141, .int .i64 t142, .string t143, .int .i64 t144] (0, 0) _ rfl (by (with_reducible repeat (first | refine blk_drewN ?_ _ | refine blk_drew ?_ | refine blk_alloc ?_ _)); refine blk_put (cs := #[.string t140, .int .i64 t141, .int .i64 t142, .string t143, .int .i64 0]) ?_ 4 _ rfl; (with_reducible repeat (first | refine blk_drewN ?_ _ | refine blk_drew ?_ | refine blk_alloc ?_ _)); refine blk_put (cs := #[.string t140, .int .i64 t141, .int .i64 t142, .string (⟨#[]⟩ : ByteArray), .int .i64 0]) ?_ 3 _ rfl; (with_reducible repeat (first | refine blk_drewN ?_ _ | refine blk_drew ?_ | refine blk_alloc ?_ _)); refine blk_put (cs := #[.string t140, .int .i64 t141, .int .i64 0, .string (⟨#[]⟩ : ByteArray), .int .i64 0]) ?_ 2 _ rfl; (with_reducible repeat (first | refine blk_drewN ?_ _ | refine blk_drew ?_ | refine blk_alloc ?_ _)); refine blk_put (cs := #[.string t140, .int .i64 0, .int .i64 0, .string (⟨#[]⟩ : ByteArray), .int .i64 0]) ?_ 1 _ rfl; (with_reducible repeat (first | refine blk_drewN ?_ _ | refine blk_drew ?_ | refine blk_alloc ?_ _)); refine blk_put (cs := #[.string (⟨#[]⟩ : ByteArray), .int .i64 0, .int .i64 0, .string (⟨#[]⟩ : ByteArray), .int .i64 0]) ?_ 0 _ rfl; (with_reducible repeat (first | refine blk_drewN ?_ _ | refine blk_drew ?_ | refine blk_alloc ?_ _)); exact BK137.out) Try.underlying26 rfl (by kernel_rfl)) rfl ?_
   exact ⟨by first | rfl | (simp [errW_none, errW_some] <;> rfl) | (simp [*, errW_none, errW_some] <;> rfl), by repeat (first | (with_reducible first | exact HB.out | apply below_alloc | apply pw_below_drewN | apply below_drew1 | refine below_set ?_ GE137.out) | exact HB.out)⟩
  ·replace c6 := Bool.eq_false_iff.mpr c6
   subst c6
   rw [if_neg (show ¬ (false = true) by decide)] at H
   simp only [Option.some.injEq, Prod.mk.injEq] at H
   obtain ⟨rfl, rfl, rfl, rfl, rfl, rfl⟩ := H
   go_enter Try.func31, Try.ntmps31
   go_wp2_with (first | ((with_reducible refine gate_dst (N := 4) rfl ?_); refine box_event ?hg (N := 4) ?hd (cs := #[.string (⟨#[]⟩ : ByteArray), .int .i64 0, .int .i64 0, .string (⟨#[]⟩ : ByteArray), .int .i64 0]) (t := 26) ?hr ?_; (case hd => rfl); (case hg => rfl); (case hr => first | (go_simp; done) | (go_simp; rfl)); intro gb137 hg w13 hbox hb; have n0_ := Aside0.mk (below_step (by repeat (first | (with_reducible first | exact HB.out | apply below_alloc | apply pw_below_drewN | apply below_drew1) | exact HB.out)) hb); have n1_ := Aside0.mk (hbox); have n2_ := Aside0.mk ((by rw [hg]; exact (below_size (by repeat (first | (with_reducible first | exact HB.out | apply below_alloc | apply pw_below_drewN | apply below_drew1) | exact HB.out))) : w.heap.size ≤ gb137)); have n3_ := Aside0.mk ((by rw [hg]; exact (below_size (by repeat (first | (with_reducible first | exact HB.out | apply below_alloc | apply pw_below_drewN | apply below_drew1) | exact HB.out))) : w.heap.size ≤ gb137)); clear HB; have HB := n0_; have BK137 := n1_; have GW137 := n2_; have GE137 := n3_; clear n0_ n1_ n2_ n3_; clear hb hbox hg) | ((with_reducible refine gate_callee (f := 27) rfl ?_); refine goesL_ (some 7) rfl rfl Try.func27 (by kernel_rfl) rfl #[.slice A0 l0.length c0] rfl (by (try simp only [List.map_toArray, List.map_cons, List.map_nil]); first | done | rfl | (simp only [List.length_drop, List.length_take]; rfl)) ?_; (with_reducible refine (impl_NamesOk.calls k _ _ l0 true _ ?side1 ?side2 A3.out).mono ?_); (case side1 => repeat (first | exact (Kd.C_below HR0.out HB.out) | (with_reducible refine Kd.C_alloc ?_ _) | (with_reducible refine Kd.C_drewN ?_ _) | (with_reducible refine Kd.C_drew ?_))); (case side2 => exact HC0.out); rintro e w14 ⟨rfl, hb⟩; refine ⟨_, rfl, ?_⟩; have n0_ := Aside0.mk (blk_below (g := gb137) (o := .cells #[.string (⟨#[]⟩ : ByteArray), .int .i64 0, .int .i64 0, .string (⟨#[]⟩ : ByteArray), .int .i64 0] 26 (0, 0)) (by (with_reducible repeat (first | refine blk_drewN ?_ _ | refine blk_drew ?_ | refine blk_alloc ?_ _)); exact BK137.out) hb); have n1_ := Aside0.mk (below_step (by repeat (first | (with_reducible first | exact HB.out | apply below_alloc | apply pw_below_drewN | apply below_drew1 | refine below_set ?_ GE137.out) | exact HB.out)) hb); clear BK137; clear HB; have BK137 := n0_; have HB := n1_; clear n0_ n1_; (try clear hb); (try clear hb2); (try clear hk); (try clear hi)) | (go_at_call 56; (with_reducible refine (impl_textOk.calls k a1 false _ A5.out).mono ?_); rintro e w15 ⟨rfl, hb⟩; have n0_ := Aside0.mk (blk_below (g := gb137) (o := .cells #[.string (⟨#[]⟩ : ByteArray), .int .i64 0, .int .i64 0, .string (⟨#[]⟩ : ByteArray), .int .i64 0] 26 (0, 0)) (by (with_reducible repeat (first | refine blk_drewN ?_ _ | refine blk_drew ?_ | refine blk_alloc ?_ _)); exact BK137.out) hb); have n1_ := Aside0.mk (below_step (by repeat (first | (with_reducible first | exact HB.out | apply below_alloc | apply pw_below_drewN | apply below_drew1 | refine below_set ?_ GE137.out) | exact HB.out)) hb); clear BK137; clear HB; have BK137 := n0_; have HB := n1_; clear n0_ n1_; (try clear hb); (try clear hb2); (try clear hk); (try clear hi); have hcz16_0 : w15.cell? ⟨gb137, 0, none⟩ = some (.string (⟨#[]⟩ : ByteArray)) := (blk_cell BK137.out 0).trans rfl; have hcz16_1 : w15.cell? ⟨gb137, 1, none⟩ = some (.int .i64 0) := (blk_cell BK137.out 1).trans rfl; have hcz16_2 : w15.cell? ⟨gb137, 2, none⟩ = some (.int .i64 0) := (blk_cell BK137.out 2).trans rfl; have hcz16_3 : w15.cell? ⟨gb137, 3, none⟩ = some (.string (⟨#[]⟩ : ByteArray)) := (blk_cell BK137.out 3).trans rfl; have hcz16_4 : w15.cell? ⟨gb137, 4, none⟩ = some (.int .i64 0) := (blk_cell BK137.out 4).trans rfl; have hfz16_0 := blk_frozen BK137.out 0; have hfz16_1 := blk_frozen BK137.out 1; have hfz16_2 := blk_frozen BK137.out 2; have hfz16_3 := blk_frozen BK137.out 3; have hfz16_4 := blk_frozen BK137.out 4))
   refine bodyPost_ret (results_ct rfl _ _ gb137 26 #[.string (⟨#[]⟩ : ByteArray), .int .i64 0, .int .i64 0, .string (⟨#[]⟩ : ByteArray), .int .i64 0] (0, 0) _ rfl (by (with_reducible repeat (first | refine blk_drewN ?_ _ | refine blk_drew ?_ | refine blk_alloc ?_ _)); refine blk_put (cs := #[.string (⟨#[]⟩ : ByteArray), .int .i64 0, .int .i64 0, .string (⟨#[]⟩ : ByteArray), .int .i64 0]) ?_ 4 _ rfl; (with_reducible repeat (first | refine blk_drewN ?_ _ | refine blk_drew ?_ | refine blk_alloc ?_ _)); refine blk_put (cs := #[.string (⟨#[]⟩ : ByteArray), .int .i64 0, .int .i64 0, .string (⟨#[]⟩ : ByteArray), .int .i64 0]) ?_ 3 _ rfl; (with_reducible repeat (first | refine blk_drewN ?_ _ | refine blk_drew ?_ | refine blk_alloc ?_ _)); refine blk_put (cs := #[.string (⟨#[]⟩ : ByteArray), .int .i64 0, .int .i64 0, .string (⟨#[]⟩ : ByteArray), .int .i64 0]) ?_ 2 _ rfl; (with_reducible repeat (first | refine blk_drewN ?_ _ | refine blk_drew ?_ | refine blk_alloc ?_ _)); refine blk_put (cs := #[.string (⟨#[]⟩ : ByteArray), .int .i64 0, .int .i64 0, .string (⟨#[]⟩ : ByteArray), .int .i64 0]) ?_ 1 _ rfl; (with_reducible repeat (first | refine blk_drewN ?_ _ | refine blk_drew ?_ | refine blk_alloc ?_ _)); refine blk_put (cs := #[.string (⟨#[]⟩ : ByteArray), .int .i64 0, .int .i64 0, .string (⟨#[]⟩ : ByteArray), .int .i64 0]) ?_ 0 _ rfl; (with_reducible repeat (first | refine blk_drewN ?_ _ | refine blk_drew ?_ | refine blk_alloc ?_ _)); exact BK137.out) Try.underlying26 rfl (by kernel_rfl)) rfl ?_
   exact ⟨by first | rfl | (simp [errW_none, errW_some] <;> rfl) | (simp [*, errW_none, errW_some] <;> rfl), by repeat (first | (with_reducible first | exact HB.out | apply below_alloc | apply pw_below_drewN | apply below_drew1 | refine below_set ?_ GE137.out) | exact HB.out)⟩
 ·replace c4 := Bool.eq_false_iff.mpr c4
  subst c4
  rw [if_neg (show ¬ (false = true) by decide)] at H
  simp only [Option.some.injEq, Prod.mk.injEq] at H
  obtain ⟨rfl, rfl, rfl, rfl, rfl, rfl⟩ := H
  go_enter Try.func31, Try.ntmps31
  go_wp2_with (first | ((with_reducible refine gate_dst (N := 4) rfl ?_); refine box_event ?hg (N := 4) ?hd (cs := #[.string (⟨#[]⟩ : ByteArray), .int .i64 0, .int .i64 0, .string (⟨#[]⟩ : ByteArray), .int .i64 0]) (t := 26) ?hr ?_; (case hd => rfl); (case hg => rfl); (case hr => first | (go_simp; done) | (go_simp; rfl)); intro gb137 hg w17 hbox hb; have n0_ := Aside0.mk (below_step (by repeat (first | (with_reducible first | exact HB.out | apply below_alloc | apply pw_below_drewN | apply below_drew1) | exact HB.out)) hb); have n1_ := Aside0.mk (hbox); have n2_ := Aside0.mk ((by rw [hg]; exact (below_size (by repeat (first | (with_reducible first | exact HB.out | apply below_alloc | apply pw_below_drewN | apply below_drew1) | exact HB.out))) : w.heap.size ≤ gb137)); have n3_ := Aside0.mk ((by rw [hg]; exact (below_size (by repeat (first | (with_reducible first | exact HB.out | apply below_alloc | apply pw_below_drewN | apply below_drew1) | exact HB.out))) : w.heap.size ≤ gb137)); clear HB; have HB := n0_; have BK137 := n1_; have GW137 := n2_; have GE137 := n3_; clear n0_ n1_ n2_ n3_; clear hb hbox hg) | ((with_reducible refine gate_callee (f := 27) rfl ?_); refine goesL_ (some 7) rfl rfl Try.func27 (by kernel_rfl) rfl #[.slice A0 l0.length c0] rfl (by (try simp only [List.map_toArray, List.map_cons, List.map_nil]); first | done | rfl | (simp only [List.length_drop, List.length_take]; rfl)) ?_; (with_reducible refine (impl_NamesOk.calls k _ _ l0 false _ ?side1 ?side2 A3.out).mono ?_); (case side1 => repeat (first | exact (Kd.C_below HR0.out HB.out) | (with_reducible refine Kd.C_alloc ?_ _) | (with_reducible refine Kd.C_drewN ?_ _) | (with_reducible refine Kd.C_drew ?_))); (case side2 => exact HC0.out); rintro e w18 ⟨rfl, hb⟩; refine ⟨_, rfl, ?_⟩; have n0_ := Aside0.mk (blk_below (g := gb137) (o := .cells #[.string (⟨#[]⟩ : ByteArray), .int .i64 0, .int .i64 0, .string (⟨#[]⟩ : ByteArray), .int .i64 0] 26 (0, 0)) (by (with_reducible repeat (first | refine blk_drewN ?_ _ | refine blk_drew ?_ | refine blk_alloc ?_ _)); exact BK137.out) hb); have n1_ := Aside0.mk (below_step (by repeat (first | (with_reducible first | exact HB.out | apply below_alloc | apply pw_below_drewN | apply below_drew1 | refine below_set ?_ GE137.out) | exact HB.out)) hb); clear BK137; clear HB; have BK137 := n0_; have HB := n1_; clear n0_ n1_; (try clear hb); (try clear hb2); (try clear hk); (try clear hi); have hcz19_0 : w18.cell? ⟨gb137, 0, none⟩ = some (.string (⟨#[]⟩ : ByteArray)) := (blk_cell BK137.out 0).trans rfl; have hcz19_1 : w18.cell? ⟨gb137, 1, none⟩ = some (.int .i64 0) := (blk_cell BK137.out 1).trans rfl; have hcz19_2 : w18.cell? ⟨gb137, 2, none⟩ = some (.int .i64 0) := (blk_cell BK137.out 2).trans rfl; have hcz19_3 : w18.cell? ⟨gb137, 3, none⟩ = some (.string (⟨#[]⟩ : ByteArray)) := (blk_cell BK137.out 3).trans rfl; have hcz19_4 : w18.cell? ⟨gb137, 4, none⟩ = some (.int .i64 0) := (blk_cell BK137.out 4).trans rfl; have hfz19_0 := blk_frozen BK137.out 0; have hfz19_1 := blk_frozen BK137.out 1; have hfz19_2 := blk_frozen BK137.out 2; have hfz19_3 := blk_frozen BK137.out 3; have hfz19_4 := blk_frozen BK137.out 4))
  refine bodyPost_ret (results_ct rfl _ _ gb137 26 #[.string (⟨#[]⟩ : ByteArray), .int .i64 0, .int .i64 0, .string (⟨#[]⟩ : ByteArray), .int .i64 0] (0, 0) _ rfl (by (with_reducible repeat (first | refine blk_drewN ?_ _ | refine blk_drew ?_ | refine blk_alloc ?_ _)); refine blk_put (cs := #[.string (⟨#[]⟩ : ByteArray), .int .i64 0, .int .i64 0, .string (⟨#[]⟩ : ByteArray), .int .i64 0]) ?_ 4 _ rfl; (with_reducible repeat (first | refine blk_drewN ?_ _ | refine blk_drew ?_ | refine blk_alloc ?_ _)); refine blk_put (cs := #[.string (⟨#[]⟩ : ByteArray), .int .i64 0, .int .i64 0, .string (⟨#[]⟩ : ByteArray), .int .i64 0]) ?_ 3 _ rfl; (with_reducible repeat (first | refine blk_drewN ?_ _ | refine blk_drew ?_ | refine blk_alloc ?_ _)); refine blk_put (cs := #[.string (⟨#[]⟩ : ByteArray), .int .i64 0, .int .i64 0, .string (⟨#[]⟩ : ByteArray), .int .i64 0]) ?_ 2 _ rfl; (with_reducible repeat (first | refine blk_drewN ?_ _ | refine blk_drew ?_ | refine blk_alloc ?_ _)); refine blk_put (cs := #[.string (⟨#[]⟩ : ByteArray), .int .i64 0, .int .i64 0, .string (⟨#[]⟩ : ByteArray), .int .i64 0]) ?_ 1 _ rfl; (with_reducible repeat (first | refine blk_drewN ?_ _ | refine blk_drew ?_ | refine blk_alloc ?_ _)); refine blk_put (cs := #[.string (⟨#[]⟩ : ByteArray), .int .i64 0, .int .i64 0, .string (⟨#[]⟩ : ByteArray), .int .i64 0]) ?_ 0 _ rfl; (with_reducible repeat (first | refine blk_drewN ?_ _ | refine blk_drew ?_ | refine blk_alloc ?_ _)); exact BK137.out) Try.underlying26 rfl (by kernel_rfl)) rfl ?_
  exact ⟨by first | rfl | (simp [errW_none, errW_some] <;> rfl) | (simp [*, errW_none, errW_some] <;> rfl), by repeat (first | (with_reducible first | exact HB.out | apply below_alloc | apply pw_below_drewN | apply below_drew1 | refine below_set ?_ GE137.out) | exact HB.out)⟩

-- NOT PRINTED: function 82 (impl_Kept_82)

/-! ### impl_keptAt: function 66 -/
def impl_keptAt.l0 : Nat → List (S83) → ByteArray → Int → Option (Int)
 | 0, _, _, _ => none
 | k + 1, x0, x1, x5 => if x5 < (x0.length : Int) then (if 0 ≤ x5 then (if ((rd_T83 x0 x5).f0.f0).toList = x1.toList then (some x5) else (impl_keptAt.l0 k x0 x1 (wrap64 (x5 + 1)))) else (none)) else (some (-1))
def impl_keptAt.f (k : Nat) (l0 : List (S83)) (a1 : ByteArray) : Option (Int) := impl_keptAt.l0 k l0 a1 0
theorem impl_keptAt.mono_l : ∀ k, (∀ y0 y1 y2, LeO (impl_keptAt.l0 k y0 y1 y2) (impl_keptAt.l0 (k + 1) y0 y1 y2))
 | 0 => fun _ _ _ r h => by simp [impl_keptAt.l0] at h
 | k + 1 => by
  have ih0 := impl_keptAt.mono_l k
  ·intro y0 y1 y2
   unfold impl_keptAt.l0
   repeat' first
   | (with_reducible exact ih0 _ _ _)
   | (with_reducible exact LeO.refl _)
   | (with_reducible exact LeO.none _)
   | (with_reducible refine LeO.ite ?_ ?_)
   | (with_reducible refine LeO.bind ?_ (fun _ => ?_))
   | exact ih0 _ _ _
   | exact LeO.none _
   | refine LeO.ite ?_ ?_
   | refine LeO.bind ?_ (fun _ => ?_)
theorem impl_keptAt.mono : ∀ a0 a1 k, LeO (impl_keptAt.f k a0 a1) (impl_keptAt.f (k + 1) a0 a1) := by
 intro a0 a1 k
 have ih0 := impl_keptAt.mono_l k
 unfold impl_keptAt.f
 repeat' first
   | (with_reducible exact ih0 _ _ _)
   | (with_reducible exact LeO.refl _)
   | (with_reducible exact LeO.none _)
   | (with_reducible refine LeO.ite ?_ ?_)
   | (with_reducible refine LeO.bind ?_ (fun _ => ?_))
   | exact ih0 _ _ _
   | exact LeO.none _
   | refine LeO.ite ?_ ?_
   | refine LeO.bind ?_ (fun _ => ?_)
set_option maxHeartbeats 8000000 in
set_option maxRecDepth 100000 in
theorem lam_83.calls (B : Nat) (s : ByteArray) (x : S83) (w : World) (hc : w.cell? ⟨B, 0, none⟩ = some (.string s)) (hB : B < w.heap.size) :
  Calls Try.prog 83 #[.agg #[.string x.f0.f0, .int .i64 x.f0.f1, .int .i64 x.f0.f2, .string x.f0.f3, .int .i64 x.f0.f4, .int .i64 x.f1], .pointer (some ⟨B, 0, none⟩)] w fun e w' => e = .returned (.bool ((x).f0.f0.toList == s.toList)) ∧ Below w.heap.size w w' := by
 have hne : B ≠ w.heap.size := by omega
 go_enter Try.func83, Try.ntmps83
 go_wp2
 all_goals (go_ret; exact ⟨by simp_all, (Below.refl _ w).alloc (Nat.le_refl _) _⟩)
/-- The first place of a text; -1 where it is not. -/
def At83 (l : List S83) (s : ByteArray) (r : Int) : Prop := (∃ j : Nat, j < l.length ∧ r = j ∧ ((rd_T83 l j).f0.f0.toList == s.toList) = true ∧ ∀ i : Nat, i < j → ((rd_T83 l i).f0.f0.toList == s.toList) = false) ∨ (r = -1 ∧ ∀ i : Nat, i < l.length → ((rd_T83 l i).f0.f0.toList == s.toList) = false)
set_option maxHeartbeats 8000000 in
set_option maxRecDepth 100000 in
theorem idx_82.calls (B : Nat) (s : ByteArray) (A : Option Addr) (c : Nat) (l : List S83) (r : Int) (w : World) (hr : Kd.C k83 w A l.length l) (hc : w.cell? ⟨B, 0, none⟩ = some (.string s)) (hB : B < w.heap.size) (hf : At83 l s r) :
  Calls Try.prog 82 #[.slice A l.length c, .func (.func 83) #[] #[.pointer (some ⟨B, 0, none⟩)]] w fun e w' => e = .returned (.int .i64 r) ∧ Below w.heap.size w w' := by
 have HR := Aside0.mk hr
 have HM := Aside0.mk (Kd.C_max hr)
 have HC := Aside0.mk hc
 have HF := Aside0.mk hf
 have HL := Aside0.mk hB
 clear hr hc hf hB
 go_enter Try.func82, Try.ntmps82
 go_wp2
 go_loopg [5, 8] l.length (fun gg _ s8 wr => ∃ kk : Nat, s8 = .int .i64 kk ∧ kk ≤ l.length ∧ l.length - kk ≤ gg ∧ Aside0 (Below w.heap.size w wr) ∧ Aside0 (∀ j : Nat, j < kk → ((rd_T83 l j).f0.f0.toList == s.toList) = false))
 case atStart => exact ⟨0, rfl, Nat.zero_le _, by omega, ⟨Below.refl _ w⟩, ⟨fun j hj => absurd hj (Nat.not_lt_zero _)⟩⟩
 case round =>
  obtain ⟨kk, rfl, hkk, hg, HB, HN⟩ := hrel
  by_cases hlt : kk < l.length
  ·have c4b0 : decide ((kk : Int) < (l.length : Int)) = true := decide_eq_true (by omega)
   have p_ : 0 ≤ (kk : Int) := by omega
   have q_ : (kk : Int) < (l.length : Int) := by omega
   obtain ⟨ad_, e_, hx_0, hx_1, hx_2, hx_3, hx_4, hx_5⟩ := at_T83 HR.out kk p_ q_
   cases e_
   simp only [Int.toNat_natCast] at hx_0 hx_1 hx_2 hx_3 hx_4 hx_5
   replace hx_0 := pw_cell_below HB.out hx_0
   replace hx_1 := pw_cell_below HB.out hx_1
   replace hx_2 := pw_cell_below HB.out hx_2
   replace hx_3 := pw_cell_below HB.out hx_3
   replace hx_4 := pw_cell_below HB.out hx_4
   replace hx_5 := pw_cell_below HB.out hx_5
   have hcall := lam_83.calls B s (rd_T83 l kk) wr ((HB.out.cell HL.out).trans HC.out) (Nat.lt_of_lt_of_le HL.out HB.out.size)
   cases hq : ((rd_T83 l kk).f0.f0.toList == s.toList) with
   | true =>
    rw [hq] at hcall
    have HQ := Aside0.mk hq
    clear hq
    go_wp2_with (go_at_call 83; refine hcall.mono ?_; rintro e w' ⟨rfl, hb'⟩)
    go_ret
    refine ⟨?_, below_then HB.out HB.out.size hb'⟩
    rcases HF.out with ⟨j, h1, rfl, h3, h4⟩ | ⟨rfl, h2⟩
    ·have : j = kk := by
      rcases Nat.lt_trichotomy j kk with h | h | h
      ·have := HN.out j h; rw [this] at h3; cases h3
      ·exact h
      ·have := h4 kk h; rw [HQ.out] at this; cases this
     subst this; rfl
    ·have := h2 kk hlt; rw [HQ.out] at this; cases this
   | false =>
    rw [hq] at hcall
    have HQ := Aside0.mk hq
    clear hq
    go_wp2_with (go_at_call 83; refine hcall.mono ?_; rintro e w' ⟨rfl, hb'⟩)
    go_roundg (l.length - (kk + 1))
    case measure => omega
    case rel =>
     have hm := HM.out
     have ew : wrap64 ((kk : Int) + 1) = ((kk + 1 : Nat) : Int) := by unfold wrap64; omega
     refine ⟨kk + 1, (by rw [ew]), by omega, by omega, ⟨below_then HB.out HB.out.size hb'⟩, ⟨fun j hj => ?_⟩⟩
     by_cases e : j = kk
     ·rw [e]; exact HQ.out
     ·exact HN.out j (by omega)
  ·have c4b0 : decide ((kk : Int) < (l.length : Int)) = false := decide_eq_false (by omega)
   have hk : kk = l.length := by omega
   go_wp2
   go_ret
   refine ⟨?_, HB.out⟩
   rcases HF.out with ⟨j, h1, rfl, h3, h4⟩ | ⟨rfl, h2⟩
   ·have := HN.out j (by omega); rw [this] at h3; cases h3
   ·rfl
theorem impl_keptAt_tells {l : List S83} {s : ByteArray} (hm : l.length ≤ 9223372036854775807) : ∀ (k i : Nat) (r : Int), i ≤ l.length → (∀ q : Nat, q < i → ((rd_T83 l q).f0.f0.toList == s.toList) = false) → impl_keptAt.l0 k l s i = some r →
  (∃ j : Nat, j < l.length ∧ At83 l s j ∧ r = (j : Int)) ∨ (At83 l s (-1) ∧ r = -1) := by
 intro k
 induction k with
 | zero => intro i r _ _ h; simp [impl_keptAt.l0] at h
 | succ k ih =>
  intro i r hi hn h
  simp only [impl_keptAt.l0] at h
  by_cases c1 : (i : Int) < (l.length : Int)
  ·rw [if_pos c1, if_pos (by omega)] at h
   by_cases c2 : (rd_T83 l i).f0.f0.toList = s.toList
   ·rw [if_pos c2] at h
    exact Or.inl ⟨i, by omega, Or.inl ⟨i, by omega, rfl, beq_iff_eq.mpr c2, hn⟩, (Option.some.inj h).symm⟩
   ·rw [if_neg c2, show wrap64 ((i : Int) + 1) = ((i + 1 : Nat) : Int) by unfold wrap64; omega] at h
    refine ih (i + 1) r (by omega) (fun q hq => ?_) h
    by_cases e : q = i
    ·subst e; exact beq_eq_false_iff_ne.mpr c2
    ·exact hn q (by omega)
  ·rw [if_neg c1] at h
   exact Or.inr ⟨Or.inr ⟨rfl, fun q hq => hn q (by omega)⟩, (Option.some.inj h).symm⟩
set_option maxHeartbeats 8000000 in
set_option maxRecDepth 100000 in
theorem impl_keptAt.calls (k : Nat) (A0 : Option Addr) (c0 : Nat) (l0 : List (S83)) (a1 : ByteArray) (r : Int) (w : World) (hr0 : Kd.C k83 w A0 l0.length l0) (hc0 : l0.length ≤ c0) (h : impl_keptAt.f k l0 a1 = some r) :
  Calls Try.prog 66 #[.slice A0 l0.length c0, .string a1] w fun e w' => e = .returned (.int .i64 r) ∧ Below w.heap.size w w' := by
 have hu_ := Try.underlying83
 have HR0 := Aside0.mk hr0
 have HB := Aside0.mk (Below.refl w.heap.size w)
 have HA := Aside0.mk (show At83 l0 a1 r by
  rcases impl_keptAt_tells (Kd.C_max hr0) k 0 _ (Nat.zero_le _) (fun q hq => absurd hq (Nat.not_lt_zero _)) h with ⟨j, _, hat, he⟩ | ⟨hat, he⟩
  ·rw [he]; exact hat
  ·rw [he]; exact hat)
 clear hr0 hc0 h
 go_enter Try.func66, Try.ntmps66
 go_wp2_with (first | ((with_reducible refine gate_dst (N := 3) rfl ?_); refine box_event ?hg (N := 3) ?hd (cs := #[.string a1]) (t := 9) ?hr ?_; (case hd => rfl); (case hg => rfl); (case hr => first | (go_simp; done) | (go_simp; rfl)); intro gb8001 hg w8001 hbox hb; have n0_ := Aside0.mk (below_step HB.out hb); have n1_ := Aside0.mk hbox; clear HB; have HB := n0_; have BK8001 := n1_; clear n0_ n1_ hb hbox hg) | (go_at_call 82; (with_reducible refine (idx_82.calls gb8001 a1 _ c0 l0 r _ (Kd.C_below HR0.out HB.out) ((blk_cell BK8001.out 0).trans rfl) (blk_lt BK8001.out) HA.out).mono ?_); rintro e w9 ⟨rfl, hb⟩; have n0_ := Aside0.mk (below_step HB.out hb); clear HB BK8001; have HB := n0_; clear n0_ hb))
 go_ret
 exact ⟨by first | rfl | (simp [*]; done), by repeat (first | (with_reducible first | exact HB.out | apply below_alloc | apply pw_below_drewN | apply below_drew1) | exact HB.out)⟩

end Go.Proofs.Ytmgnmgobibpjjaa.GFnKeptAsk
