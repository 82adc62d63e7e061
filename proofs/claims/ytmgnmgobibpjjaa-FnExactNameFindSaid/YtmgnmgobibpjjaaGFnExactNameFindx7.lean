/- What the Go functions that FnExactNameFind reaches come to, walked step by step; there is no condition beyond those each statement names. -/
import Derived.Test.YtmgnmgobibpjjaaGFnExactNameFindx0
import Derived.Test.YtmgnmgobibpjjaaGFnExactNameFindx1
import Derived.Test.YtmgnmgobibpjjaaGFnExactNameFindx4
import Derived.Test.YtmgnmgobibpjjaaGFnExactNameFindx6
namespace Go.Proofs.Ytmgnmgobibpjjaa.GFnExactNameFind
open Go.RowKit Go.Proofs.YtmgnmgobibpjjaaU.PrintWords Go.Proofs.YtmgnmgobibpjjaaU.PrintLast Go.Proofs.YtmgnmgobibpjjaaU.PrintMore
attribute [local go_sem] max2_int min2_int max_two min_two max_three min_three max_four min_four   -- for this text's walks alone
set_option linter.unusedVariables false
set_option linter.unusedSimpArgs false

-- NOT PRINTED: function 80 (impl_Name)

/-! ### impl_ask: function 63 -/
def impl_ask.l0 : Nat → List (S26) → ByteArray → Int → Option (ByteArray × Int × Int × ByteArray × Int)
  | 0, _, _, _ => none
  | k + 1, x0, x1, x5 => if x5 < (x0.length : Int) then (if 0 ≤ x5 then (if ((rd_T26 x0 x5).f0).toList = x1.toList then (some ((rd_T26 x0 x5).f0, (rd_T26 x0 x5).f1, (rd_T26 x0 x5).f2, (rd_T26 x0 x5).f3, (rd_T26 x0 x5).f4)) else (impl_ask.l0 k x0 x1 (wrap64 (x5 + 1)))) else (none)) else (some (x1, 0, 0, (⟨#[]⟩ : ByteArray), 5))
def impl_ask.f (k : Nat) (l0 : List (S26)) (a1 : ByteArray) : Option (ByteArray × Int × Int × ByteArray × Int) := impl_ask.l0 k l0 a1 0
theorem impl_ask.mono_l : ∀ k, (∀ y0 y1 y2, LeO (impl_ask.l0 k y0 y1 y2) (impl_ask.l0 (k + 1) y0 y1 y2))
  | 0 => fun _ _ _ r h => by simp [impl_ask.l0] at h
  | k + 1 => by
    have ih0 := impl_ask.mono_l k
    · intro y0 y1 y2
      unfold impl_ask.l0
      repeat' first
      | (with_reducible exact ih0 _ _ _)
      | (with_reducible exact LeO.refl _)
      | (with_reducible exact LeO.none _)
      | (with_reducible refine LeO.ite ?_ ?_)
      | (with_reducible refine LeO.bind ?_ (fun _ => ?_))
      | exact ih0 _ _ _
      | exact LeO.none _
      | refine LeO.ite ?_ ?_
      | refine LeO.bind ?_ (fun _ => ?_)
theorem impl_ask.mono : ∀ a0 a1 k, LeO (impl_ask.f k a0 a1) (impl_ask.f (k + 1) a0 a1) := by
  intro a0 a1 k
  have ih0 := impl_ask.mono_l k
  unfold impl_ask.f
  repeat' first
      | (with_reducible exact ih0 _ _ _)
      | (with_reducible exact LeO.refl _)
      | (with_reducible exact LeO.none _)
      | (with_reducible refine LeO.ite ?_ ?_)
      | (with_reducible refine LeO.bind ?_ (fun _ => ?_))
      | exact ih0 _ _ _
      | exact LeO.none _
      | refine LeO.ite ?_ ?_
      | refine LeO.bind ?_ (fun _ => ?_)
set_option maxHeartbeats 8000000 in
set_option maxRecDepth 100000 in
theorem lam_81.calls (B : Nat) (s : ByteArray) (x : S26) (w : World) (hc : w.cell? ⟨B, 0, none⟩ = some (.string s)) (hB : B < w.heap.size) :
    Calls Try.prog 81 #[.agg #[.string x.f0, .int .i64 x.f1, .int .i64 x.f2, .string x.f3, .int .i64 x.f4], .pointer (some ⟨B, 0, none⟩)] w fun e w' => e = .returned (.bool ((x).f0.toList == s.toList)) ∧ Below w.heap.size w w' := by
  have hne : B ≠ w.heap.size := by omega
  go_enter Try.func81, Try.ntmps81
  go_wp2
  all_goals (go_ret; exact ⟨by simp_all, (Below.refl _ w).alloc (Nat.le_refl _) _⟩)
/-- The first place of a text; -1 where it is not. -/
def At26 (l : List S26) (s : ByteArray) (r : Int) : Prop := (∃ j : Nat, j < l.length ∧ r = j ∧ ((rd_T26 l j).f0.toList == s.toList) = true ∧ ∀ i : Nat, i < j → ((rd_T26 l i).f0.toList == s.toList) = false) ∨ (r = -1 ∧ ∀ i : Nat, i < l.length → ((rd_T26 l i).f0.toList == s.toList) = false)
set_option maxHeartbeats 8000000 in
set_option maxRecDepth 100000 in
theorem idx_80.calls (B : Nat) (s : ByteArray) (A : Option Addr) (c : Nat) (l : List S26) (r : Int) (w : World) (hr : Kd.C k26 w A l.length l) (hc : w.cell? ⟨B, 0, none⟩ = some (.string s)) (hB : B < w.heap.size) (hf : At26 l s r) :
    Calls Try.prog 80 #[.slice A l.length c, .func (.func 81) #[] #[.pointer (some ⟨B, 0, none⟩)]] w fun e w' => e = .returned (.int .i64 r) ∧ Below w.heap.size w w' := by
  have HR := Aside0.mk hr
  have HM := Aside0.mk (Kd.C_max hr)
  have HC := Aside0.mk hc
  have HF := Aside0.mk hf
  have HL := Aside0.mk hB
  clear hr hc hf hB
  go_enter Try.func80, Try.ntmps80
  go_wp2
  go_loopg [5, 8] l.length (fun gg _ s8 wr => ∃ kk : Nat, s8 = .int .i64 kk ∧ kk ≤ l.length ∧ l.length - kk ≤ gg ∧ Aside0 (Below w.heap.size w wr) ∧ Aside0 (∀ j : Nat, j < kk → ((rd_T26 l j).f0.toList == s.toList) = false))
  case atStart => exact ⟨0, rfl, Nat.zero_le _, by omega, ⟨Below.refl _ w⟩, ⟨fun j hj => absurd hj (Nat.not_lt_zero _)⟩⟩
  case round =>
    obtain ⟨kk, rfl, hkk, hg, HB, HN⟩ := hrel
    by_cases hlt : kk < l.length
    · have c4b0 : decide ((kk : Int) < (l.length : Int)) = true := decide_eq_true (by omega)
      have p_ : 0 ≤ (kk : Int) := by omega
      have q_ : (kk : Int) < (l.length : Int) := by omega
      obtain ⟨ad_, e_, hx_0, hx_1, hx_2, hx_3, hx_4⟩ := at_T26 HR.out kk p_ q_
      cases e_
      simp only [Int.toNat_natCast] at hx_0 hx_1 hx_2 hx_3 hx_4
      replace hx_0 := (HB.out.cell (World.block_lt_of_cell? w _ hx_0)).trans hx_0
      replace hx_1 := (HB.out.cell (World.block_lt_of_cell? w _ hx_1)).trans hx_1
      replace hx_2 := (HB.out.cell (World.block_lt_of_cell? w _ hx_2)).trans hx_2
      replace hx_3 := (HB.out.cell (World.block_lt_of_cell? w _ hx_3)).trans hx_3
      replace hx_4 := (HB.out.cell (World.block_lt_of_cell? w _ hx_4)).trans hx_4
      have hcall := lam_81.calls B s (rd_T26 l kk) wr ((HB.out.cell HL.out).trans HC.out) (Nat.lt_of_lt_of_le HL.out HB.out.size)
      cases hq : ((rd_T26 l kk).f0.toList == s.toList) with
      | true =>
        rw [hq] at hcall
        have HQ := Aside0.mk hq
        clear hq
        go_wp2_with (go_at_call 81; refine hcall.mono ?_; rintro e w' ⟨rfl, hb'⟩)
        go_ret
        refine ⟨?_, below_then HB.out HB.out.size hb'⟩
        rcases HF.out with ⟨j, h1, rfl, h3, h4⟩ | ⟨rfl, h2⟩
        · have : j = kk := by
            rcases Nat.lt_trichotomy j kk with h | h | h
            · have := HN.out j h; rw [this] at h3; cases h3
            · exact h
            · have := h4 kk h; rw [HQ.out] at this; cases this
          subst this; rfl
        · have := h2 kk hlt; rw [HQ.out] at this; cases this
      | false =>
        rw [hq] at hcall
        have HQ := Aside0.mk hq
        clear hq
        go_wp2_with (go_at_call 81; refine hcall.mono ?_; rintro e w' ⟨rfl, hb'⟩)
        go_roundg (l.length - (kk + 1))
        case measure => omega
        case rel =>
          have hm := HM.out
          have ew : wrap64 ((kk : Int) + 1) = ((kk + 1 : Nat) : Int) := by unfold wrap64; omega
          refine ⟨kk + 1, (by rw [ew]), by omega, by omega, ⟨below_then HB.out HB.out.size hb'⟩, ⟨fun j hj => ?_⟩⟩
          by_cases e : j = kk
          · rw [e]; exact HQ.out
          · exact HN.out j (by omega)
    · have c4b0 : decide ((kk : Int) < (l.length : Int)) = false := decide_eq_false (by omega)
      have hk : kk = l.length := by omega
      go_wp2
      go_ret
      refine ⟨?_, HB.out⟩
      rcases HF.out with ⟨j, h1, rfl, h3, h4⟩ | ⟨rfl, h2⟩
      · have := HN.out j (by omega); rw [this] at h3; cases h3
      · rfl
theorem impl_ask_tells {l : List S26} {s : ByteArray} (hm : l.length ≤ 9223372036854775807) : ∀ (k i : Nat) (r : ByteArray × Int × Int × ByteArray × Int), i ≤ l.length → (∀ q : Nat, q < i → ((rd_T26 l q).f0.toList == s.toList) = false) → impl_ask.l0 k l s i = some r →
    (∃ j : Nat, j < l.length ∧ At26 l s j ∧ r = ((rd_T26 l j).f0, (rd_T26 l j).f1, (rd_T26 l j).f2, (rd_T26 l j).f3, (rd_T26 l j).f4)) ∨ (At26 l s (-1) ∧ r = (s, 0, 0, (⟨#[]⟩ : ByteArray), 5)) := by
  intro k
  induction k with
  | zero => intro i r _ _ h; simp [impl_ask.l0] at h
  | succ k ih =>
    intro i r hi hn h
    simp only [impl_ask.l0] at h
    by_cases c1 : (i : Int) < (l.length : Int)
    · rw [if_pos c1, if_pos (by omega)] at h
      by_cases c2 : (rd_T26 l i).f0.toList = s.toList
      · rw [if_pos c2] at h
        exact Or.inl ⟨i, by omega, Or.inl ⟨i, by omega, rfl, beq_iff_eq.mpr c2, hn⟩, (Option.some.inj h).symm⟩
      · rw [if_neg c2, show wrap64 ((i : Int) + 1) = ((i + 1 : Nat) : Int) by unfold wrap64; omega] at h
        refine ih (i + 1) r (by omega) (fun q hq => ?_) h
        by_cases e : q = i
        · subst e; exact beq_eq_false_iff_ne.mpr c2
        · exact hn q (by omega)
    · rw [if_neg c1] at h
      exact Or.inr ⟨Or.inr ⟨rfl, fun q hq => hn q (by omega)⟩, (Option.some.inj h).symm⟩
set_option maxHeartbeats 8000000 in
set_option maxRecDepth 100000 in
theorem impl_ask.calls (k : Nat) (A0 : Option Addr) (c0 : Nat) (l0 : List (S26)) (a1 : ByteArray) (r1 : ByteArray) (r2 : Int) (r3 : Int) (r4 : ByteArray) (r5 : Int) (w : World) (hr0 : Kd.C k26 w A0 l0.length l0) (hc0 : l0.length ≤ c0) (h : impl_ask.f k l0 a1 = some (r1, r2, r3, r4, r5)) :
    Calls Try.prog 63 #[.slice A0 l0.length c0, .string a1] w fun e w' => e = .returned (.agg #[.string r1, .int .i64 r2, .int .i64 r3, .string r4, .int .i64 r5]) ∧ Below w.heap.size w w' := by
  have hu_ := Try.underlying26
  have HR0 := Aside0.mk hr0
  have HB := Aside0.mk (Below.refl w.heap.size w)
  have HT := impl_ask_tells (Kd.C_max hr0) k 0 _ (Nat.zero_le _) (fun q hq => absurd hq (Nat.not_lt_zero _)) h
  clear hr0 hc0 h
  rcases HT with ⟨j, hj, hat, he⟩ | ⟨hat, he⟩
  · have HA := Aside0.mk hat
    clear hat
    simp only [Prod.mk.injEq] at he
    obtain ⟨rfl, rfl, rfl, rfl, rfl⟩ := he
    have p_ : 0 ≤ (j : Int) := by omega
    have q_ : (j : Int) < (l0.length : Int) := by omega
    obtain ⟨ad_, e_, hx_0, hx_1, hx_2, hx_3, hx_4⟩ := at_T26 HR0.out j p_ q_
    cases e_
    simp only [Int.toNat_natCast] at hx_0 hx_1 hx_2 hx_3 hx_4
    have HX0 := Aside0.mk hx_0
    clear hx_0
    have HX1 := Aside0.mk hx_1
    clear hx_1
    have HX2 := Aside0.mk hx_2
    clear hx_2
    have HX3 := Aside0.mk hx_3
    clear hx_3
    have HX4 := Aside0.mk hx_4
    clear hx_4
    replace p_ := eq_true p_
    replace q_ := eq_true q_
    have g0 : decide ((j : Int) ≥ 0) = true := decide_eq_true (by omega)
    go_enter Try.func63, Try.ntmps63
    go_upto_region 2 with (first | ((with_reducible refine gate_dst (N := 3) rfl ?_); refine box_event ?hg (N := 3) ?hd (cs := #[.string a1]) (t := 9) ?hr ?_; (case hd => rfl); (case hg => rfl); (case hr => first | (go_simp; done) | (go_simp; rfl)); intro gb8001 hg w8001 hbox hb; have n0_ := Aside0.mk (below_step HB.out hb); have n1_ := Aside0.mk hbox; clear HB; have HB := n0_; have BK8001 := n1_; clear n0_ n1_ hb hbox hg) | ((with_reducible refine gate_dst (N := 4) rfl ?_); refine box_event ?hg (N := 4) ?hd (cs := #[.string (⟨#[]⟩ : ByteArray), .int .i64 0, .int .i64 0, .string (⟨#[]⟩ : ByteArray), .int .i64 0]) (t := 26) ?hr ?_; (case hd => rfl); (case hg => rfl); (case hr => first | (go_simp; done) | (go_simp; rfl)); intro gb8002 hg w8002 hbox hb; have n0_ := Aside0.mk (below_step HB.out hb); have n1_ := Aside0.mk hbox; have k8001_ := Aside0.mk (blk_below BK8001.out hb); have n3_ := Aside0.mk ((by rw [hg]; exact below_size HB.out) : w.heap.size ≤ gb8002); clear HB BK8001; have HB := n0_; have BK8002 := n1_; have BK8001 := k8001_; have GE8002 := n3_; clear n0_ n1_ k8001_ n3_ hb hbox hg) | (go_at_call 80; (with_reducible refine (idx_80.calls gb8001 a1 _ c0 l0 j _ (Kd.C_below HR0.out HB.out) ((blk_cell BK8001.out 0).trans rfl) (blk_lt BK8001.out) HA.out).mono ?_); rintro e w9 ⟨rfl, hb⟩; have n0_ := Aside0.mk (below_step HB.out hb); have n1_ := Aside0.mk (blk_below BK8002.out hb); have n2_ := Aside0.mk (blk_below BK8001.out hb); clear HB BK8002 BK8001; have HB := n0_; have BK8002 := n1_; have BK8001 := n2_; clear n0_ n1_ n2_ hb))
    have hx_0 := pw_cell_below HB.out HX0.out
    have hx_1 := pw_cell_below HB.out HX1.out
    have hx_2 := pw_cell_below HB.out HX2.out
    have hx_3 := pw_cell_below HB.out HX3.out
    have hx_4 := pw_cell_below HB.out HX4.out
    have hcz_0 : w9.cell? ⟨gb8002, 0, none⟩ = some (.string (⟨#[]⟩ : ByteArray)) := (blk_cell BK8002.out 0).trans rfl
    have hcz_1 : w9.cell? ⟨gb8002, 1, none⟩ = some (.int .i64 0) := (blk_cell BK8002.out 1).trans rfl
    have hcz_2 : w9.cell? ⟨gb8002, 2, none⟩ = some (.int .i64 0) := (blk_cell BK8002.out 2).trans rfl
    have hcz_3 : w9.cell? ⟨gb8002, 3, none⟩ = some (.string (⟨#[]⟩ : ByteArray)) := (blk_cell BK8002.out 3).trans rfl
    have hcz_4 : w9.cell? ⟨gb8002, 4, none⟩ = some (.int .i64 0) := (blk_cell BK8002.out 4).trans rfl
    have hfz_0 := blk_frozen BK8002.out 0
    have hfz_1 := blk_frozen BK8002.out 1
    have hfz_2 := blk_frozen BK8002.out 2
    have hfz_3 := blk_frozen BK8002.out 3
    have hfz_4 := blk_frozen BK8002.out 4
    go_wp2
    refine bodyPost_ret (results_cell_row rfl _ _ gb8002 26 #[.string (rd_T26 l0 j).f0, .int .i64 (rd_T26 l0 j).f1, .int .i64 (rd_T26 l0 j).f2, .string (rd_T26 l0 j).f3, .int .i64 (rd_T26 l0 j).f4] (0, 0) _ rfl (by (with_reducible repeat (first | refine blk_drewN ?_ _ | refine blk_drew ?_ | refine blk_alloc ?_ _)); refine blk_put (cs := #[.string (rd_T26 l0 j).f0, .int .i64 (rd_T26 l0 j).f1, .int .i64 (rd_T26 l0 j).f2, .string (rd_T26 l0 j).f3, .int .i64 0]) ?_ 4 _ rfl; (with_reducible repeat (first | refine blk_drewN ?_ _ | refine blk_drew ?_ | refine blk_alloc ?_ _)); refine blk_put (cs := #[.string (rd_T26 l0 j).f0, .int .i64 (rd_T26 l0 j).f1, .int .i64 (rd_T26 l0 j).f2, .string (⟨#[]⟩ : ByteArray), .int .i64 0]) ?_ 3 _ rfl; (with_reducible repeat (first | refine blk_drewN ?_ _ | refine blk_drew ?_ | refine blk_alloc ?_ _)); refine blk_put (cs := #[.string (rd_T26 l0 j).f0, .int .i64 (rd_T26 l0 j).f1, .int .i64 0, .string (⟨#[]⟩ : ByteArray), .int .i64 0]) ?_ 2 _ rfl; (with_reducible repeat (first | refine blk_drewN ?_ _ | refine blk_drew ?_ | refine blk_alloc ?_ _)); refine blk_put (cs := #[.string (rd_T26 l0 j).f0, .int .i64 0, .int .i64 0, .string (⟨#[]⟩ : ByteArray), .int .i64 0]) ?_ 1 _ rfl; (with_reducible repeat (first | refine blk_drewN ?_ _ | refine blk_drew ?_ | refine blk_alloc ?_ _)); refine blk_put (cs := #[.string (⟨#[]⟩ : ByteArray), .int .i64 0, .int .i64 0, .string (⟨#[]⟩ : ByteArray), .int .i64 0]) ?_ 0 _ rfl; (with_reducible repeat (first | refine blk_drewN ?_ _ | refine blk_drew ?_ | refine blk_alloc ?_ _)); exact BK8002.out) Try.underlying26 rfl (by kernel_rfl)) rfl ?_
    exact ⟨by first | rfl | (simp [*]; done), by repeat (first | (with_reducible first | exact HB.out | apply below_alloc | apply pw_below_drewN | apply below_drew1 | refine below_set ?_ GE8002.out) | exact HB.out)⟩
  · have HA := Aside0.mk hat
    clear hat
    simp only [Prod.mk.injEq] at he
    obtain ⟨e1, rfl, rfl, rfl, rfl⟩ := he
    subst r1
    go_enter Try.func63, Try.ntmps63
    go_upto_region 2 with (first | ((with_reducible refine gate_dst (N := 3) rfl ?_); refine box_event ?hg (N := 3) ?hd (cs := #[.string a1]) (t := 9) ?hr ?_; (case hd => rfl); (case hg => rfl); (case hr => first | (go_simp; done) | (go_simp; rfl)); intro gb8001 hg w8001 hbox hb; have n0_ := Aside0.mk (below_step HB.out hb); have n1_ := Aside0.mk hbox; clear HB; have HB := n0_; have BK8001 := n1_; clear n0_ n1_ hb hbox hg) | ((with_reducible refine gate_dst (N := 4) rfl ?_); refine box_event ?hg (N := 4) ?hd (cs := #[.string (⟨#[]⟩ : ByteArray), .int .i64 0, .int .i64 0, .string (⟨#[]⟩ : ByteArray), .int .i64 0]) (t := 26) ?hr ?_; (case hd => rfl); (case hg => rfl); (case hr => first | (go_simp; done) | (go_simp; rfl)); intro gb8002 hg w8002 hbox hb; have n0_ := Aside0.mk (below_step HB.out hb); have n1_ := Aside0.mk hbox; have k8001_ := Aside0.mk (blk_below BK8001.out hb); have n3_ := Aside0.mk ((by rw [hg]; exact below_size HB.out) : w.heap.size ≤ gb8002); clear HB BK8001; have HB := n0_; have BK8002 := n1_; have BK8001 := k8001_; have GE8002 := n3_; clear n0_ n1_ k8001_ n3_ hb hbox hg) | (go_at_call 80; (with_reducible refine (idx_80.calls gb8001 a1 _ c0 l0 (-1) _ (Kd.C_below HR0.out HB.out) ((blk_cell BK8001.out 0).trans rfl) (blk_lt BK8001.out) HA.out).mono ?_); rintro e w9 ⟨rfl, hb⟩; have n0_ := Aside0.mk (below_step HB.out hb); have n1_ := Aside0.mk (blk_below BK8002.out hb); have n2_ := Aside0.mk (blk_below BK8001.out hb); clear HB BK8002 BK8001; have HB := n0_; have BK8002 := n1_; have BK8001 := n2_; clear n0_ n1_ n2_ hb))
    have hcz_0 : w9.cell? ⟨gb8002, 0, none⟩ = some (.string (⟨#[]⟩ : ByteArray)) := (blk_cell BK8002.out 0).trans rfl
    have hcz_1 : w9.cell? ⟨gb8002, 1, none⟩ = some (.int .i64 0) := (blk_cell BK8002.out 1).trans rfl
    have hcz_2 : w9.cell? ⟨gb8002, 2, none⟩ = some (.int .i64 0) := (blk_cell BK8002.out 2).trans rfl
    have hcz_3 : w9.cell? ⟨gb8002, 3, none⟩ = some (.string (⟨#[]⟩ : ByteArray)) := (blk_cell BK8002.out 3).trans rfl
    have hcz_4 : w9.cell? ⟨gb8002, 4, none⟩ = some (.int .i64 0) := (blk_cell BK8002.out 4).trans rfl
    have hfz_0 := blk_frozen BK8002.out 0
    have hfz_1 := blk_frozen BK8002.out 1
    have hfz_2 := blk_frozen BK8002.out 2
    have hfz_3 := blk_frozen BK8002.out 3
    have hfz_4 := blk_frozen BK8002.out 4
    have hcs_0 : w9.cell? ⟨gb8001, 0, none⟩ = some (.string a1) := (blk_cell BK8001.out 0).trans rfl
    go_wp2
    refine bodyPost_ret (results_cell_row rfl _ _ gb8002 26 #[.string a1, .int .i64 0, .int .i64 0, .string (⟨#[]⟩ : ByteArray), .int .i64 5] (0, 0) _ rfl (by (with_reducible repeat (first | refine blk_drewN ?_ _ | refine blk_drew ?_ | refine blk_alloc ?_ _)); refine blk_put (cs := #[.string a1, .int .i64 0, .int .i64 0, .string (⟨#[]⟩ : ByteArray), .int .i64 0]) ?_ 4 _ rfl; (with_reducible repeat (first | refine blk_drewN ?_ _ | refine blk_drew ?_ | refine blk_alloc ?_ _)); refine blk_put (cs := #[.string a1, .int .i64 0, .int .i64 0, .string (⟨#[]⟩ : ByteArray), .int .i64 0]) ?_ 3 _ rfl; (with_reducible repeat (first | refine blk_drewN ?_ _ | refine blk_drew ?_ | refine blk_alloc ?_ _)); refine blk_put (cs := #[.string a1, .int .i64 0, .int .i64 0, .string (⟨#[]⟩ : ByteArray), .int .i64 0]) ?_ 2 _ rfl; (with_reducible repeat (first | refine blk_drewN ?_ _ | refine blk_drew ?_ | refine blk_alloc ?_ _)); refine blk_put (cs := #[.string a1, .int .i64 0, .int .i64 0, .string (⟨#[]⟩ : ByteArray), .int .i64 0]) ?_ 1 _ rfl; (with_reducible repeat (first | refine blk_drewN ?_ _ | refine blk_drew ?_ | refine blk_alloc ?_ _)); refine blk_put (cs := #[.string (⟨#[]⟩ : ByteArray), .int .i64 0, .int .i64 0, .string (⟨#[]⟩ : ByteArray), .int .i64 0]) ?_ 0 _ rfl; (with_reducible repeat (first | refine blk_drewN ?_ _ | refine blk_drew ?_ | refine blk_alloc ?_ _)); exact BK8002.out) Try.underlying26 rfl (by kernel_rfl)) rfl ?_
    exact ⟨by first | rfl | (simp [*]; done), by repeat (first | (with_reducible first | exact HB.out | apply below_alloc | apply pw_below_drewN | apply below_drew1 | refine below_set ?_ GE8002.out) | exact HB.out)⟩

-- NOT PRINTED: function 70 (impl_follow)

/-! ### impl_NameFind: function 40 -/
mutual
def impl_NameFind.j0 : Nat → List (S26) → ByteArray → Bool → Option (Int × Bool)
  | 0, _, _, _ => none
  | k + 1, x0, x1, x15 => if x15 = true then (some (0, false)) else (impl_NameFind.l0 k x0 x1 0)
def impl_NameFind.l0 : Nat → List (S26) → ByteArray → Int → Option (Int × Bool)
  | 0, _, _, _ => none
  | k + 1, x0, x1, x6 => if x6 < 5 then ((impl_ask.f k x0 x1).bind fun bt168 => (if bt168.2.1 = 1 then (some (bt168.2.2.1, true)) else (if bt168.2.1 = 0 then (some (0, false)) else (impl_NameFind.l0 k x0 bt168.2.2.2.1 (wrap64 (x6 + 1)))))) else (some (0, false))
end
def impl_NameFind.f (k : Nat) (l0 : List (S26)) (a1 : ByteArray) : Option (Int × Bool) := (impl_NamesOk.f k l0).bind fun t166 => (if t166 = true then ((impl_textOk.f k a1).bind fun t167 => (impl_NameFind.j0 k l0 a1 (!t167))) else (impl_NameFind.j0 k l0 a1 true))
theorem impl_NameFind.mono_l : ∀ k, (∀ y0 y1 y2, LeO (impl_NameFind.j0 k y0 y1 y2) (impl_NameFind.j0 (k + 1) y0 y1 y2)) ∧ (∀ y0 y1 y2, LeO (impl_NameFind.l0 k y0 y1 y2) (impl_NameFind.l0 (k + 1) y0 y1 y2))
  | 0 => ⟨fun _ _ _ r h => by simp [impl_NameFind.j0] at h, fun _ _ _ r h => by simp [impl_NameFind.l0] at h⟩
  | k + 1 => by
    obtain ⟨ih0, ih1⟩ := impl_NameFind.mono_l k
    refine ⟨?_, ?_⟩
    · intro y0 y1 y2
      unfold impl_NameFind.j0
      repeat' first
      | (with_reducible exact ih0 _ _ _)
      | (with_reducible exact ih1 _ _ _)
      | (with_reducible exact impl_NamesOk.mono _ _)
      | (with_reducible exact impl_ask.mono _ _ _)
      | (with_reducible exact impl_textOk.mono _ _)
      | (with_reducible exact LeO.refl _)
      | (with_reducible exact LeO.none _)
      | (with_reducible refine LeO.ite ?_ ?_)
      | (with_reducible refine LeO.bind ?_ (fun _ => ?_))
      | exact ih0 _ _ _
      | exact ih1 _ _ _
      | exact impl_NamesOk.mono _ _
      | exact impl_ask.mono _ _ _
      | exact impl_textOk.mono _ _
      | exact LeO.none _
      | refine LeO.ite ?_ ?_
      | refine LeO.bind ?_ (fun _ => ?_)
    · intro y0 y1 y2
      unfold impl_NameFind.l0
      repeat' first
      | (with_reducible exact ih0 _ _ _)
      | (with_reducible exact ih1 _ _ _)
      | (with_reducible exact impl_NamesOk.mono _ _)
      | (with_reducible exact impl_ask.mono _ _ _)
      | (with_reducible exact impl_textOk.mono _ _)
      | (with_reducible exact LeO.refl _)
      | (with_reducible exact LeO.none _)
      | (with_reducible refine LeO.ite ?_ ?_)
      | (with_reducible refine LeO.bind ?_ (fun _ => ?_))
      | exact ih0 _ _ _
      | exact ih1 _ _ _
      | exact impl_NamesOk.mono _ _
      | exact impl_ask.mono _ _ _
      | exact impl_textOk.mono _ _
      | exact LeO.none _
      | refine LeO.ite ?_ ?_
      | refine LeO.bind ?_ (fun _ => ?_)
theorem impl_NameFind.mono : ∀ a0 a1 k, LeO (impl_NameFind.f k a0 a1) (impl_NameFind.f (k + 1) a0 a1) := by
  intro a0 a1 k
  obtain ⟨ih0, ih1⟩ := impl_NameFind.mono_l k
  unfold impl_NameFind.f
  repeat' first
      | (with_reducible exact ih0 _ _ _)
      | (with_reducible exact ih1 _ _ _)
      | (with_reducible exact impl_NamesOk.mono _ _)
      | (with_reducible exact impl_ask.mono _ _ _)
      | (with_reducible exact impl_textOk.mono _ _)
      | (with_reducible exact LeO.refl _)
      | (with_reducible exact LeO.none _)
      | (with_reducible refine LeO.ite ?_ ?_)
      | (with_reducible refine LeO.bind ?_ (fun _ => ?_))
      | exact ih0 _ _ _
      | exact ih1 _ _ _
      | exact impl_NamesOk.mono _ _
      | exact impl_ask.mono _ _ _
      | exact impl_textOk.mono _ _
      | exact LeO.none _
      | refine LeO.ite ?_ ?_
      | refine LeO.bind ?_ (fun _ => ?_)
set_option maxHeartbeats 8000000 in
set_option maxRecDepth 100000 in
theorem lam_71.calls (k : Nat) (B : Nat) (A : Option Addr) (c : Nat) (l : List S26) (s : ByteArray) (r1 : ByteArray) (r2 r3 : Int) (r4 : ByteArray) (r5 : Int) (w : World) (hr : Kd.C k26 w A l.length l) (hc : l.length ≤ c) (hB : w.heap[B]? = some (.cells #[.slice A l.length c] 36 (0, 0))) (h : impl_ask.f k l s = some (r1, r2, r3, r4, r5)) :
    Calls Try.prog 71 #[.string s, .pointer (some ⟨B, 0, none⟩)] w fun e w' => e = .returned (.agg #[.string r1, .int .i64 r2, .int .i64 r3, .string r4, .int .i64 r5]) ∧ Below w.heap.size w w' := by
  have hu_ := Try.underlying26
  have HR0 := Aside0.mk hr
  have HC0 := Aside0.mk hc
  have BK8004 := Aside0.mk hB
  have HA := Aside0.mk h
  have HB := Aside0.mk (Below.refl w.heap.size w)
  clear hr hc hB h
  go_enter Try.func71, Try.ntmps71
  go_upto_region 1 with (first | ((with_reducible refine gate_dst (N := 3) rfl ?_); refine box_event ?hg (N := 3) ?hd (cs := #[.string (⟨#[]⟩ : ByteArray), .int .i64 0, .int .i64 0, .string (⟨#[]⟩ : ByteArray), .int .i64 0]) (t := 26) ?hr ?_; (case hd => rfl); (case hg => rfl); (case hr => first | (go_simp; done) | (go_simp; rfl)); intro gb8003 hg w4 hbox hb; have n0_ := Aside0.mk (below_step HB.out hb); have n1_ := Aside0.mk hbox; have k8004_ := Aside0.mk (blk_below BK8004.out hb); have n3_ := Aside0.mk ((by rw [hg]; exact below_size HB.out) : w.heap.size ≤ gb8003); clear HB BK8004; have HB := n0_; have BK8003 := n1_; have BK8004 := k8004_; have GE8003 := n3_; clear n0_ n1_ n3_ k8004_ hb hbox hg; have hcz8003_0 : w4.cell? ⟨gb8003, 0, none⟩ = some (.string (⟨#[]⟩ : ByteArray)) := (blk_cell BK8003.out 0).trans rfl; have hfz8003_0 := blk_frozen BK8003.out 0; have hcz8003_1 : w4.cell? ⟨gb8003, 1, none⟩ = some (.int .i64 0) := (blk_cell BK8003.out 1).trans rfl; have hfz8003_1 := blk_frozen BK8003.out 1; have hcz8003_2 : w4.cell? ⟨gb8003, 2, none⟩ = some (.int .i64 0) := (blk_cell BK8003.out 2).trans rfl; have hfz8003_2 := blk_frozen BK8003.out 2; have hcz8003_3 : w4.cell? ⟨gb8003, 3, none⟩ = some (.string (⟨#[]⟩ : ByteArray)) := (blk_cell BK8003.out 3).trans rfl; have hfz8003_3 := blk_frozen BK8003.out 3; have hcz8003_4 : w4.cell? ⟨gb8003, 4, none⟩ = some (.int .i64 0) := (blk_cell BK8003.out 4).trans rfl; have hfz8003_4 := blk_frozen BK8003.out 4))
  have hcl_ : w4.cell? ⟨B, 0, none⟩ = some (.slice A l.length c) := (blk_cell BK8004.out 0).trans rfl
  clear hcz8003_0 hcz8003_1 hcz8003_2 hcz8003_3 hcz8003_4 hfz8003_0 hfz8003_1 hfz8003_2 hfz8003_3 hfz8003_4
  go_wp2_with (first | (go_at_call 63; (with_reducible refine (impl_ask.calls k _ c l s r1 r2 r3 r4 r5 _ (Kd.C_below HR0.out HB.out) HC0.out HA.out).mono ?_); rintro e w9 ⟨rfl, hb⟩; have n0_ := Aside0.mk (below_step HB.out hb); have n1_ := Aside0.mk (blk_below BK8003.out hb); clear HB BK8003 hcl_; have HB := n0_; have BK8003 := n1_; clear n0_ n1_ hb; have hcz_0 : w9.cell? ⟨gb8003, 0, none⟩ = some (.string (⟨#[]⟩ : ByteArray)) := (blk_cell BK8003.out 0).trans rfl; have hfz_0 := blk_frozen BK8003.out 0; have hcz_1 : w9.cell? ⟨gb8003, 1, none⟩ = some (.int .i64 0) := (blk_cell BK8003.out 1).trans rfl; have hfz_1 := blk_frozen BK8003.out 1; have hcz_2 : w9.cell? ⟨gb8003, 2, none⟩ = some (.int .i64 0) := (blk_cell BK8003.out 2).trans rfl; have hfz_2 := blk_frozen BK8003.out 2; have hcz_3 : w9.cell? ⟨gb8003, 3, none⟩ = some (.string (⟨#[]⟩ : ByteArray)) := (blk_cell BK8003.out 3).trans rfl; have hfz_3 := blk_frozen BK8003.out 3; have hcz_4 : w9.cell? ⟨gb8003, 4, none⟩ = some (.int .i64 0) := (blk_cell BK8003.out 4).trans rfl; have hfz_4 := blk_frozen BK8003.out 4))
  refine bodyPost_ret (results_cell_row rfl _ _ gb8003 26 #[.string r1, .int .i64 r2, .int .i64 r3, .string r4, .int .i64 r5] (0, 0) _ rfl (by (with_reducible repeat (first | refine blk_drewN ?_ _ | refine blk_drew ?_ | refine blk_alloc ?_ _)); refine blk_put (cs := #[.string r1, .int .i64 r2, .int .i64 r3, .string r4, .int .i64 0]) ?_ 4 _ rfl; (with_reducible repeat (first | refine blk_drewN ?_ _ | refine blk_drew ?_ | refine blk_alloc ?_ _)); refine blk_put (cs := #[.string r1, .int .i64 r2, .int .i64 r3, .string (⟨#[]⟩ : ByteArray), .int .i64 0]) ?_ 3 _ rfl; (with_reducible repeat (first | refine blk_drewN ?_ _ | refine blk_drew ?_ | refine blk_alloc ?_ _)); refine blk_put (cs := #[.string r1, .int .i64 r2, .int .i64 0, .string (⟨#[]⟩ : ByteArray), .int .i64 0]) ?_ 2 _ rfl; (with_reducible repeat (first | refine blk_drewN ?_ _ | refine blk_drew ?_ | refine blk_alloc ?_ _)); refine blk_put (cs := #[.string r1, .int .i64 0, .int .i64 0, .string (⟨#[]⟩ : ByteArray), .int .i64 0]) ?_ 1 _ rfl; (with_reducible repeat (first | refine blk_drewN ?_ _ | refine blk_drew ?_ | refine blk_alloc ?_ _)); refine blk_put (cs := #[.string (⟨#[]⟩ : ByteArray), .int .i64 0, .int .i64 0, .string (⟨#[]⟩ : ByteArray), .int .i64 0]) ?_ 0 _ rfl; (with_reducible repeat (first | refine blk_drewN ?_ _ | refine blk_drew ?_ | refine blk_alloc ?_ _)); exact BK8003.out) Try.underlying26 rfl (by kernel_rfl)) rfl ?_
  exact ⟨by first | rfl | (simp [*]; done), by repeat (first | (with_reducible first | exact HB.out | apply below_alloc | apply pw_below_drewN | apply below_drew1 | refine below_set ?_ GE8003.out) | exact HB.out)⟩
set_option maxHeartbeats 8000000 in
set_option maxRecDepth 100000 in
theorem follow_71.calls (k : Nat) (B : Nat) (A : Option Addr) (c : Nat) (l : List S26) (s : ByteArray) (r1 : Int) (r2 : Bool) (w : World) (hr : Kd.C k26 w A l.length l) (hc : l.length ≤ c) (hB : w.heap[B]? = some (.cells #[.slice A l.length c] 36 (0, 0))) (h : impl_NameFind.l0 k l s 0 = some (r1, r2)) :
    Calls Try.prog 70 #[.string s, .func (.func 71) #[] #[.pointer (some ⟨B, 0, none⟩)]] w fun e w' => e = .returned (.tuple #[.int .i64 r1, .bool r2]) ∧ Below w.heap.size w w' := by
  have hu_ := Try.underlying26
  have HR0 := Aside0.mk hr
  have HC0 := Aside0.mk hc
  have BK8004 := Aside0.mk hB
  have H' := Aside0.mk h
  have HB := Aside0.mk (Below.refl w.heap.size w)
  clear hr hc hB h
  go_enter Try.func70, Try.ntmps70
  go_wp2
  go_loopg [0, 7] k (fun kq v0 v7 w' => ∃ (x0 : ByteArray) (x7 : Int), v0 = .string x0 ∧ v7 = .int .i64 x7 ∧ Aside0 (impl_NameFind.l0 kq l x0 x7 = some (r1, r2)) ∧ Aside0 (kq ≤ k) ∧ Aside0 (w'.heap[B]? = some (.cells #[.slice A l.length c] 36 (0, 0))) ∧ Aside0 (Below w.heap.size w w'))
  case atStart => exact ⟨s, 0, rfl, rfl, H', ⟨Nat.le_refl _⟩, BK8004, HB⟩
  case round =>
    clear H' BK8004 HB
    obtain ⟨x0, x7, rfl, rfl, HA, HK, BK8004, HB⟩ := hrel
    cases gk with
    | zero => exact absurd HA.out (by simp [impl_NameFind.l0])
    | succ k1 =>
      have H := HA.out
      clear HA
      simp only [impl_NameFind.l0] at H
      by_cases c1 : x7 < 5
      · rw [if_pos c1] at H
        have c1b0 : decide (x7 < 5) = true := decide_eq_true c1
        clear c1
        replace H := Option.bind_eq_some_iff.mp H
        obtain ⟨⟨q1, q2, q3, q4, q5⟩, A50, H⟩ := H
        dsimp only at H
        have A5 := Aside0.mk A50
        clear A50
        by_cases c2 : q2 = 1
        · rw [if_pos c2] at H
          have c2b0 : (q2 == 1) = true := beq_iff_eq.mpr c2
          clear c2
          simp only [Option.some.injEq, Prod.mk.injEq] at H
          obtain ⟨rfl, rfl⟩ := H
          go_wp2_with (first | (go_at_call 71; (with_reducible refine (lam_71.calls k1 B _ c l x0 q1 q2 q3 q4 q5 _ (Kd.C_below HR0.out HB.out) HC0.out BK8004.out A5.out).mono ?_); rintro e w9 ⟨rfl, hb⟩; have n0_ := Aside0.mk (below_step HB.out hb); have n1_ := Aside0.mk (blk_below BK8004.out hb); clear HB BK8004; have HB := n0_; have BK8004 := n1_; clear n0_ n1_ hb) | ((with_reducible refine gate_dst (N := 6) rfl ?_); refine box_event ?hg (N := 6) ?hd (cs := #[.string (⟨#[]⟩ : ByteArray), .int .i64 0, .int .i64 0, .string (⟨#[]⟩ : ByteArray), .int .i64 0]) (t := 26) ?hr ?_; (case hd => rfl); (case hg => rfl); (case hr => first | (go_simp; done) | (go_simp; rfl)); intro gb8006 hg w6 hbox hb; have n0_ := Aside0.mk (below_step HB.out hb); have n1_ := Aside0.mk hbox; have k8004_ := Aside0.mk (blk_below BK8004.out hb); have n3_ := Aside0.mk ((by rw [hg]; exact below_size HB.out) : w.heap.size ≤ gb8006); have HB8004_ := BK8004.out; clear HB BK8004; have NB8006 := Aside0.mk (show B ≠ gb8006 by rw [hg]; exact Nat.ne_of_lt (blk_lt HB8004_)); clear HB8004_; have HB := n0_; have BK8006 := n1_; have BK8004 := k8004_; have GE8006 := n3_; clear n0_ n1_ n3_ k8004_ hb hbox hg; have hcz8006_0 : w6.cell? ⟨gb8006, 0, none⟩ = some (.string (⟨#[]⟩ : ByteArray)) := (blk_cell BK8006.out 0).trans rfl; have hfz8006_0 := blk_frozen BK8006.out 0; have hcz8006_1 : w6.cell? ⟨gb8006, 1, none⟩ = some (.int .i64 0) := (blk_cell BK8006.out 1).trans rfl; have hfz8006_1 := blk_frozen BK8006.out 1; have hcz8006_2 : w6.cell? ⟨gb8006, 2, none⟩ = some (.int .i64 0) := (blk_cell BK8006.out 2).trans rfl; have hfz8006_2 := blk_frozen BK8006.out 2; have hcz8006_3 : w6.cell? ⟨gb8006, 3, none⟩ = some (.string (⟨#[]⟩ : ByteArray)) := (blk_cell BK8006.out 3).trans rfl; have hfz8006_3 := blk_frozen BK8006.out 3; have hcz8006_4 : w6.cell? ⟨gb8006, 4, none⟩ = some (.int .i64 0) := (blk_cell BK8006.out 4).trans rfl; have hfz8006_4 := blk_frozen BK8006.out 4))
          go_ret2
          exact ⟨by first | rfl | (simp [*]; done), by repeat (first | (with_reducible first | exact HB.out | apply below_alloc | apply pw_below_drewN | apply below_drew1 | refine below_set ?_ GE8006.out) | exact HB.out)⟩
        · rw [if_neg c2] at H
          have c2b0 : (q2 == 1) = false := beq_eq_false_iff_ne.mpr c2
          clear c2
          by_cases c3 : q2 = 0
          · rw [if_pos c3] at H
            have c3b0 : (q2 == 0) = true := beq_iff_eq.mpr c3
            clear c3
            simp only [Option.some.injEq, Prod.mk.injEq] at H
            obtain ⟨rfl, rfl⟩ := H
            go_wp2_with (first | (go_at_call 71; (with_reducible refine (lam_71.calls k1 B _ c l x0 q1 q2 q3 q4 q5 _ (Kd.C_below HR0.out HB.out) HC0.out BK8004.out A5.out).mono ?_); rintro e w9 ⟨rfl, hb⟩; have n0_ := Aside0.mk (below_step HB.out hb); have n1_ := Aside0.mk (blk_below BK8004.out hb); clear HB BK8004; have HB := n0_; have BK8004 := n1_; clear n0_ n1_ hb) | ((with_reducible refine gate_dst (N := 6) rfl ?_); refine box_event ?hg (N := 6) ?hd (cs := #[.string (⟨#[]⟩ : ByteArray), .int .i64 0, .int .i64 0, .string (⟨#[]⟩ : ByteArray), .int .i64 0]) (t := 26) ?hr ?_; (case hd => rfl); (case hg => rfl); (case hr => first | (go_simp; done) | (go_simp; rfl)); intro gb8006 hg w6 hbox hb; have n0_ := Aside0.mk (below_step HB.out hb); have n1_ := Aside0.mk hbox; have k8004_ := Aside0.mk (blk_below BK8004.out hb); have n3_ := Aside0.mk ((by rw [hg]; exact below_size HB.out) : w.heap.size ≤ gb8006); have HB8004_ := BK8004.out; clear HB BK8004; have NB8006 := Aside0.mk (show B ≠ gb8006 by rw [hg]; exact Nat.ne_of_lt (blk_lt HB8004_)); clear HB8004_; have HB := n0_; have BK8006 := n1_; have BK8004 := k8004_; have GE8006 := n3_; clear n0_ n1_ n3_ k8004_ hb hbox hg; have hcz8006_0 : w6.cell? ⟨gb8006, 0, none⟩ = some (.string (⟨#[]⟩ : ByteArray)) := (blk_cell BK8006.out 0).trans rfl; have hfz8006_0 := blk_frozen BK8006.out 0; have hcz8006_1 : w6.cell? ⟨gb8006, 1, none⟩ = some (.int .i64 0) := (blk_cell BK8006.out 1).trans rfl; have hfz8006_1 := blk_frozen BK8006.out 1; have hcz8006_2 : w6.cell? ⟨gb8006, 2, none⟩ = some (.int .i64 0) := (blk_cell BK8006.out 2).trans rfl; have hfz8006_2 := blk_frozen BK8006.out 2; have hcz8006_3 : w6.cell? ⟨gb8006, 3, none⟩ = some (.string (⟨#[]⟩ : ByteArray)) := (blk_cell BK8006.out 3).trans rfl; have hfz8006_3 := blk_frozen BK8006.out 3; have hcz8006_4 : w6.cell? ⟨gb8006, 4, none⟩ = some (.int .i64 0) := (blk_cell BK8006.out 4).trans rfl; have hfz8006_4 := blk_frozen BK8006.out 4))
            go_ret2
            exact ⟨by first | rfl | (simp [*]; done), by repeat (first | (with_reducible first | exact HB.out | apply below_alloc | apply pw_below_drewN | apply below_drew1 | refine below_set ?_ GE8006.out) | exact HB.out)⟩
          · rw [if_neg c3] at H
            have c3b0 : (q2 == 0) = false := beq_eq_false_iff_ne.mpr c3
            clear c3
            have H' := Aside0.mk H
            clear H
            go_wp2_with (first | (go_at_call 71; (with_reducible refine (lam_71.calls k1 B _ c l x0 q1 q2 q3 q4 q5 _ (Kd.C_below HR0.out HB.out) HC0.out BK8004.out A5.out).mono ?_); rintro e w9 ⟨rfl, hb⟩; have n0_ := Aside0.mk (below_step HB.out hb); have n1_ := Aside0.mk (blk_below BK8004.out hb); clear HB BK8004; have HB := n0_; have BK8004 := n1_; clear n0_ n1_ hb) | ((with_reducible refine gate_dst (N := 6) rfl ?_); refine box_event ?hg (N := 6) ?hd (cs := #[.string (⟨#[]⟩ : ByteArray), .int .i64 0, .int .i64 0, .string (⟨#[]⟩ : ByteArray), .int .i64 0]) (t := 26) ?hr ?_; (case hd => rfl); (case hg => rfl); (case hr => first | (go_simp; done) | (go_simp; rfl)); intro gb8006 hg w6 hbox hb; have n0_ := Aside0.mk (below_step HB.out hb); have n1_ := Aside0.mk hbox; have k8004_ := Aside0.mk (blk_below BK8004.out hb); have n3_ := Aside0.mk ((by rw [hg]; exact below_size HB.out) : w.heap.size ≤ gb8006); have HB8004_ := BK8004.out; clear HB BK8004; have NB8006 := Aside0.mk (show B ≠ gb8006 by rw [hg]; exact Nat.ne_of_lt (blk_lt HB8004_)); clear HB8004_; have HB := n0_; have BK8006 := n1_; have BK8004 := k8004_; have GE8006 := n3_; clear n0_ n1_ n3_ k8004_ hb hbox hg; have hcz8006_0 : w6.cell? ⟨gb8006, 0, none⟩ = some (.string (⟨#[]⟩ : ByteArray)) := (blk_cell BK8006.out 0).trans rfl; have hfz8006_0 := blk_frozen BK8006.out 0; have hcz8006_1 : w6.cell? ⟨gb8006, 1, none⟩ = some (.int .i64 0) := (blk_cell BK8006.out 1).trans rfl; have hfz8006_1 := blk_frozen BK8006.out 1; have hcz8006_2 : w6.cell? ⟨gb8006, 2, none⟩ = some (.int .i64 0) := (blk_cell BK8006.out 2).trans rfl; have hfz8006_2 := blk_frozen BK8006.out 2; have hcz8006_3 : w6.cell? ⟨gb8006, 3, none⟩ = some (.string (⟨#[]⟩ : ByteArray)) := (blk_cell BK8006.out 3).trans rfl; have hfz8006_3 := blk_frozen BK8006.out 3; have hcz8006_4 : w6.cell? ⟨gb8006, 4, none⟩ = some (.int .i64 0) := (blk_cell BK8006.out 4).trans rfl; have hfz8006_4 := blk_frozen BK8006.out 4))
            go_roundg k1
            case measure => have := HK.out; omega
            case rel => exact ⟨q4, wrap64 (x7 + 1), by first | rfl | (simp [*]; done), rfl, H', ⟨by have := HK.out; omega⟩, ⟨by (repeat (first | exact BK8004.out | refine blk_far ?_ (by first | exact NB8006.out | exact Ne.symm NB8006.out | omega) _))⟩, ⟨by repeat (first | (with_reducible first | exact HB.out | apply below_alloc | apply pw_below_drewN | apply below_drew1 | refine below_set ?_ GE8006.out) | exact HB.out)⟩⟩
      · rw [if_neg c1] at H
        have c1b0 : decide (x7 < 5) = false := decide_eq_false c1
        clear c1
        simp only [Option.some.injEq, Prod.mk.injEq] at H
        obtain ⟨rfl, rfl⟩ := H
        go_wp2
        go_ret2
        exact ⟨by first | rfl | (simp [*]; done), HB.out⟩
set_option maxHeartbeats 8000000 in
set_option maxRecDepth 100000 in
theorem impl_NameFind.calls (k : Nat) (A0 : Option Addr) (c0 : Nat) (l0 : List (S26)) (a1 : ByteArray) (r1 : Int) (r2 : Bool) (w : World) (hr0 : Kd.C k26 w A0 l0.length l0) (hc0 : l0.length ≤ c0) (h : impl_NameFind.f k l0 a1 = some (r1, r2)) :
    Calls Try.prog 40 #[.slice A0 l0.length c0, .string a1] w fun e w' => e = .returned (.tuple #[.int .i64 r1, .bool r2]) ∧ Below w.heap.size w w' := by
  have hu_ := Try.underlying26
  have HR0 := Aside0.mk hr0
  have HC0 := Aside0.mk hc0
  have HB := Aside0.mk (Below.refl w.heap.size w)
  have H : ((impl_NamesOk.f k l0).bind fun t1 => (if t1 = true then ((impl_textOk.f k a1).bind fun t2 => (impl_NameFind.j0 k l0 a1 (!t2))) else (impl_NameFind.j0 k l0 a1 true))) = some (r1, r2) := h
  clear hr0 hc0 h
  replace H := Option.bind_eq_some_iff.mp H
  obtain ⟨t1, A30, H⟩ := H
  have A3 := Aside0.mk A30
  clear A30
  by_cases c4 : t1 = true
  · subst c4
    rw [if_pos rfl] at H
    replace H := Option.bind_eq_some_iff.mp H
    obtain ⟨t2, A50, H⟩ := H
    have A5 := Aside0.mk A50
    clear A50
    cases k with
    | zero => exact absurd H (by simp [impl_NameFind.j0])
    | succ k1 =>
      simp only [impl_NameFind.j0] at H
      by_cases c6 : t2 = true
      · subst c6
        rw [if_neg (by simp)] at H
        have H' := Aside0.mk H
        clear H
        go_enter Try.func40, Try.ntmps40
        go_wp2_with (first | ((with_reducible refine gate_dst (N := 2) rfl ?_); refine box_event ?hg (N := 2) ?hd (cs := #[.slice A0 l0.length c0]) (t := 36) ?hr ?_; (case hd => rfl); (case hg => rfl); (case hr => first | (go_simp; done) | (go_simp; rfl)); intro gb8004 hg w8004 hbox hb; have n0_ := Aside0.mk (below_step HB.out hb); have n1_ := Aside0.mk hbox; clear HB; have HB := n0_; have BK8004 := n1_; clear n0_ n1_ hb hbox hg; have hcl_ : w8004.cell? ⟨gb8004, 0, none⟩ = some (.slice A0 l0.length c0) := (blk_cell BK8004.out 0).trans rfl) | (go_at_call 27; (with_reducible refine (impl_NamesOk.calls _ _ _ l0 _ _ (Kd.C_below HR0.out HB.out) HC0.out A3.out).mono ?_); rintro e w9 ⟨rfl, hb⟩; have n0_ := Aside0.mk (below_step HB.out hb); have n1_ := Aside0.mk (blk_below BK8004.out hb); clear HB BK8004 hcl_; have HB := n0_; have BK8004 := n1_; clear n0_ n1_ hb) | (go_at_call 56; (with_reducible refine (impl_textOk.calls _ _ _ _ A5.out).mono ?_); rintro e w10 ⟨rfl, hb⟩; have n0_ := Aside0.mk (below_step HB.out hb); have n1_ := Aside0.mk (blk_below BK8004.out hb); clear HB BK8004; have HB := n0_; have BK8004 := n1_; clear n0_ n1_ hb) | (go_at_call 70; (with_reducible refine (follow_71.calls k1 gb8004 _ c0 l0 a1 r1 r2 _ (Kd.C_below HR0.out HB.out) HC0.out BK8004.out H'.out).mono ?_); rintro e w11 ⟨rfl, hb⟩; have n0_ := Aside0.mk (below_step HB.out hb); clear HB BK8004; have HB := n0_; clear n0_ hb))
        go_ret2
        exact ⟨by first | rfl | (simp [*]; done), by repeat (first | (with_reducible first | exact HB.out | apply below_alloc | apply pw_below_drewN | apply below_drew1) | exact HB.out)⟩
      · replace c6 := Bool.eq_false_iff.mpr c6
        subst c6
        rw [if_pos (by simp)] at H
        simp only [Option.some.injEq, Prod.mk.injEq] at H
        obtain ⟨rfl, rfl⟩ := H
        go_enter Try.func40, Try.ntmps40
        go_wp2_with (first | ((with_reducible refine gate_dst (N := 2) rfl ?_); refine box_event ?hg (N := 2) ?hd (cs := #[.slice A0 l0.length c0]) (t := 36) ?hr ?_; (case hd => rfl); (case hg => rfl); (case hr => first | (go_simp; done) | (go_simp; rfl)); intro gb8004 hg w8004 hbox hb; have n0_ := Aside0.mk (below_step HB.out hb); have n1_ := Aside0.mk hbox; clear HB; have HB := n0_; have BK8004 := n1_; clear n0_ n1_ hb hbox hg; have hcl_ : w8004.cell? ⟨gb8004, 0, none⟩ = some (.slice A0 l0.length c0) := (blk_cell BK8004.out 0).trans rfl) | (go_at_call 27; (with_reducible refine (impl_NamesOk.calls _ _ _ l0 _ _ (Kd.C_below HR0.out HB.out) HC0.out A3.out).mono ?_); rintro e w9 ⟨rfl, hb⟩; have n0_ := Aside0.mk (below_step HB.out hb); have n1_ := Aside0.mk (blk_below BK8004.out hb); clear HB BK8004 hcl_; have HB := n0_; have BK8004 := n1_; clear n0_ n1_ hb) | (go_at_call 56; (with_reducible refine (impl_textOk.calls _ _ _ _ A5.out).mono ?_); rintro e w10 ⟨rfl, hb⟩; have n0_ := Aside0.mk (below_step HB.out hb); have n1_ := Aside0.mk (blk_below BK8004.out hb); clear HB BK8004; have HB := n0_; have BK8004 := n1_; clear n0_ n1_ hb))
        go_ret2
        exact ⟨by first | rfl | (simp [*]; done), by repeat (first | (with_reducible first | exact HB.out | apply below_alloc | apply pw_below_drewN | apply below_drew1) | exact HB.out)⟩
  · replace c4 := Bool.eq_false_iff.mpr c4
    subst c4
    rw [if_neg (by simp)] at H
    cases k with
    | zero => exact absurd H (by simp [impl_NameFind.j0])
    | succ k1 =>
      simp only [impl_NameFind.j0] at H
      rw [if_pos trivial] at H
      simp only [Option.some.injEq, Prod.mk.injEq] at H
      obtain ⟨rfl, rfl⟩ := H
      go_enter Try.func40, Try.ntmps40
      go_wp2_with (first | ((with_reducible refine gate_dst (N := 2) rfl ?_); refine box_event ?hg (N := 2) ?hd (cs := #[.slice A0 l0.length c0]) (t := 36) ?hr ?_; (case hd => rfl); (case hg => rfl); (case hr => first | (go_simp; done) | (go_simp; rfl)); intro gb8004 hg w8004 hbox hb; have n0_ := Aside0.mk (below_step HB.out hb); have n1_ := Aside0.mk hbox; clear HB; have HB := n0_; have BK8004 := n1_; clear n0_ n1_ hb hbox hg; have hcl_ : w8004.cell? ⟨gb8004, 0, none⟩ = some (.slice A0 l0.length c0) := (blk_cell BK8004.out 0).trans rfl) | (go_at_call 27; (with_reducible refine (impl_NamesOk.calls _ _ _ l0 _ _ (Kd.C_below HR0.out HB.out) HC0.out A3.out).mono ?_); rintro e w9 ⟨rfl, hb⟩; have n0_ := Aside0.mk (below_step HB.out hb); have n1_ := Aside0.mk (blk_below BK8004.out hb); clear HB BK8004 hcl_; have HB := n0_; have BK8004 := n1_; clear n0_ n1_ hb))
      go_ret2
      exact ⟨by first | rfl | (simp [*]; done), by repeat (first | (with_reducible first | exact HB.out | apply below_alloc | apply pw_below_drewN | apply below_drew1) | exact HB.out)⟩

/-! ### laws_FnExactNameFind: function 10 -/
def laws_FnExactNameFind.j0 : Nat → List (S23) → List (S26) → Bool → Option (Bool)
  | 0, _, _, _ => none
  | k + 1, x0, x8, x41 => if x41 = true then (some false) else ((laws_toNameS.f k x0).bind fun t185 => ((laws_eqNameS.f k x8 t185).bind fun t188 => (if t188 = true then (some true) else (some false))))
def laws_FnExactNameFind.f (k : Nat) (l0 : List (S23)) (a1 : ByteArray) : Option (Bool) := if (a1.size : Int) > 1048576 then (some true) else ((laws_szNameS.f k l0 1048576).bind fun t174 => (if t174 < 0 then (some true) else ((laws_toNameS.f k l0).bind fun t175 => ((spec_NameFind.f k t175 a1).bind fun bt178 => ((laws_toNameS.f k l0).bind fun t180 => ((impl_NameFind.f k t180 a1).bind fun bt183 => (if bt183.1 = bt178.1 then (laws_FnExactNameFind.j0 k l0 t180 (bt183.2 != bt178.2)) else (laws_FnExactNameFind.j0 k l0 t180 true))))))))
theorem laws_FnExactNameFind.mono_l : ∀ k, (∀ y0 y1 y2, LeO (laws_FnExactNameFind.j0 k y0 y1 y2) (laws_FnExactNameFind.j0 (k + 1) y0 y1 y2))
  | 0 => fun _ _ _ r h => by simp [laws_FnExactNameFind.j0] at h
  | k + 1 => by
    have ih0 := laws_FnExactNameFind.mono_l k
    · intro y0 y1 y2
      unfold laws_FnExactNameFind.j0
      repeat' first
      | (with_reducible exact ih0 _ _ _)
      | (with_reducible exact impl_NameFind.mono _ _ _)
      | (with_reducible exact laws_eqNameS.mono _ _ _)
      | (with_reducible exact laws_szNameS.mono _ _ _)
      | (with_reducible exact laws_toNameS.mono _ _)
      | (with_reducible exact spec_NameFind.mono _ _ _)
      | (with_reducible exact LeO.refl _)
      | (with_reducible exact LeO.none _)
      | (with_reducible refine LeO.ite ?_ ?_)
      | (with_reducible refine LeO.bind ?_ (fun _ => ?_))
      | exact ih0 _ _ _
      | exact impl_NameFind.mono _ _ _
      | exact laws_eqNameS.mono _ _ _
      | exact laws_szNameS.mono _ _ _
      | exact laws_toNameS.mono _ _
      | exact spec_NameFind.mono _ _ _
      | exact LeO.none _
      | refine LeO.ite ?_ ?_
      | refine LeO.bind ?_ (fun _ => ?_)
theorem laws_FnExactNameFind.mono : ∀ a0 a1 k, LeO (laws_FnExactNameFind.f k a0 a1) (laws_FnExactNameFind.f (k + 1) a0 a1) := by
  intro a0 a1 k
  have ih0 := laws_FnExactNameFind.mono_l k
  unfold laws_FnExactNameFind.f
  repeat' first
      | (with_reducible exact ih0 _ _ _)
      | (with_reducible exact impl_NameFind.mono _ _ _)
      | (with_reducible exact laws_eqNameS.mono _ _ _)
      | (with_reducible exact laws_szNameS.mono _ _ _)
      | (with_reducible exact laws_toNameS.mono _ _)
      | (with_reducible exact spec_NameFind.mono _ _ _)
      | (with_reducible exact LeO.refl _)
      | (with_reducible exact LeO.none _)
      | (with_reducible refine LeO.ite ?_ ?_)
      | (with_reducible refine LeO.bind ?_ (fun _ => ?_))
      | exact ih0 _ _ _
      | exact impl_NameFind.mono _ _ _
      | exact laws_eqNameS.mono _ _ _
      | exact laws_szNameS.mono _ _ _
      | exact laws_toNameS.mono _ _
      | exact spec_NameFind.mono _ _ _
      | exact LeO.none _
      | refine LeO.ite ?_ ?_
      | refine LeO.bind ?_ (fun _ => ?_)
set_option maxHeartbeats 8000000 in
set_option maxRecDepth 100000 in
theorem laws_FnExactNameFind.calls (k : Nat) (A0 : Option Addr) (c0 : Nat) (l0 : List (S23)) (a1 : ByteArray) (r : Bool) (w : World) (hr0 : Kd.C k23 w A0 l0.length l0) (hc0 : l0.length ≤ c0) (h : laws_FnExactNameFind.f k l0 a1 = some r) :
    Calls Try.prog 10 #[.slice A0 l0.length c0, .string a1] w fun e w' => e = .returned (.bool r) ∧ Below w.heap.size w w' := by
  have HR0 := Aside0.mk hr0
  have HC0 := Aside0.mk hc0
  clear hr0 hc0
  have HB := Aside0.mk (Below.refl w.heap.size w)
  have H : (if (a1.size : Int) > 1048576 then (some true) else ((laws_szNameS.f k l0 1048576).bind fun t174 => (if t174 < 0 then (some true) else ((laws_toNameS.f k l0).bind fun t175 => ((spec_NameFind.f k t175 a1).bind fun bt178 => ((laws_toNameS.f k l0).bind fun t180 => ((impl_NameFind.f k t180 a1).bind fun bt183 => (if bt183.1 = bt178.1 then (laws_FnExactNameFind.j0 k l0 t180 (bt183.2 != bt178.2)) else (laws_FnExactNameFind.j0 k l0 t180 true))))))))) = some r := h
  clear h
  by_cases c3 : (a1.size : Int) > 1048576
  · rw [if_pos c3] at H
    have c3b0 : decide (1048576 < (a1.size : Int)) = true := decide_eq_true c3
    have c3b1 : decide (1048576 < a1.size) = true := decide_eq_true (by omega)
    clear c3
    obtain rfl := Option.some.inj H
    go_enter Try.func10, Try.ntmps10
    go_wp2
    go_ret
    exact ⟨by first | rfl | (simp [errW_none, errW_some] <;> rfl) | (simp [*, errW_none, errW_some] <;> rfl), by repeat (first | (with_reducible first | exact HB.out | apply below_alloc | apply pw_below_drewN | apply below_drew1) | exact HB.out)⟩
  · rw [if_neg c3] at H
    have c3b0 : decide (1048576 < (a1.size : Int)) = false := decide_eq_false c3
    have c3b1 : decide (1048576 < a1.size) = false := decide_eq_false (by omega)
    clear c3
    replace H := Option.bind_eq_some_iff.mp H
    obtain ⟨t174, A40, H⟩ := H
    have A4 := Aside0.mk A40
    clear A40
    by_cases c5 : t174 < 0
    · rw [if_pos c5] at H
      have c5b0 : decide (t174 < 0) = true := decide_eq_true c5
      clear c5
      obtain rfl := Option.some.inj H
      go_enter Try.func10, Try.ntmps10
      go_wp2_with (first | ((with_reducible refine gate_callee (f := 24) rfl ?_); refine goesL_ (some 16) rfl rfl Try.func24 (by kernel_rfl) rfl #[.slice A0 l0.length c0, .int .i64 1048576] rfl (by (try simp only [List.map_toArray, List.map_cons, List.map_nil]); first | done | rfl | (simp only [List.length_drop, List.length_take]; rfl)) ?_; (with_reducible refine (laws_szNameS.calls k _ _ l0 1048576 t174 _ ?side1 ?side2 A4.out).mono ?_); (case side1 => repeat (first | exact HR0.out | (with_reducible refine Kd.C_alloc ?_ _) | (with_reducible refine Kd.C_drewN ?_ _) | (with_reducible refine Kd.C_drew ?_))); (case side2 => exact HC0.out); rintro e w6 ⟨rfl, hb⟩; refine ⟨_, rfl, ?_⟩; have n0_ := Aside0.mk (below_step (by repeat (first | (with_reducible first | exact HB.out | apply below_alloc | apply pw_below_drewN | apply below_drew1) | exact HB.out)) hb); clear HB; have HB := n0_; clear n0_; (try clear hb); (try clear hb2); (try clear hk); (try clear hi)))
      go_ret
      exact ⟨by first | rfl | (simp [errW_none, errW_some] <;> rfl) | (simp [*, errW_none, errW_some] <;> rfl), by repeat (first | (with_reducible first | exact HB.out | apply below_alloc | apply pw_below_drewN | apply below_drew1) | exact HB.out)⟩
    · rw [if_neg c5] at H
      have c5b0 : decide (t174 < 0) = false := decide_eq_false c5
      clear c5
      replace H := Option.bind_eq_some_iff.mp H
      obtain ⟨t175, A70, H⟩ := H
      have A7 := Aside0.mk A70
      clear A70
      replace H := Option.bind_eq_some_iff.mp H
      obtain ⟨⟨t178, t179⟩, A80, H⟩ := H
      replace H : ((laws_toNameS.f k l0).bind fun t180 => ((impl_NameFind.f k t180 a1).bind fun bt183 => (if bt183.1 = t178 then (laws_FnExactNameFind.j0 k l0 t180 (bt183.2 != t179)) else (laws_FnExactNameFind.j0 k l0 t180 true)))) = some r := H
      have A8 := Aside0.mk A80
      clear A80
      replace H := Option.bind_eq_some_iff.mp H
      obtain ⟨t180, A90, H⟩ := H
      have A9 := Aside0.mk A90
      clear A90
      replace H := Option.bind_eq_some_iff.mp H
      obtain ⟨⟨t183, t184⟩, A100, H⟩ := H
      replace H : (if t183 = t178 then (laws_FnExactNameFind.j0 k l0 t180 (t184 != t179)) else (laws_FnExactNameFind.j0 k l0 t180 true)) = some r := H
      have A10 := Aside0.mk A100
      clear A100
      have HC11 := Aside0.mk H
      clear H
      go_enter Try.func10, Try.ntmps10
      go_upto_region 10 with (first | ((with_reducible refine gate_callee (f := 24) rfl ?_); refine goesL_ (some 16) rfl rfl Try.func24 (by kernel_rfl) rfl #[.slice A0 l0.length c0, .int .i64 1048576] rfl (by (try simp only [List.map_toArray, List.map_cons, List.map_nil]); first | done | rfl | (simp only [List.length_drop, List.length_take]; rfl)) ?_; (with_reducible refine (laws_szNameS.calls k _ _ l0 1048576 t174 _ ?side1 ?side2 A4.out).mono ?_); (case side1 => repeat (first | exact HR0.out | (with_reducible refine Kd.C_alloc ?_ _) | (with_reducible refine Kd.C_drewN ?_ _) | (with_reducible refine Kd.C_drew ?_))); (case side2 => exact HC0.out); rintro e w12 ⟨rfl, hb⟩; refine ⟨_, rfl, ?_⟩; have n0_ := Aside0.mk (below_step (by repeat (first | (with_reducible first | exact HB.out | apply below_alloc | apply pw_below_drewN | apply below_drew1) | exact HB.out)) hb); clear HB; have HB := n0_; clear n0_; (try clear hb); (try clear hb2); (try clear hk); (try clear hi)) | ((with_reducible refine gate_callee (f := 26) rfl ?_); refine goesL_ (some 21) rfl rfl Try.func26 (by kernel_rfl) rfl #[.slice A0 l0.length c0] rfl (by (try simp only [List.map_toArray, List.map_cons, List.map_nil]); first | done | rfl | (simp only [List.length_drop, List.length_take]; rfl)) ?_; (with_reducible refine (laws_toNameS.calls k _ _ l0 t175 _ ?side1 ?side2 A7.out).mono ?_); (case side1 => repeat (first | exact (Kd.C_below HR0.out HB.out) | (with_reducible refine Kd.C_alloc ?_ _) | (with_reducible refine Kd.C_drewN ?_ _) | (with_reducible refine Kd.C_drew ?_))); (case side2 => exact HC0.out); rintro e w13 ⟨v176, rfl, ho0, hb⟩; refine ⟨_, rfl, ?_⟩; have n0_ := Aside0.mk (Kd.R_lower ho0 (below_size (by repeat (first | (with_reducible first | exact HB.out | apply below_alloc | apply pw_below_drewN | apply below_drew1) | exact HB.out)))); have n1_ := Aside0.mk (below_step (by repeat (first | (with_reducible first | exact HB.out | apply below_alloc | apply pw_below_drewN | apply below_drew1) | exact HB.out)) hb); clear HB; have HO177 := n0_; have HB := n1_; clear n0_ n1_; (try clear hb); (try clear hb2); (try clear hk); (try clear hi); (try clear ho0); obtain ⟨Ao14, co14, eo14⟩ := Kd.R_slice HO177.out; subst eo14) | ((with_reducible refine gate_callee (f := 39) rfl ?_); refine goesL_ (some 23) rfl rfl Try.func39 (by kernel_rfl) rfl #[.slice Ao14 t175.length co14, .string a1] rfl (by (try simp only [List.map_toArray, List.map_cons, List.map_nil]); first | done | rfl | (simp only [List.length_drop, List.length_take]; rfl)) ?_; (with_reducible refine (spec_NameFind.calls k _ _ t175 a1 t178 t179 _ ?side1 ?side2 A8.out).mono ?_); (case side1 => repeat (first | exact (Kd.R_reads' HO177.out).2.2 | (with_reducible refine Kd.C_alloc ?_ _) | (with_reducible refine Kd.C_drewN ?_ _) | (with_reducible refine Kd.C_drew ?_))); (case side2 => exact (Kd.R_reads' HO177.out).2.1); rintro e w15 ⟨rfl, hb⟩; refine ⟨_, rfl, ?_⟩; have n0_ := Aside0.mk (Kd.R_below (by (with_reducible repeat (first | apply Kd.R_alloc | apply Kd.R_drewN | apply Kd.R_drew)); exact HO177.out) hb); have n1_ := Aside0.mk (below_step (by repeat (first | (with_reducible first | exact HB.out | apply below_alloc | apply pw_below_drewN | apply below_drew1) | exact HB.out)) hb); clear HO177; clear HB; have HO177 := n0_; have HB := n1_; clear n0_ n1_; (try clear hb); (try clear hb2); (try clear hk); (try clear hi)) | ((with_reducible refine gate_callee (f := 26) rfl ?_); refine goesL_ (some 27) rfl rfl Try.func26 (by kernel_rfl) rfl #[.slice A0 l0.length c0] rfl (by (try simp only [List.map_toArray, List.map_cons, List.map_nil]); first | done | rfl | (simp only [List.length_drop, List.length_take]; rfl)) ?_; (with_reducible refine (laws_toNameS.calls k _ _ l0 t180 _ ?side1 ?side2 A9.out).mono ?_); (case side1 => repeat (first | exact (Kd.C_below HR0.out HB.out) | (with_reducible refine Kd.C_alloc ?_ _) | (with_reducible refine Kd.C_drewN ?_ _) | (with_reducible refine Kd.C_drew ?_))); (case side2 => exact HC0.out); rintro e w16 ⟨v181, rfl, ho0, hb⟩; refine ⟨_, rfl, ?_⟩; have n0_ := Aside0.mk (Kd.R_elder' (by (with_reducible repeat (first | apply Kd.R_alloc | apply Kd.R_drewN | apply Kd.R_drew)); exact HO177.out) (Kd.R_base ho0) hb); have n1_ := Aside0.mk (Kd.R_lower (Kd.R_new' ho0 (Kd.R_lt (by (with_reducible repeat (first | apply Kd.R_alloc | apply Kd.R_drewN | apply Kd.R_drew)); exact HO177.out))) (below_size (by repeat (first | (with_reducible first | exact HB.out | apply below_alloc | apply pw_below_drewN | apply below_drew1) | exact HB.out)))); have n2_ := Aside0.mk (below_step (by repeat (first | (with_reducible first | exact HB.out | apply below_alloc | apply pw_below_drewN | apply below_drew1) | exact HB.out)) hb); clear HO177; clear HB; have HO177 := n0_; have HO182 := n1_; have HB := n2_; clear n0_ n1_ n2_; (try clear hb); (try clear hb2); (try clear hk); (try clear hi); (try clear ho0); obtain ⟨Ao17, co17, eo17⟩ := Kd.R_slice HO182.out; subst eo17) | ((with_reducible refine gate_callee (f := 40) rfl ?_); refine goesL_ (some 31) rfl rfl Try.func40 (by kernel_rfl) rfl #[.slice Ao17 t180.length co17, .string a1] rfl (by (try simp only [List.map_toArray, List.map_cons, List.map_nil]); first | done | rfl | (simp only [List.length_drop, List.length_take]; rfl)) ?_; (with_reducible refine (impl_NameFind.calls k _ _ t180 a1 t183 t184 _ ?side1 ?side2 A10.out).mono ?_); (case side1 => repeat (first | exact (Kd.R_reads' HO182.out).2.2 | (with_reducible refine Kd.C_alloc ?_ _) | (with_reducible refine Kd.C_drewN ?_ _) | (with_reducible refine Kd.C_drew ?_))); (case side2 => exact (Kd.R_reads' HO182.out).2.1); rintro e w18 ⟨rfl, hb⟩; refine ⟨_, rfl, ?_⟩; have n0_ := Aside0.mk (Kd.R_below (by (with_reducible repeat (first | apply Kd.R_alloc | apply Kd.R_drewN | apply Kd.R_drew)); exact HO177.out) hb); have n1_ := Aside0.mk (Kd.R_below (by (with_reducible repeat (first | apply Kd.R_alloc | apply Kd.R_drewN | apply Kd.R_drew)); exact HO182.out) hb); have n2_ := Aside0.mk (below_step (by repeat (first | (with_reducible first | exact HB.out | apply below_alloc | apply pw_below_drewN | apply below_drew1) | exact HB.out)) hb); clear HO177; clear HO182; clear HB; have HO177 := n0_; have HO182 := n1_; have HB := n2_; clear n0_ n1_ n2_; (try clear hb); (try clear hb2); (try clear hk); (try clear hi)))
      (try simp only [Act.put, List.setIfInBounds_toArray, List.set_cons_zero, List.set_cons_succ])
      go_cut [41] (fun v41 wc => ∃ (kq : Nat) (x41_10 : Bool), v41 = .bool x41_10 ∧ Aside0 (laws_FnExactNameFind.j0 kq l0 t180 x41_10 = some r) ∧ Aside0 (kq ≤ k) ∧ Aside0 (Kd.R k26 26 wc w.heap.size (fun _ => True) (.slice Ao17 t180.length co17) t180) ∧ Aside0 (Below w.heap.size w wc))
      case first =>
        have H := HC11.out
        clear HC11
        by_cases c19 : t183 = t178
        · rw [if_pos c19] at H
          have c19b0 : (t183 == t178) = true := beq_iff_eq.mpr c19
          have c19b1 : (t183 != t178) = false := bne_eq_false_iff_eq.mpr c19
          clear c19
          (first | rw [c19b0] | (simp only [i64_w, i32_w]; rw [c19b0]) | skip)
          have H' := Aside0.mk H
          clear H
          go_wp2
          go_meet
          case rel => exact ⟨_, ((t184 != t179)), (by first | rfl | (simp; done) | (simp [*]; done)), H', ⟨by first | omega | exact Nat.le_refl _⟩, ⟨by (with_reducible repeat (first | apply Kd.R_alloc | apply Kd.R_drewN | apply Kd.R_drew)); exact Kd.R_mono HO182.out (fun _ hk => trivial)⟩, ⟨by repeat (first | (with_reducible first | exact HB.out | apply below_alloc | apply pw_below_drewN | apply below_drew1) | exact HB.out)⟩⟩
        · rw [if_neg c19] at H
          have c19b0 : (t183 == t178) = false := beq_eq_false_iff_ne.mpr c19
          have c19b1 : (t183 != t178) = true := bne_iff_ne.mpr c19
          (first | rw [c19b0] | (simp only [i64_w, i32_w]; rw [c19b0]) | skip)
          have H' := Aside0.mk H
          clear H
          go_wp2
          go_meet
          case rel => exact ⟨_, (true), (by first | rfl | (simp; done) | (simp [*]; done)), H', ⟨by first | omega | exact Nat.le_refl _⟩, ⟨by (with_reducible repeat (first | apply Kd.R_alloc | apply Kd.R_drewN | apply Kd.R_drew)); exact Kd.R_mono HO182.out (fun _ hk => trivial)⟩, ⟨by repeat (first | (with_reducible first | exact HB.out | apply below_alloc | apply pw_below_drewN | apply below_drew1) | exact HB.out)⟩⟩
      case rest =>
        clear HC11
        try clear c1
        try clear c2
        try clear p2
        try clear c3
        try clear c3b0
        try clear c3b1
        try clear c4
        try clear c5
        try clear c5b0
        try clear c10
        try clear c19
        try clear c19b0
        try clear c19b1
        obtain ⟨kq, x41_10, rfl, HA, HJ10, HO_8, HB⟩ := hcut
        cases kq with
        | zero => exact absurd HA.out (by simp [laws_FnExactNameFind.j0])
        | succ kj10 =>
          have H := HA.out
          clear HA
          simp only [laws_FnExactNameFind.j0] at H
          by_cases c20 : x41_10 = true
          · subst c20
            rw [if_pos rfl] at H
            obtain rfl := Option.some.inj H
            go_wp2
            go_ret
            exact ⟨by first | rfl | (simp [errW_none, errW_some] <;> rfl) | (simp [*, errW_none, errW_some] <;> rfl), by repeat (first | (with_reducible first | exact HB.out | apply below_alloc | apply pw_below_drewN | apply below_drew1) | exact HB.out)⟩
          · replace c20 := Bool.eq_false_iff.mpr c20
            subst c20
            rw [if_neg (show ¬ (false = true) by decide)] at H
            replace H := Option.bind_eq_some_iff.mp H
            obtain ⟨t185, A210, H⟩ := H
            have A21 := Aside0.mk A210
            clear A210
            replace H := Option.bind_eq_some_iff.mp H
            obtain ⟨t188, A220, H⟩ := H
            have A22 := Aside0.mk A220
            clear A220
            by_cases c23 : t188 = true
            · subst c23
              rw [if_pos rfl] at H
              obtain rfl := Option.some.inj H
              go_wp2_with (first | ((with_reducible refine gate_callee (f := 26) rfl ?_); refine goesL_ (some 44) rfl rfl Try.func26 (by kernel_rfl) rfl #[.slice A0 l0.length c0] rfl (by (try simp only [List.map_toArray, List.map_cons, List.map_nil]); first | done | rfl | (simp only [List.length_drop, List.length_take]; rfl)) ?_; (with_reducible refine (laws_toNameS.calls kj10 _ _ l0 t185 _ ?side1 ?side2 A21.out).mono ?_); (case side1 => repeat (first | exact (Kd.C_below HR0.out HB.out) | (with_reducible refine Kd.C_alloc ?_ _) | (with_reducible refine Kd.C_drewN ?_ _) | (with_reducible refine Kd.C_drew ?_))); (case side2 => exact HC0.out); rintro e w24 ⟨v186, rfl, ho0, hb⟩; refine ⟨_, rfl, ?_⟩; have n0_ := Aside0.mk (Kd.R_elder' (by (with_reducible repeat (first | apply Kd.R_alloc | apply Kd.R_drewN | apply Kd.R_drew)); exact HO_8.out) (Kd.R_base ho0) hb); have n1_ := Aside0.mk (Kd.R_lower (Kd.R_new' ho0 (Kd.R_lt (by (with_reducible repeat (first | apply Kd.R_alloc | apply Kd.R_drewN | apply Kd.R_drew)); exact HO_8.out))) (below_size (by repeat (first | (with_reducible first | exact HB.out | apply below_alloc | apply pw_below_drewN | apply below_drew1) | exact HB.out)))); have n2_ := Aside0.mk (below_step (by repeat (first | (with_reducible first | exact HB.out | apply below_alloc | apply pw_below_drewN | apply below_drew1) | exact HB.out)) hb); clear HO_8; clear HB; have HO_8 := n0_; have HO187 := n1_; have HB := n2_; clear n0_ n1_ n2_; (try clear hb); (try clear hb2); (try clear hk); (try clear hi); (try clear ho0); obtain ⟨Ao25, co25, eo25⟩ := Kd.R_slice HO187.out; subst eo25) | ((with_reducible refine gate_callee (f := 28) rfl ?_); refine goesL_ (some 45) rfl rfl Try.func28 (by kernel_rfl) rfl #[.slice Ao17 t180.length co17, .slice Ao25 t185.length co25] rfl (by (try simp only [List.map_toArray, List.map_cons, List.map_nil]); first | done | rfl | (simp only [List.length_drop, List.length_take]; rfl)) ?_; (with_reducible refine (laws_eqNameS.calls kj10 _ _ t180 _ _ t185 true _ ?side1 ?side2 ?side3 ?side4 A22.out).mono ?_); (case side1 => repeat (first | exact (Kd.R_reads' HO_8.out).2.2 | (with_reducible refine Kd.C_alloc ?_ _) | (with_reducible refine Kd.C_drewN ?_ _) | (with_reducible refine Kd.C_drew ?_))); (case side2 => exact (Kd.R_reads' HO_8.out).2.1); (case side3 => repeat (first | exact (Kd.R_reads' HO187.out).2.2 | (with_reducible refine Kd.C_alloc ?_ _) | (with_reducible refine Kd.C_drewN ?_ _) | (with_reducible refine Kd.C_drew ?_))); (case side4 => exact (Kd.R_reads' HO187.out).2.1); rintro e w26 ⟨rfl, hb⟩; refine ⟨_, rfl, ?_⟩; have n0_ := Aside0.mk (Kd.R_below (by (with_reducible repeat (first | apply Kd.R_alloc | apply Kd.R_drewN | apply Kd.R_drew)); exact HO_8.out) hb); have n1_ := Aside0.mk (Kd.R_below (by (with_reducible repeat (first | apply Kd.R_alloc | apply Kd.R_drewN | apply Kd.R_drew)); exact HO187.out) hb); have n2_ := Aside0.mk (below_step (by repeat (first | (with_reducible first | exact HB.out | apply below_alloc | apply pw_below_drewN | apply below_drew1) | exact HB.out)) hb); clear HO_8; clear HO187; clear HB; have HO_8 := n0_; have HO187 := n1_; have HB := n2_; clear n0_ n1_ n2_; (try clear hb); (try clear hb2); (try clear hk); (try clear hi)))
              go_ret
              exact ⟨by first | rfl | (simp [errW_none, errW_some] <;> rfl) | (simp [*, errW_none, errW_some] <;> rfl), by repeat (first | (with_reducible first | exact HB.out | apply below_alloc | apply pw_below_drewN | apply below_drew1) | exact HB.out)⟩
            · replace c23 := Bool.eq_false_iff.mpr c23
              subst c23
              rw [if_neg (show ¬ (false = true) by decide)] at H
              obtain rfl := Option.some.inj H
              go_wp2_with (first | ((with_reducible refine gate_callee (f := 26) rfl ?_); refine goesL_ (some 44) rfl rfl Try.func26 (by kernel_rfl) rfl #[.slice A0 l0.length c0] rfl (by (try simp only [List.map_toArray, List.map_cons, List.map_nil]); first | done | rfl | (simp only [List.length_drop, List.length_take]; rfl)) ?_; (with_reducible refine (laws_toNameS.calls kj10 _ _ l0 t185 _ ?side1 ?side2 A21.out).mono ?_); (case side1 => repeat (first | exact (Kd.C_below HR0.out HB.out) | (with_reducible refine Kd.C_alloc ?_ _) | (with_reducible refine Kd.C_drewN ?_ _) | (with_reducible refine Kd.C_drew ?_))); (case side2 => exact HC0.out); rintro e w27 ⟨v186, rfl, ho0, hb⟩; refine ⟨_, rfl, ?_⟩; have n0_ := Aside0.mk (Kd.R_elder' (by (with_reducible repeat (first | apply Kd.R_alloc | apply Kd.R_drewN | apply Kd.R_drew)); exact HO_8.out) (Kd.R_base ho0) hb); have n1_ := Aside0.mk (Kd.R_lower (Kd.R_new' ho0 (Kd.R_lt (by (with_reducible repeat (first | apply Kd.R_alloc | apply Kd.R_drewN | apply Kd.R_drew)); exact HO_8.out))) (below_size (by repeat (first | (with_reducible first | exact HB.out | apply below_alloc | apply pw_below_drewN | apply below_drew1) | exact HB.out)))); have n2_ := Aside0.mk (below_step (by repeat (first | (with_reducible first | exact HB.out | apply below_alloc | apply pw_below_drewN | apply below_drew1) | exact HB.out)) hb); clear HO_8; clear HB; have HO_8 := n0_; have HO187 := n1_; have HB := n2_; clear n0_ n1_ n2_; (try clear hb); (try clear hb2); (try clear hk); (try clear hi); (try clear ho0); obtain ⟨Ao28, co28, eo28⟩ := Kd.R_slice HO187.out; subst eo28) | ((with_reducible refine gate_callee (f := 28) rfl ?_); refine goesL_ (some 45) rfl rfl Try.func28 (by kernel_rfl) rfl #[.slice Ao17 t180.length co17, .slice Ao28 t185.length co28] rfl (by (try simp only [List.map_toArray, List.map_cons, List.map_nil]); first | done | rfl | (simp only [List.length_drop, List.length_take]; rfl)) ?_; (with_reducible refine (laws_eqNameS.calls kj10 _ _ t180 _ _ t185 false _ ?side1 ?side2 ?side3 ?side4 A22.out).mono ?_); (case side1 => repeat (first | exact (Kd.R_reads' HO_8.out).2.2 | (with_reducible refine Kd.C_alloc ?_ _) | (with_reducible refine Kd.C_drewN ?_ _) | (with_reducible refine Kd.C_drew ?_))); (case side2 => exact (Kd.R_reads' HO_8.out).2.1); (case side3 => repeat (first | exact (Kd.R_reads' HO187.out).2.2 | (with_reducible refine Kd.C_alloc ?_ _) | (with_reducible refine Kd.C_drewN ?_ _) | (with_reducible refine Kd.C_drew ?_))); (case side4 => exact (Kd.R_reads' HO187.out).2.1); rintro e w29 ⟨rfl, hb⟩; refine ⟨_, rfl, ?_⟩; have n0_ := Aside0.mk (Kd.R_below (by (with_reducible repeat (first | apply Kd.R_alloc | apply Kd.R_drewN | apply Kd.R_drew)); exact HO_8.out) hb); have n1_ := Aside0.mk (Kd.R_below (by (with_reducible repeat (first | apply Kd.R_alloc | apply Kd.R_drewN | apply Kd.R_drew)); exact HO187.out) hb); have n2_ := Aside0.mk (below_step (by repeat (first | (with_reducible first | exact HB.out | apply below_alloc | apply pw_below_drewN | apply below_drew1) | exact HB.out)) hb); clear HO_8; clear HO187; clear HB; have HO_8 := n0_; have HO187 := n1_; have HB := n2_; clear n0_ n1_ n2_; (try clear hb); (try clear hb2); (try clear hk); (try clear hi)))
              go_ret
              exact ⟨by first | rfl | (simp [errW_none, errW_some] <;> rfl) | (simp [*, errW_none, errW_some] <;> rfl), by repeat (first | (with_reducible first | exact HB.out | apply below_alloc | apply pw_below_drewN | apply below_drew1) | exact HB.out)⟩

end Go.Proofs.Ytmgnmgobibpjjaa.GFnExactNameFind
