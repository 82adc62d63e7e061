/- What the Go functions that FnNameFind reaches come to, walked step by step; there is no condition beyond those each statement names. -/
import Derived.Test.YtmgnmgobibpjjaaGFnNameFindx0
import Derived.Test.YtmgnmgobibpjjaaGFnNameFindx1
import Derived.Test.YtmgnmgobibpjjaaGFnNameFindx2
namespace Go.Proofs.Ytmgnmgobibpjjaa.GFnNameFind
open Go.RowKit Go.Proofs.YtmgnmgobibpjjaaU.PrintWords Go.Proofs.YtmgnmgobibpjjaaU.PrintLast Go.Proofs.YtmgnmgobibpjjaaU.PrintMore
attribute [local go_sem] max2_int min2_int max_two min_two max_three min_three max_four min_four   -- for this text's walks alone
set_option linter.unusedVariables false
set_option linter.unusedSimpArgs false

-- NOT PRINTED: function 80 (impl_Name)

/-! ### impl_ask: function 63 -/
def impl_ask.l0 : Nat → List (S26) → ByteArray → Int → Option (ByteArray × Int × Int × ByteArray × Int)
  | 0, _, _, _ => none
  | k + 1, x0, x1, x5 => if x5 < (x0.length : Int) then (if 0 ≤ x5 then (if ((rd_T26 x0 x5).f0).toList = x1.toList then (some ((rd_T26 x0 x5).f0, (rd_T26 x0 x5).f1, (rd_T26 x0 x5).f2, (rd_T26 x0 x5).f3, (rd_T26 x0 x5).f4)) else (impl_ask.l0 k x0 x1 (wrap64 (x5 + 1)))) else (none)) else (some (x1, 0, 0, (⟨#[]⟩ : ByteArray), 5))
def impl_ask.f (k : Nat) (l0 : List (S26)) (a1 : ByteArray) : Option (ByteArray × Int × Int × ByteArray × Int) := impl_ask.l0 k l0 a1 0
theorem impl_ask.mono_l : ∀ k, (∀ y0 y1 y2, LeO (impl_ask.l0 k y0 y1 y2) (impl_ask.l0 (k + 1) y0 y1 y2))
  | 0 => fun _ _ _ r h => by simp [impl_ask.l0] at h
  | k + 1 => by
    have ih0 := impl_ask.mono_l k
    · intro y0 y1 y2
      unfold impl_ask.l0
      repeat' first
      | (with_reducible exact ih0 _ _ _)
      | (with_reducible exact LeO.refl _)
      | (with_reducible exact LeO.none _)
      | (with_reducible refine LeO.ite ?_ ?_)
      | (with_reducible refine LeO.bind ?_ (fun _ => ?_))
      | exact ih0 _ _ _
      | exact LeO.none _
      | refine LeO.ite ?_ ?_
      | refine LeO.bind ?_ (fun _ => ?_)
theorem impl_ask.mono : ∀ a0 a1 k, LeO (impl_ask.f k a0 a1) (impl_ask.f (k + 1) a0 a1) := by
  intro a0 a1 k
  have ih0 := impl_ask.mono_l k
  unfold impl_ask.f
  repeat' first
      | (with_reducible exact ih0 _ _ _)
      | (with_reducible exact LeO.refl _)
      | (with_reducible exact LeO.none _)
      | (with_reducible refine LeO.ite ?_ ?_)
      | (with_reducible refine LeO.bind ?_ (fun _ => ?_))
      | exact ih0 _ _ _
      | exact LeO.none _
      | refine LeO.ite ?_ ?_
      | refine LeO.bind ?_ (fun _ => ?_)
set_option maxHeartbeats 8000000 in
set_option maxRecDepth 100000 in
theorem lam_81.calls (B : Nat) (s : ByteArray) (x : S26) (w : World) (hc : w.cell? ⟨B, 0, none⟩ = some (.string s)) (hB : B < w.heap.size) :
    Calls Try.prog 81 #[.agg #[.string x.f0, .int .i64 x.f1, .int .i64 x.f2, .string x.f3, .int .i64 x.f4], .pointer (some ⟨B, 0, none⟩)] w fun e w' => e = .returned (.bool ((x).f0.toList == s.toList)) ∧ Below w.heap.size w w' := by
  have hne : B ≠ w.heap.size := by omega
  go_enter Try.func81, Try.ntmps81
  go_wp2
  all_goals (go_ret; exact ⟨by simp_all, (Below.refl _ w).alloc (Nat.le_refl _) _⟩)
/-- The first place of a text; -1 where it is not. -/
def At26 (l : List S26) (s : ByteArray) (r : Int) : Prop := (∃ j : Nat, j < l.length ∧ r = j ∧ ((rd_T26 l j).f0.toList == s.toList) = true ∧ ∀ i : Nat, i < j → ((rd_T26 l i).f0.toList == s.toList) = false) ∨ (r = -1 ∧ ∀ i : Nat, i < l.length → ((rd_T26 l i).f0.toList == s.toList) = false)
set_option maxHeartbeats 8000000 in
set_option maxRecDepth 100000 in
theorem idx_80.calls (B : Nat) (s : ByteArray) (A : Option Addr) (c : Nat) (l : List S26) (r : Int) (w : World) (hr : Kd.C k26 w A l.length l) (hc : w.cell? ⟨B, 0, none⟩ = some (.string s)) (hB : B < w.heap.size) (hf : At26 l s r) :
    Calls Try.prog 80 #[.slice A l.length c, .func (.func 81) #[] #[.pointer (some ⟨B, 0, none⟩)]] w fun e w' => e = .returned (.int .i64 r) ∧ Below w.heap.size w w' := by
  have HR := Aside0.mk hr
  have HM := Aside0.mk (Kd.C_max hr)
  have HC := Aside0.mk hc
  have HF := Aside0.mk hf
  have HL := Aside0.mk hB
  clear hr hc hf hB
  go_enter Try.func80, Try.ntmps80
  go_wp2
  go_loopg [5, 8] l.length (fun gg _ s8 wr => ∃ kk : Nat, s8 = .int .i64 kk ∧ kk ≤ l.length ∧ l.length - kk ≤ gg ∧ Aside0 (Below w.heap.size w wr) ∧ Aside0 (∀ j : Nat, j < kk → ((rd_T26 l j).f0.toList == s.toList) = false))
  case atStart => exact ⟨0, rfl, Nat.zero_le _, by omega, ⟨Below.refl _ w⟩, ⟨fun j hj => absurd hj (Nat.not_lt_zero _)⟩⟩
  case round =>
    obtain ⟨kk, rfl, hkk, hg, HB, HN⟩ := hrel
    by_cases hlt : kk < l.length
    · have c4b0 : decide ((kk : Int) < (l.length : Int)) = true := decide_eq_true (by omega)
      have p_ : 0 ≤ (kk : Int) := by omega
      have q_ : (kk : Int) < (l.length : Int) := by omega
      obtain ⟨ad_, e_, hx_0, hx_1, hx_2, hx_3, hx_4⟩ := at_T26 HR.out kk p_ q_
      cases e_
      simp only [Int.toNat_natCast] at hx_0 hx_1 hx_2 hx_3 hx_4
      replace hx_0 := (HB.out.cell (World.block_lt_of_cell? w _ hx_0)).trans hx_0
      replace hx_1 := (HB.out.cell (World.block_lt_of_cell? w _ hx_1)).trans hx_1
      replace hx_2 := (HB.out.cell (World.block_lt_of_cell? w _ hx_2)).trans hx_2
      replace hx_3 := (HB.out.cell (World.block_lt_of_cell? w _ hx_3)).trans hx_3
      replace hx_4 := (HB.out.cell (World.block_lt_of_cell? w _ hx_4)).trans hx_4
      have hcall := lam_81.calls B s (rd_T26 l kk) wr ((HB.out.cell HL.out).trans HC.out) (Nat.lt_of_lt_of_le HL.out HB.out.size)
      cases hq : ((rd_T26 l kk).f0.toList == s.toList) with
      | true =>
        rw [hq] at hcall
        have HQ := Aside0.mk hq
        clear hq
        go_wp2_with (go_at_call 81; refine hcall.mono ?_; rintro e w' ⟨rfl, hb'⟩)
        go_ret
        refine ⟨?_, below_then HB.out HB.out.size hb'⟩
        rcases HF.out with ⟨j, h1, rfl, h3, h4⟩ | ⟨rfl, h2⟩
        · have : j = kk := by
            rcases Nat.lt_trichotomy j kk with h | h | h
            · have := HN.out j h; rw [this] at h3; cases h3
            · exact h
            · have := h4 kk h; rw [HQ.out] at this; cases this
          subst this; rfl
        · have := h2 kk hlt; rw [HQ.out] at this; cases this
      | false =>
        rw [hq] at hcall
        have HQ := Aside0.mk hq
        clear hq
        go_wp2_with (go_at_call 81; refine hcall.mono ?_; rintro e w' ⟨rfl, hb'⟩)
        go_roundg (l.length - (kk + 1))
        case measure => omega
        case rel =>
          have hm := HM.out
          have ew : wrap64 ((kk : Int) + 1) = ((kk + 1 : Nat) : Int) := by unfold wrap64; omega
          refine ⟨kk + 1, (by rw [ew]), by omega, by omega, ⟨below_then HB.out HB.out.size hb'⟩, ⟨fun j hj => ?_⟩⟩
          by_cases e : j = kk
          · rw [e]; exact HQ.out
          · exact HN.out j (by omega)
    · have c4b0 : decide ((kk : Int) < (l.length : Int)) = false := decide_eq_false (by omega)
      have hk : kk = l.length := by omega
      go_wp2
      go_ret
      refine ⟨?_, HB.out⟩
      rcases HF.out with ⟨j, h1, rfl, h3, h4⟩ | ⟨rfl, h2⟩
      · have := HN.out j (by omega); rw [this] at h3; cases h3
      · rfl
theorem impl_ask_tells {l : List S26} {s : ByteArray} (hm : l.length ≤ 9223372036854775807) : ∀ (k i : Nat) (r : ByteArray × Int × Int × ByteArray × Int), i ≤ l.length → (∀ q : Nat, q < i → ((rd_T26 l q).f0.toList == s.toList) = false) → impl_ask.l0 k l s i = some r →
    (∃ j : Nat, j < l.length ∧ At26 l s j ∧ r = ((rd_T26 l j).f0, (rd_T26 l j).f1, (rd_T26 l j).f2, (rd_T26 l j).f3, (rd_T26 l j).f4)) ∨ (At26 l s (-1) ∧ r = (s, 0, 0, (⟨#[]⟩ : ByteArray), 5)) := by
  intro k
  induction k with
  | zero => intro i r _ _ h; simp [impl_ask.l0] at h
  | succ k ih =>
    intro i r hi hn h
    simp only [impl_ask.l0] at h
    by_cases c1 : (i : Int) < (l.length : Int)
    · rw [if_pos c1, if_pos (by omega)] at h
      by_cases c2 : (rd_T26 l i).f0.toList = s.toList
      · rw [if_pos c2] at h
        exact Or.inl ⟨i, by omega, Or.inl ⟨i, by omega, rfl, beq_iff_eq.mpr c2, hn⟩, (Option.some.inj h).symm⟩
      · rw [if_neg c2, show wrap64 ((i : Int) + 1) = ((i + 1 : Nat) : Int) by unfold wrap64; omega] at h
        refine ih (i + 1) r (by omega) (fun q hq => ?_) h
        by_cases e : q = i
        · subst e; exact beq_eq_false_iff_ne.mpr c2
        · exact hn q (by omega)
    · rw [if_neg c1] at h
      exact Or.inr ⟨Or.inr ⟨rfl, fun q hq => hn q (by omega)⟩, (Option.some.inj h).symm⟩
set_option maxHeartbeats 8000000 in
set_option maxRecDepth 100000 in
theorem impl_ask.calls (k : Nat) (A0 : Option Addr) (c0 : Nat) (l0 : List (S26)) (a1 : ByteArray) (r1 : ByteArray) (r2 : Int) (r3 : Int) (r4 : ByteArray) (r5 : Int) (w : World) (hr0 : Kd.C k26 w A0 l0.length l0) (hc0 : l0.length ≤ c0) (h : impl_ask.f k l0 a1 = some (r1, r2, r3, r4, r5)) :
    Calls Try.prog 63 #[.slice A0 l0.length c0, .string a1] w fun e w' => e = .returned (.agg #[.string r1, .int .i64 r2, .int .i64 r3, .string r4, .int .i64 r5]) ∧ Below w.heap.size w w' := by
  have hu_ := Try.underlying26
  have HR0 := Aside0.mk hr0
  have HB := Aside0.mk (Below.refl w.heap.size w)
  have HT := impl_ask_tells (Kd.C_max hr0) k 0 _ (Nat.zero_le _) (fun q hq => absurd hq (Nat.not_lt_zero _)) h
  clear hr0 hc0 h
  rcases HT with ⟨j, hj, hat, he⟩ | ⟨hat, he⟩
  · have HA := Aside0.mk hat
    clear hat
    simp only [Prod.mk.injEq] at he
    obtain ⟨rfl, rfl, rfl, rfl, rfl⟩ := he
    have p_ : 0 ≤ (j : Int) := by omega
    have q_ : (j : Int) < (l0.length : Int) := by omega
    obtain ⟨ad_, e_, hx_0, hx_1, hx_2, hx_3, hx_4⟩ := at_T26 HR0.out j p_ q_
    cases e_
    simp only [Int.toNat_natCast] at hx_0 hx_1 hx_2 hx_3 hx_4
    have HX0 := Aside0.mk hx_0
    clear hx_0
    have HX1 := Aside0.mk hx_1
    clear hx_1
    have HX2 := Aside0.mk hx_2
    clear hx_2
    have HX3 := Aside0.mk hx_3
    clear hx_3
    have HX4 := Aside0.mk hx_4
    clear hx_4
    replace p_ := eq_true p_
    replace q_ := eq_true q_
    have g0 : decide ((j : Int) ≥ 0) = true := decide_eq_true (by omega)
    go_enter Try.func63, Try.ntmps63
    go_upto_region 2 with (first | ((with_reducible refine gate_dst (N := 3) rfl ?_); refine box_event ?hg (N := 3) ?hd (cs := #[.string a1]) (t := 9) ?hr ?_; (case hd => rfl); (case hg => rfl); (case hr => first | (go_simp; done) | (go_simp; rfl)); intro gb8001 hg w8001 hbox hb; have n0_ := Aside0.mk (below_step HB.out hb); have n1_ := Aside0.mk hbox; clear HB; have HB := n0_; have BK8001 := n1_; clear n0_ n1_ hb hbox hg) | ((with_reducible refine gate_dst (N := 4) rfl ?_); refine box_event ?hg (N := 4) ?hd (cs := #[.string (⟨#[]⟩ : ByteArray), .int .i64 0, .int .i64 0, .string (⟨#[]⟩ : ByteArray), .int .i64 0]) (t := 26) ?hr ?_; (case hd => rfl); (case hg => rfl); (case hr => first | (go_simp; done) | (go_simp; rfl)); intro gb8002 hg w8002 hbox hb; have n0_ := Aside0.mk (below_step HB.out hb); have n1_ := Aside0.mk hbox; have k8001_ := Aside0.mk (blk_below BK8001.out hb); have n3_ := Aside0.mk ((by rw [hg]; exact below_size HB.out) : w.heap.size ≤ gb8002); clear HB BK8001; have HB := n0_; have BK8002 := n1_; have BK8001 := k8001_; have GE8002 := n3_; clear n0_ n1_ k8001_ n3_ hb hbox hg) | (go_at_call 80; (with_reducible refine (idx_80.calls gb8001 a1 _ c0 l0 j _ (Kd.C_below HR0.out HB.out) ((blk_cell BK8001.out 0).trans rfl) (blk_lt BK8001.out) HA.out).mono ?_); rintro e w9 ⟨rfl, hb⟩; have n0_ := Aside0.mk (below_step HB.out hb); have n1_ := Aside0.mk (blk_below BK8002.out hb); have n2_ := Aside0.mk (blk_below BK8001.out hb); clear HB BK8002 BK8001; have HB := n0_; have BK8002 := n1_; have BK8001 := n2_; clear n0_ n1_ n2_ hb))
    have hx_0 := pw_cell_below HB.out HX0.out
    have hx_1 := pw_cell_below HB.out HX1.out
    have hx_2 := pw_cell_below HB.out HX2.out
    have hx_3 := pw_cell_below HB.out HX3.out
    have hx_4 := pw_cell_below HB.out HX4.out
    have hcz_0 : w9.cell? ⟨gb8002, 0, none⟩ = some (.string (⟨#[]⟩ : ByteArray)) := (blk_cell BK8002.out 0).trans rfl
    have hcz_1 : w9.cell? ⟨gb8002, 1, none⟩ = some (.int .i64 0) := (blk_cell BK8002.out 1).trans rfl
    have hcz_2 : w9.cell? ⟨gb8002, 2, none⟩ = some (.int .i64 0) := (blk_cell BK8002.out 2).trans rfl
    have hcz_3 : w9.cell? ⟨gb8002, 3, none⟩ = some (.string (⟨#[]⟩ : ByteArray)) := (blk_cell BK8002.out 3).trans rfl
    have hcz_4 : w9.cell? ⟨gb8002, 4, none⟩ = some (.int .i64 0) := (blk_cell BK8002.out 4).trans rfl
    have hfz_0 := blk_frozen BK8002.out 0
    have hfz_1 := blk_frozen BK8002.out 1
    have hfz_2 := blk_frozen BK8002.out 2
    have hfz_3 := blk_frozen BK8002.out 3
    have hfz_4 := blk_frozen BK8002.out 4
    go_wp2
    refine bodyPost_ret (results_cell_row rfl _ _ gb8002 26 #[.string (rd_T26 l0 j).f0, .int .i64 (rd_T26 l0 j).f1, .int .i64 (rd_T26 l0 j).f2, .string (rd_T26 l0 j).f3, .int .i64 (rd_T26 l0 j).f4] (0, 0) _ rfl (by (with_reducible repeat (first | refine blk_drewN ?_ _ | refine blk_drew ?_ | refine blk_alloc ?_ _)); refine blk_put (cs := #[.string (rd_T26 l0 j).f0, .int .i64 (rd_T26 l0 j).f1, .int .i64 (rd_T26 l0 j).f2, .string (rd_T26 l0 j).f3, .int .i64 0]) ?_ 4 _ rfl; (with_reducible repeat (first | refine blk_drewN ?_ _ | refine blk_drew ?_ | refine blk_alloc ?_ _)); refine blk_put (cs := #[.string (rd_T26 l0 j).f0, .int .i64 (rd_T26 l0 j).f1, .int .i64 (rd_T26 l0 j).f2, .string (⟨#[]⟩ : ByteArray), .int .i64 0]) ?_ 3 _ rfl; (with_reducible repeat (first | refine blk_drewN ?_ _ | refine blk_drew ?_ | refine blk_alloc ?_ _)); refine blk_put (cs := #[.string (rd_T26 l0 j).f0, .int .i64 (rd_T26 l0 j).f1, .int .i64 0, .string (⟨#[]⟩ : ByteArray), .int .i64 0]) ?_ 2 _ rfl; (with_reducible repeat (first | refine blk_drewN ?_ _ | refine blk_drew ?_ | refine blk_alloc ?_ _)); refine blk_put (cs := #[.string (rd_T26 l0 j).f0, .int .i64 0, .int .i64 0, .string (⟨#[]⟩ : ByteArray), .int .i64 0]) ?_ 1 _ rfl; (with_reducible repeat (first | refine blk_drewN ?_ _ | refine blk_drew ?_ | refine blk_alloc ?_ _)); refine blk_put (cs := #[.string (⟨#[]⟩ : ByteArray), .int .i64 0, .int .i64 0, .string (⟨#[]⟩ : ByteArray), .int .i64 0]) ?_ 0 _ rfl; (with_reducible repeat (first | refine blk_drewN ?_ _ | refine blk_drew ?_ | refine blk_alloc ?_ _)); exact BK8002.out) Try.underlying26 rfl (by kernel_rfl)) rfl ?_
    exact ⟨by first | rfl | (simp [*]; done), by repeat (first | (with_reducible first | exact HB.out | apply below_alloc | apply pw_below_drewN | apply below_drew1 | refine below_set ?_ GE8002.out) | exact HB.out)⟩
  · have HA := Aside0.mk hat
    clear hat
    simp only [Prod.mk.injEq] at he
    obtain ⟨e1, rfl, rfl, rfl, rfl⟩ := he
    subst r1
    go_enter Try.func63, Try.ntmps63
    go_upto_region 2 with (first | ((with_reducible refine gate_dst (N := 3) rfl ?_); refine box_event ?hg (N := 3) ?hd (cs := #[.string a1]) (t := 9) ?hr ?_; (case hd => rfl); (case hg => rfl); (case hr => first | (go_simp; done) | (go_simp; rfl)); intro gb8001 hg w8001 hbox hb; have n0_ := Aside0.mk (below_step HB.out hb); have n1_ := Aside0.mk hbox; clear HB; have HB := n0_; have BK8001 := n1_; clear n0_ n1_ hb hbox hg) | ((with_reducible refine gate_dst (N := 4) rfl ?_); refine box_event ?hg (N := 4) ?hd (cs := #[.string (⟨#[]⟩ : ByteArray), .int .i64 0, .int .i64 0, .string (⟨#[]⟩ : ByteArray), .int .i64 0]) (t := 26) ?hr ?_; (case hd => rfl); (case hg => rfl); (case hr => first | (go_simp; done) | (go_simp; rfl)); intro gb8002 hg w8002 hbox hb; have n0_ := Aside0.mk (below_step HB.out hb); have n1_ := Aside0.mk hbox; have k8001_ := Aside0.mk (blk_below BK8001.out hb); have n3_ := Aside0.mk ((by rw [hg]; exact below_size HB.out) : w.heap.size ≤ gb8002); clear HB BK8001; have HB := n0_; have BK8002 := n1_; have BK8001 := k8001_; have GE8002 := n3_; clear n0_ n1_ k8001_ n3_ hb hbox hg) | (go_at_call 80; (with_reducible refine (idx_80.calls gb8001 a1 _ c0 l0 (-1) _ (Kd.C_below HR0.out HB.out) ((blk_cell BK8001.out 0).trans rfl) (blk_lt BK8001.out) HA.out).mono ?_); rintro e w9 ⟨rfl, hb⟩; have n0_ := Aside0.mk (below_step HB.out hb); have n1_ := Aside0.mk (blk_below BK8002.out hb); have n2_ := Aside0.mk (blk_below BK8001.out hb); clear HB BK8002 BK8001; have HB := n0_; have BK8002 := n1_; have BK8001 := n2_; clear n0_ n1_ n2_ hb))
    have hcz_0 : w9.cell? ⟨gb8002, 0, none⟩ = some (.string (⟨#[]⟩ : ByteArray)) := (blk_cell BK8002.out 0).trans rfl
    have hcz_1 : w9.cell? ⟨gb8002, 1, none⟩ = some (.int .i64 0) := (blk_cell BK8002.out 1).trans rfl
    have hcz_2 : w9.cell? ⟨gb8002, 2, none⟩ = some (.int .i64 0) := (blk_cell BK8002.out 2).trans rfl
    have hcz_3 : w9.cell? ⟨gb8002, 3, none⟩ = some (.string (⟨#[]⟩ : ByteArray)) := (blk_cell BK8002.out 3).trans rfl
    have hcz_4 : w9.cell? ⟨gb8002, 4, none⟩ = some (.int .i64 0) := (blk_cell BK8002.out 4).trans rfl
    have hfz_0 := blk_frozen BK8002.out 0
    have hfz_1 := blk_frozen BK8002.out 1
    have hfz_2 := blk_frozen BK8002.out 2
    have hfz_3 := blk_frozen BK8002.out 3
    have hfz_4 := blk_frozen BK8002.out 4
    have hcs_0 : w9.cell? ⟨gb8001, 0, none⟩ = some (.string a1) := (blk_cell BK8001.out 0).trans rfl
    go_wp2
    refine bodyPost_ret (results_cell_row rfl _ _ gb8002 26 #[.string a1, .int .i64 0, .int .i64 0, .string (⟨#[]⟩ : ByteArray), .int .i64 5] (0, 0) _ rfl (by (with_reducible repeat (first | refine blk_drewN ?_ _ | refine blk_drew ?_ | refine blk_alloc ?_ _)); refine blk_put (cs := #[.string a1, .int .i64 0, .int .i64 0, .string (⟨#[]⟩ : ByteArray), .int .i64 0]) ?_ 4 _ rfl; (with_reducible repeat (first | refine blk_drewN ?_ _ | refine blk_drew ?_ | refine blk_alloc ?_ _)); refine blk_put (cs := #[.string a1, .int .i64 0, .int .i64 0, .string (⟨#[]⟩ : ByteArray), .int .i64 0]) ?_ 3 _ rfl; (with_reducible repeat (first | refine blk_drewN ?_ _ | refine blk_drew ?_ | refine blk_alloc ?_ _)); refine blk_put (cs := #[.string a1, .int .i64 0, .int .i64 0, .string (⟨#[]⟩ : ByteArray), .int .i64 0]) ?_ 2 _ rfl; (with_reducible repeat (first | refine blk_drewN ?_ _ | refine blk_drew ?_ | refine blk_alloc ?_ _)); refine blk_put (cs := #[.string a1, .int .i64 0, .int .i64 0, .string (⟨#[]⟩ : ByteArray), .int .i64 0]) ?_ 1 _ rfl; (with_reducible repeat (first | refine blk_drewN ?_ _ | refine blk_drew ?_ | refine blk_alloc ?_ _)); refine blk_put (cs := #[.string (⟨#[]⟩ : ByteArray), .int .i64 0, .int .i64 0, .string (⟨#[]⟩ : ByteArray), .int .i64 0]) ?_ 0 _ rfl; (with_reducible repeat (first | refine blk_drewN ?_ _ | refine blk_drew ?_ | refine blk_alloc ?_ _)); exact BK8002.out) Try.underlying26 rfl (by kernel_rfl)) rfl ?_
    exact ⟨by first | rfl | (simp [*]; done), by repeat (first | (with_reducible first | exact HB.out | apply below_alloc | apply pw_below_drewN | apply below_drew1 | refine below_set ?_ GE8002.out) | exact HB.out)⟩

/-! ### impl_NameAsk: function 31 -/
def impl_NameAsk.f (k : Nat) (l0 : List (S26)) (a1 : ByteArray) : Option (ByteArray × Int × Int × ByteArray × Int × Bool) := (impl_NamesOk.f k l0).bind fun t138 => (if t138 = true then ((impl_textOk.f k a1).bind fun t139 => (if t139 = true then ((impl_ask.f k l0 a1).bind fun bt140 => (some (bt140.1, bt140.2.1, bt140.2.2.1, bt140.2.2.2.1, bt140.2.2.2.2, true))) else (some ((⟨#[]⟩ : ByteArray), 0, 0, (⟨#[]⟩ : ByteArray), 0, false)))) else (some ((⟨#[]⟩ : ByteArray), 0, 0, (⟨#[]⟩ : ByteArray), 0, false)))
theorem impl_NameAsk.mono : ∀ a0 a1 k, LeO (impl_NameAsk.f k a0 a1) (impl_NameAsk.f (k + 1) a0 a1) := by
  intro a0 a1 k
  unfold impl_NameAsk.f
  repeat' first
      | (with_reducible exact impl_NamesOk.mono _ _)
      | (with_reducible exact impl_ask.mono _ _ _)
      | (with_reducible exact impl_textOk.mono _ _)
      | (with_reducible exact LeO.refl _)
      | (with_reducible exact LeO.none _)
      | (with_reducible refine LeO.ite ?_ ?_)
      | (with_reducible refine LeO.bind ?_ (fun _ => ?_))
      | exact impl_NamesOk.mono _ _
      | exact impl_ask.mono _ _ _
      | exact impl_textOk.mono _ _
      | exact LeO.none _
      | refine LeO.ite ?_ ?_
      | refine LeO.bind ?_ (fun _ => ?_)
set_option maxHeartbeats 8000000 in
set_option maxRecDepth 100000 in
theorem impl_NameAsk.calls (k : Nat) (A0 : Option Addr) (c0 : Nat) (l0 : List (S26)) (a1 : ByteArray) (r1 : ByteArray) (r2 : Int) (r3 : Int) (r4 : ByteArray) (r5 : Int) (r6 : Bool) (w : World) (hr0 : Kd.C k26 w A0 l0.length l0) (hc0 : l0.length ≤ c0) (h : impl_NameAsk.f k l0 a1 = some (r1, r2, r3, r4, r5, r6)) :
    Calls Try.prog 31 #[.slice A0 l0.length c0, .string a1] w fun e w' => e = .returned (.tuple #[.agg #[.string r1, .int .i64 r2, .int .i64 r3, .string r4, .int .i64 r5], .bool r6]) ∧ Below w.heap.size w w' := by
  have hu26 := Try.underlying26
  have HR0 := Aside0.mk hr0
  have HC0 := Aside0.mk hc0
  clear hr0 hc0
  have HB := Aside0.mk (Below.refl w.heap.size w)
  have H : ((impl_NamesOk.f k l0).bind fun t138 => (if t138 = true then ((impl_textOk.f k a1).bind fun t139 => (if t139 = true then ((impl_ask.f k l0 a1).bind fun bt140 => (some (bt140.1, bt140.2.1, bt140.2.2.1, bt140.2.2.2.1, bt140.2.2.2.2, true))) else (some ((⟨#[]⟩ : ByteArray), 0, 0, (⟨#[]⟩ : ByteArray), 0, false)))) else (some ((⟨#[]⟩ : ByteArray), 0, 0, (⟨#[]⟩ : ByteArray), 0, false)))) = some (r1, r2, r3, r4, r5, r6) := h
  clear h
  replace H := Option.bind_eq_some_iff.mp H
  obtain ⟨t138, A30, H⟩ := H
  have A3 := Aside0.mk A30
  clear A30
  by_cases c4 : t138 = true
  · subst c4
    rw [if_pos rfl] at H
    replace H := Option.bind_eq_some_iff.mp H
    obtain ⟨t139, A50, H⟩ := H
    have A5 := Aside0.mk A50
    clear A50
    by_cases c6 : t139 = true
    · subst c6
      rw [if_pos rfl] at H
      replace H := Option.bind_eq_some_iff.mp H
      obtain ⟨⟨t140, t141, t142, t143, t144⟩, A70, H⟩ := H
      replace H : (some (t140, t141, t142, t143, t144, true)) = some (r1, r2, r3, r4, r5, r6) := H
      have A7 := Aside0.mk A70
      clear A70
      simp only [Option.some.injEq, Prod.mk.injEq] at H
      obtain ⟨rfl, rfl, rfl, rfl, rfl, rfl⟩ := H
      go_enter Try.func31, Try.ntmps31
      go_wp2_with (first | ((with_reducible refine gate_dst (N := 4) rfl ?_); refine box_event ?hg (N := 4) ?hd (cs := #[.string (⟨#[]⟩ : ByteArray), .int .i64 0, .int .i64 0, .string (⟨#[]⟩ : ByteArray), .int .i64 0]) (t := 26) ?hr ?_; (case hd => rfl); (case hg => rfl); (case hr => first | (go_simp; done) | (go_simp; rfl)); intro gb137 hg w8 hbox hb; have n0_ := Aside0.mk (below_step (by repeat (first | (with_reducible first | exact HB.out | apply below_alloc | apply pw_below_drewN | apply below_drew1) | exact HB.out)) hb); have n1_ := Aside0.mk (hbox); have n2_ := Aside0.mk ((by rw [hg]; exact (below_size (by repeat (first | (with_reducible first | exact HB.out | apply below_alloc | apply pw_below_drewN | apply below_drew1) | exact HB.out))) : w.heap.size ≤ gb137)); have n3_ := Aside0.mk ((by rw [hg]; exact (below_size (by repeat (first | (with_reducible first | exact HB.out | apply below_alloc | apply pw_below_drewN | apply below_drew1) | exact HB.out))) : w.heap.size ≤ gb137)); clear HB; have HB := n0_; have BK137 := n1_; have GW137 := n2_; have GE137 := n3_; clear n0_ n1_ n2_ n3_; clear hb hbox hg) | ((with_reducible refine gate_callee (f := 27) rfl ?_); refine goesL_ (some 7) rfl rfl Try.func27 (by kernel_rfl) rfl #[.slice A0 l0.length c0] rfl (by (try simp only [List.map_toArray, List.map_cons, List.map_nil]); first | done | rfl | (simp only [List.length_drop, List.length_take]; rfl)) ?_; (with_reducible refine (impl_NamesOk.calls k _ _ l0 true _ ?side1 ?side2 A3.out).mono ?_); (case side1 => repeat (first | exact (Kd.C_below HR0.out HB.out) | (with_reducible refine Kd.C_alloc ?_ _) | (with_reducible refine Kd.C_drewN ?_ _) | (with_reducible refine Kd.C_drew ?_))); (case side2 => exact HC0.out); rintro e w9 ⟨rfl, hb⟩; refine ⟨_, rfl, ?_⟩; have n0_ := Aside0.mk (blk_below (g := gb137) (o := .cells #[.string (⟨#[]⟩ : ByteArray), .int .i64 0, .int .i64 0, .string (⟨#[]⟩ : ByteArray), .int .i64 0] 26 (0, 0)) (by (with_reducible repeat (first | refine blk_drewN ?_ _ | refine blk_drew ?_ | refine blk_alloc ?_ _)); exact BK137.out) hb); have n1_ := Aside0.mk (below_step (by repeat (first | (with_reducible first | exact HB.out | apply below_alloc | apply pw_below_drewN | apply below_drew1 | refine below_set ?_ GE137.out) | exact HB.out)) hb); clear BK137; clear HB; have BK137 := n0_; have HB := n1_; clear n0_ n1_; (try clear hb); (try clear hb2); (try clear hk); (try clear hi)) | (go_at_call 56; (with_reducible refine (impl_textOk.calls k a1 true _ A5.out).mono ?_); rintro e w10 ⟨rfl, hb⟩; have n0_ := Aside0.mk (blk_below (g := gb137) (o := .cells #[.string (⟨#[]⟩ : ByteArray), .int .i64 0, .int .i64 0, .string (⟨#[]⟩ : ByteArray), .int .i64 0] 26 (0, 0)) (by (with_reducible repeat (first | refine blk_drewN ?_ _ | refine blk_drew ?_ | refine blk_alloc ?_ _)); exact BK137.out) hb); have n1_ := Aside0.mk (below_step (by repeat (first | (with_reducible first | exact HB.out | apply below_alloc | apply pw_below_drewN | apply below_drew1 | refine below_set ?_ GE137.out) | exact HB.out)) hb); clear BK137; clear HB; have BK137 := n0_; have HB := n1_; clear n0_ n1_; (try clear hb); (try clear hb2); (try clear hk); (try clear hi)) | ((with_reducible refine gate_callee (f := 63) rfl ?_); refine goesL_ (some 17) rfl rfl Try.func63 (by kernel_rfl) rfl #[.slice A0 l0.length c0, .string a1] rfl (by (try simp only [List.map_toArray, List.map_cons, List.map_nil]); first | done | rfl | (simp only [List.length_drop, List.length_take]; rfl)) ?_; (with_reducible refine (impl_ask.calls k _ _ l0 a1 t140 t141 t142 t143 t144 _ ?side1 ?side2 A7.out).mono ?_); (case side1 => repeat (first | exact (Kd.C_below HR0.out HB.out) | (with_reducible refine Kd.C_alloc ?_ _) | (with_reducible refine Kd.C_drewN ?_ _) | (with_reducible refine Kd.C_drew ?_))); (case side2 => exact HC0.out); rintro e w11 ⟨rfl, hb⟩; refine ⟨_, rfl, ?_⟩; have n0_ := Aside0.mk (blk_below (g := gb137) (o := .cells #[.string (⟨#[]⟩ : ByteArray), .int .i64 0, .int .i64 0, .string (⟨#[]⟩ : ByteArray), .int .i64 0] 26 (0, 0)) (by (with_reducible repeat (first | refine blk_drewN ?_ _ | refine blk_drew ?_ | refine blk_alloc ?_ _)); exact BK137.out) hb); have n1_ := Aside0.mk (below_step (by repeat (first | (with_reducible first | exact HB.out | apply below_alloc | apply pw_below_drewN | apply below_drew1 | refine below_set ?_ GE137.out) | exact HB.out)) hb); clear BK137; clear HB; have BK137 := n0_; have HB := n1_; clear n0_ n1_; (try clear hb); (try clear hb2); (try clear hk); (try clear hi); have hcz12_0 : w11.cell? ⟨gb137, 0, none⟩ = some (.string (⟨#[]⟩ : ByteArray)) := (blk_cell BK137.out 0).trans rfl; have hcz12_1 : w11.cell? ⟨gb137, 1, none⟩ = some (.int .i64 0) := (blk_cell BK137.out 1).trans rfl; have hcz12_2 : w11.cell? ⟨gb137, 2, none⟩ = some (.int .i64 0) := (blk_cell BK137.out 2).trans rfl; have hcz12_3 : w11.cell? ⟨gb137, 3, none⟩ = some (.string (⟨#[]⟩ : ByteArray)) := (blk_cell BK137.out 3).trans rfl; have hcz12_4 : w11.cell? ⟨gb137, 4, none⟩ = some (.int .i64 0) := (blk_cell BK137.out 4).trans rfl; have hfz12_0 := blk_frozen BK137.out 0; have hfz12_1 := blk_frozen BK137.out 1; have hfz12_2 := blk_frozen BK137.out 2; have hfz12_3 := blk_frozen BK137.out 3; have hfz12_4 := blk_frozen BK137.out 4))
      refine bodyPost_ret (results_ct rfl _ _ gb137 26 #[.string t140, .int .i64 t141, .int .i64 t142, .string t143, .int .i64 t144] (0, 0) _ rfl (by (with_reducible repeat (first | refine blk_drewN ?_ _ | refine blk_drew ?_ | refine blk_alloc ?_ _)); refine blk_put (cs := #[.string t140, .int .i64 t141, .int .i64 t142, .string t143, .int .i64 0]) ?_ 4 _ rfl; (with_reducible repeat (first | refine blk_drewN ?_ _ | refine blk_drew ?_ | refine blk_alloc ?_ _)); refine blk_put (cs := #[.string t140, .int .i64 t141, .int .i64 t142, .string (⟨#[]⟩ : ByteArray), .int .i64 0]) ?_ 3 _ rfl; (with_reducible repeat (first | refine blk_drewN ?_ _ | refine blk_drew ?_ | refine blk_alloc ?_ _)); refine blk_put (cs := #[.string t140, .int .i64 t141, .int .i64 0, .string (⟨#[]⟩ : ByteArray), .int .i64 0]) ?_ 2 _ rfl; (with_reducible repeat (first | refine blk_drewN ?_ _ | refine blk_drew ?_ | refine blk_alloc ?_ _)); refine blk_put (cs := #[.string t140, .int .i64 0, .int .i64 0, .string (⟨#[]⟩ : ByteArray), .int .i64 0]) ?_ 1 _ rfl; (with_reducible repeat (first | refine blk_drewN ?_ _ | refine blk_drew ?_ | refine blk_alloc ?_ _)); refine blk_put (cs := #[.string (⟨#[]⟩ : ByteArray), .int .i64 0, .int .i64 0, .string (⟨#[]⟩ : ByteArray), .int .i64 0]) ?_ 0 _ rfl; (with_reducible repeat (first | refine blk_drewN ?_ _ | refine blk_drew ?_ | refine blk_alloc ?_ _)); exact BK137.out) Try.underlying26 rfl (by kernel_rfl)) rfl ?_
      exact ⟨by first | rfl | (simp [errW_none, errW_some] <;> rfl) | (simp [*, errW_none, errW_some] <;> rfl), by repeat (first | (with_reducible first | exact HB.out | apply below_alloc | apply pw_below_drewN | apply below_drew1 | refine below_set ?_ GE137.out) | exact HB.out)⟩
    · replace c6 := Bool.eq_false_iff.mpr c6
      subst c6
      rw [if_neg (show ¬ (false = true) by decide)] at H
      simp only [Option.some.injEq, Prod.mk.injEq] at H
      obtain ⟨rfl, rfl, rfl, rfl, rfl, rfl⟩ := H
      go_enter Try.func31, Try.ntmps31
      go_wp2_with (first | ((with_reducible refine gate_dst (N := 4) rfl ?_); refine box_event ?hg (N := 4) ?hd (cs := #[.string (⟨#[]⟩ : ByteArray), .int .i64 0, .int .i64 0, .string (⟨#[]⟩ : ByteArray), .int .i64 0]) (t := 26) ?hr ?_; (case hd => rfl); (case hg => rfl); (case hr => first | (go_simp; done) | (go_simp; rfl)); intro gb137 hg w13 hbox hb; have n0_ := Aside0.mk (below_step (by repeat (first | (with_reducible first | exact HB.out | apply below_alloc | apply pw_below_drewN | apply below_drew1) | exact HB.out)) hb); have n1_ := Aside0.mk (hbox); have n2_ := Aside0.mk ((by rw [hg]; exact (below_size (by repeat (first | (with_reducible first | exact HB.out | apply below_alloc | apply pw_below_drewN | apply below_drew1) | exact HB.out))) : w.heap.size ≤ gb137)); have n3_ := Aside0.mk ((by rw [hg]; exact (below_size (by repeat (first | (with_reducible first | exact HB.out | apply below_alloc | apply pw_below_drewN | apply below_drew1) | exact HB.out))) : w.heap.size ≤ gb137)); clear HB; have HB := n0_; have BK137 := n1_; have GW137 := n2_; have GE137 := n3_; clear n0_ n1_ n2_ n3_; clear hb hbox hg) | ((with_reducible refine gate_callee (f := 27) rfl ?_); refine goesL_ (some 7) rfl rfl Try.func27 (by kernel_rfl) rfl #[.slice A0 l0.length c0] rfl (by (try simp only [List.map_toArray, List.map_cons, List.map_nil]); first | done | rfl | (simp only [List.length_drop, List.length_take]; rfl)) ?_; (with_reducible refine (impl_NamesOk.calls k _ _ l0 true _ ?side1 ?side2 A3.out).mono ?_); (case side1 => repeat (first | exact (Kd.C_below HR0.out HB.out) | (with_reducible refine Kd.C_alloc ?_ _) | (with_reducible refine Kd.C_drewN ?_ _) | (with_reducible refine Kd.C_drew ?_))); (case side2 => exact HC0.out); rintro e w14 ⟨rfl, hb⟩; refine ⟨_, rfl, ?_⟩; have n0_ := Aside0.mk (blk_below (g := gb137) (o := .cells #[.string (⟨#[]⟩ : ByteArray), .int .i64 0, .int .i64 0, .string (⟨#[]⟩ : ByteArray), .int .i64 0] 26 (0, 0)) (by (with_reducible repeat (first | refine blk_drewN ?_ _ | refine blk_drew ?_ | refine blk_alloc ?_ _)); exact BK137.out) hb); have n1_ := Aside0.mk (below_step (by repeat (first | (with_reducible first | exact HB.out | apply below_alloc | apply pw_below_drewN | apply below_drew1 | refine below_set ?_ GE137.out) | exact HB.out)) hb); clear BK137; clear HB; have BK137 := n0_; have HB := n1_; clear n0_ n1_; (try clear hb); (try clear hb2); (try clear hk); (try clear hi)) | (go_at_call 56; (with_reducible refine (impl_textOk.calls k a1 false _ A5.out).mono ?_); rintro e w15 ⟨rfl, hb⟩; have n0_ := Aside0.mk (blk_below (g := gb137) (o := .cells #[.string (⟨#[]⟩ : ByteArray), .int .i64 0, .int .i64 0, .string (⟨#[]⟩ : ByteArray), .int .i64 0] 26 (0, 0)) (by (with_reducible repeat (first | refine blk_drewN ?_ _ | refine blk_drew ?_ | refine blk_alloc ?_ _)); exact BK137.out) hb); have n1_ := Aside0.mk (below_step (by repeat (first | (with_reducible first | exact HB.out | apply below_alloc | apply pw_below_drewN | apply below_drew1 | refine below_set ?_ GE137.out) | exact HB.out)) hb); clear BK137; clear HB; have BK137 := n0_; have HB := n1_; clear n0_ n1_; (try clear hb); (try clear hb2); (try clear hk); (try clear hi); have hcz16_0 : w15.cell? ⟨gb137, 0, none⟩ = some (.string (⟨#[]⟩ : ByteArray)) := (blk_cell BK137.out 0).trans rfl; have hcz16_1 : w15.cell? ⟨gb137, 1, none⟩ = some (.int .i64 0) := (blk_cell BK137.out 1).trans rfl; have hcz16_2 : w15.cell? ⟨gb137, 2, none⟩ = some (.int .i64 0) := (blk_cell BK137.out 2).trans rfl; have hcz16_3 : w15.cell? ⟨gb137, 3, none⟩ = some (.string (⟨#[]⟩ : ByteArray)) := (blk_cell BK137.out 3).trans rfl; have hcz16_4 : w15.cell? ⟨gb137, 4, none⟩ = some (.int .i64 0) := (blk_cell BK137.out 4).trans rfl; have hfz16_0 := blk_frozen BK137.out 0; have hfz16_1 := blk_frozen BK137.out 1; have hfz16_2 := blk_frozen BK137.out 2; have hfz16_3 := blk_frozen BK137.out 3; have hfz16_4 := blk_frozen BK137.out 4))
      refine bodyPost_ret (results_ct rfl _ _ gb137 26 #[.string (⟨#[]⟩ : ByteArray), .int .i64 0, .int .i64 0, .string (⟨#[]⟩ : ByteArray), .int .i64 0] (0, 0) _ rfl (by (with_reducible repeat (first | refine blk_drewN ?_ _ | refine blk_drew ?_ | refine blk_alloc ?_ _)); refine blk_put (cs := #[.string (⟨#[]⟩ : ByteArray), .int .i64 0, .int .i64 0, .string (⟨#[]⟩ : ByteArray), .int .i64 0]) ?_ 4 _ rfl; (with_reducible repeat (first | refine blk_drewN ?_ _ | refine blk_drew ?_ | refine blk_alloc ?_ _)); refine blk_put (cs := #[.string (⟨#[]⟩ : ByteArray), .int .i64 0, .int .i64 0, .string (⟨#[]⟩ : ByteArray), .int .i64 0]) ?_ 3 _ rfl; (with_reducible repeat (first | refine blk_drewN ?_ _ | refine blk_drew ?_ | refine blk_alloc ?_ _)); refine blk_put (cs := #[.string (⟨#[]⟩ : ByteArray), .int .i64 0, .int .i64 0, .string (⟨#[]⟩ : ByteArray), .int .i64 0]) ?_ 2 _ rfl; (with_reducible repeat (first | refine blk_drewN ?_ _ | refine blk_drew ?_ | refine blk_alloc ?_ _)); refine blk_put (cs := #[.string (⟨#[]⟩ : ByteArray), .int .i64 0, .int .i64 0, .string (⟨#[]⟩ : ByteArray), .int .i64 0]) ?_ 1 _ rfl; (with_reducible repeat (first | refine blk_drewN ?_ _ | refine blk_drew ?_ | refine blk_alloc ?_ _)); refine blk_put (cs := #[.string (⟨#[]⟩ : ByteArray), .int .i64 0, .int .i64 0, .string (⟨#[]⟩ : ByteArray), .int .i64 0]) ?_ 0 _ rfl; (with_reducible repeat (first | refine blk_drewN ?_ _ | refine blk_drew ?_ | refine blk_alloc ?_ _)); exact BK137.out) Try.underlying26 rfl (by kernel_rfl)) rfl ?_
      exact ⟨by first | rfl | (simp [errW_none, errW_some] <;> rfl) | (simp [*, errW_none, errW_some] <;> rfl), by repeat (first | (with_reducible first | exact HB.out | apply below_alloc | apply pw_below_drewN | apply below_drew1 | refine below_set ?_ GE137.out) | exact HB.out)⟩
  · replace c4 := Bool.eq_false_iff.mpr c4
    subst c4
    rw [if_neg (show ¬ (false = true) by decide)] at H
    simp only [Option.some.injEq, Prod.mk.injEq] at H
    obtain ⟨rfl, rfl, rfl, rfl, rfl, rfl⟩ := H
    go_enter Try.func31, Try.ntmps31
    go_wp2_with (first | ((with_reducible refine gate_dst (N := 4) rfl ?_); refine box_event ?hg (N := 4) ?hd (cs := #[.string (⟨#[]⟩ : ByteArray), .int .i64 0, .int .i64 0, .string (⟨#[]⟩ : ByteArray), .int .i64 0]) (t := 26) ?hr ?_; (case hd => rfl); (case hg => rfl); (case hr => first | (go_simp; done) | (go_simp; rfl)); intro gb137 hg w17 hbox hb; have n0_ := Aside0.mk (below_step (by repeat (first | (with_reducible first | exact HB.out | apply below_alloc | apply pw_below_drewN | apply below_drew1) | exact HB.out)) hb); have n1_ := Aside0.mk (hbox); have n2_ := Aside0.mk ((by rw [hg]; exact (below_size (by repeat (first | (with_reducible first | exact HB.out | apply below_alloc | apply pw_below_drewN | apply below_drew1) | exact HB.out))) : w.heap.size ≤ gb137)); have n3_ := Aside0.mk ((by rw [hg]; exact (below_size (by repeat (first | (with_reducible first | exact HB.out | apply below_alloc | apply pw_below_drewN | apply below_drew1) | exact HB.out))) : w.heap.size ≤ gb137)); clear HB; have HB := n0_; have BK137 := n1_; have GW137 := n2_; have GE137 := n3_; clear n0_ n1_ n2_ n3_; clear hb hbox hg) | ((with_reducible refine gate_callee (f := 27) rfl ?_); refine goesL_ (some 7) rfl rfl Try.func27 (by kernel_rfl) rfl #[.slice A0 l0.length c0] rfl (by (try simp only [List.map_toArray, List.map_cons, List.map_nil]); first | done | rfl | (simp only [List.length_drop, List.length_take]; rfl)) ?_; (with_reducible refine (impl_NamesOk.calls k _ _ l0 false _ ?side1 ?side2 A3.out).mono ?_); (case side1 => repeat (first | exact (Kd.C_below HR0.out HB.out) | (with_reducible refine Kd.C_alloc ?_ _) | (with_reducible refine Kd.C_drewN ?_ _) | (with_reducible refine Kd.C_drew ?_))); (case side2 => exact HC0.out); rintro e w18 ⟨rfl, hb⟩; refine ⟨_, rfl, ?_⟩; have n0_ := Aside0.mk (blk_below (g := gb137) (o := .cells #[.string (⟨#[]⟩ : ByteArray), .int .i64 0, .int .i64 0, .string (⟨#[]⟩ : ByteArray), .int .i64 0] 26 (0, 0)) (by (with_reducible repeat (first | refine blk_drewN ?_ _ | refine blk_drew ?_ | refine blk_alloc ?_ _)); exact BK137.out) hb); have n1_ := Aside0.mk (below_step (by repeat (first | (with_reducible first | exact HB.out | apply below_alloc | apply pw_below_drewN | apply below_drew1 | refine below_set ?_ GE137.out) | exact HB.out)) hb); clear BK137; clear HB; have BK137 := n0_; have HB := n1_; clear n0_ n1_; (try clear hb); (try clear hb2); (try clear hk); (try clear hi); have hcz19_0 : w18.cell? ⟨gb137, 0, none⟩ = some (.string (⟨#[]⟩ : ByteArray)) := (blk_cell BK137.out 0).trans rfl; have hcz19_1 : w18.cell? ⟨gb137, 1, none⟩ = some (.int .i64 0) := (blk_cell BK137.out 1).trans rfl; have hcz19_2 : w18.cell? ⟨gb137, 2, none⟩ = some (.int .i64 0) := (blk_cell BK137.out 2).trans rfl; have hcz19_3 : w18.cell? ⟨gb137, 3, none⟩ = some (.string (⟨#[]⟩ : ByteArray)) := (blk_cell BK137.out 3).trans rfl; have hcz19_4 : w18.cell? ⟨gb137, 4, none⟩ = some (.int .i64 0) := (blk_cell BK137.out 4).trans rfl; have hfz19_0 := blk_frozen BK137.out 0; have hfz19_1 := blk_frozen BK137.out 1; have hfz19_2 := blk_frozen BK137.out 2; have hfz19_3 := blk_frozen BK137.out 3; have hfz19_4 := blk_frozen BK137.out 4))
    refine bodyPost_ret (results_ct rfl _ _ gb137 26 #[.string (⟨#[]⟩ : ByteArray), .int .i64 0, .int .i64 0, .string (⟨#[]⟩ : ByteArray), .int .i64 0] (0, 0) _ rfl (by (with_reducible repeat (first | refine blk_drewN ?_ _ | refine blk_drew ?_ | refine blk_alloc ?_ _)); refine blk_put (cs := #[.string (⟨#[]⟩ : ByteArray), .int .i64 0, .int .i64 0, .string (⟨#[]⟩ : ByteArray), .int .i64 0]) ?_ 4 _ rfl; (with_reducible repeat (first | refine blk_drewN ?_ _ | refine blk_drew ?_ | refine blk_alloc ?_ _)); refine blk_put (cs := #[.string (⟨#[]⟩ : ByteArray), .int .i64 0, .int .i64 0, .string (⟨#[]⟩ : ByteArray), .int .i64 0]) ?_ 3 _ rfl; (with_reducible repeat (first | refine blk_drewN ?_ _ | refine blk_drew ?_ | refine blk_alloc ?_ _)); refine blk_put (cs := #[.string (⟨#[]⟩ : ByteArray), .int .i64 0, .int .i64 0, .string (⟨#[]⟩ : ByteArray), .int .i64 0]) ?_ 2 _ rfl; (with_reducible repeat (first | refine blk_drewN ?_ _ | refine blk_drew ?_ | refine blk_alloc ?_ _)); refine blk_put (cs := #[.string (⟨#[]⟩ : ByteArray), .int .i64 0, .int .i64 0, .string (⟨#[]⟩ : ByteArray), .int .i64 0]) ?_ 1 _ rfl; (with_reducible repeat (first | refine blk_drewN ?_ _ | refine blk_drew ?_ | refine blk_alloc ?_ _)); refine blk_put (cs := #[.string (⟨#[]⟩ : ByteArray), .int .i64 0, .int .i64 0, .string (⟨#[]⟩ : ByteArray), .int .i64 0]) ?_ 0 _ rfl; (with_reducible repeat (first | refine blk_drewN ?_ _ | refine blk_drew ?_ | refine blk_alloc ?_ _)); exact BK137.out) Try.underlying26 rfl (by kernel_rfl)) rfl ?_
    exact ⟨by first | rfl | (simp [errW_none, errW_some] <;> rfl) | (simp [*, errW_none, errW_some] <;> rfl), by repeat (first | (with_reducible first | exact HB.out | apply below_alloc | apply pw_below_drewN | apply below_drew1 | refine below_set ?_ GE137.out) | exact HB.out)⟩

/-! ### spec_l1In: function 55 -/
def spec_l1In.f (a0 : Int) (a1 : Int) (a2 : Int) : Option (Bool) := if a0 ≥ a1 then (some (decide (a0 ≤ a2))) else (some false)
set_option maxHeartbeats 8000000 in
set_option maxRecDepth 100000 in
theorem spec_l1In.calls (a0 : Int) (a1 : Int) (a2 : Int) (r : Bool) (w : World) (h : spec_l1In.f a0 a1 a2 = some r) :
    Calls Try.prog 55 #[.int .i64 a0, .int .i64 a1, .int .i64 a2] w fun e w' => e = .returned (.bool r) ∧ Drawn0 w w' := by
  have H : (if a0 ≥ a1 then (some (decide (a0 ≤ a2))) else (some false)) = some r := h
  clear h
  by_cases c4 : a0 ≥ a1
  · rw [if_pos c4] at H
    have c4b0 : decide (a1 ≤ a0) = true := decide_eq_true c4
    clear c4
    obtain rfl := Option.some.inj H
    go_enter Try.func55, Try.ntmps55
    go_wp2
    go_ret
    exact ⟨by first | rfl | (simp; done) | (simp [*]; done), by repeat (first | exact Drawn0.refl _ | apply Drawn0.step)⟩
  · rw [if_neg c4] at H
    have c4b0 : decide (a1 ≤ a0) = false := decide_eq_false c4
    clear c4
    obtain rfl := Option.some.inj H
    go_enter Try.func55, Try.ntmps55
    go_wp2
    go_ret
    exact ⟨by first | rfl | (simp; done) | (simp [*]; done), by repeat (first | exact Drawn0.refl _ | apply Drawn0.step)⟩

/-! ### spec_l19Word: function 54 -/
def spec_l19Word.l0 : Nat → ByteArray → Int → Option (Bool)
  | 0, _, _ => none
  | k + 1, x0, x3 => if x3 < (x0.size : Int) then (if 0 ≤ x3 then (if (bt x0 x3) < 97 then (some false) else (if (bt x0 x3) > 122 then (some false) else (spec_l19Word.l0 k x0 (wrap64 (x3 + 1))))) else (none)) else ((spec_l1In.f (x0.size : Int) 1 12).bind fun t145 => (some t145))
def spec_l19Word.f (k : Nat) (a0 : ByteArray) : Option (Bool) := spec_l19Word.l0 k a0 0
theorem spec_l19Word.mono_l : ∀ k, (∀ y0 y1, LeO (spec_l19Word.l0 k y0 y1) (spec_l19Word.l0 (k + 1) y0 y1))
  | 0 => fun _ _ r h => by simp [spec_l19Word.l0] at h
  | k + 1 => by
    have ih0 := spec_l19Word.mono_l k
    · intro y0 y1
      unfold spec_l19Word.l0
      repeat' first
      | (with_reducible exact ih0 _ _)
      | (with_reducible exact LeO.refl _)
      | (with_reducible exact LeO.none _)
      | (with_reducible refine LeO.ite ?_ ?_)
      | (with_reducible refine LeO.bind ?_ (fun _ => ?_))
      | exact ih0 _ _
      | exact LeO.none _
      | refine LeO.ite ?_ ?_
      | refine LeO.bind ?_ (fun _ => ?_)
theorem spec_l19Word.mono : ∀ a0 k, LeO (spec_l19Word.f k a0) (spec_l19Word.f (k + 1) a0) := by
  intro a0 k
  have ih0 := spec_l19Word.mono_l k
  unfold spec_l19Word.f
  repeat' first
      | (with_reducible exact ih0 _ _)
      | (with_reducible exact LeO.refl _)
      | (with_reducible exact LeO.none _)
      | (with_reducible refine LeO.ite ?_ ?_)
      | (with_reducible refine LeO.bind ?_ (fun _ => ?_))
      | exact ih0 _ _
      | exact LeO.none _
      | refine LeO.ite ?_ ?_
      | refine LeO.bind ?_ (fun _ => ?_)
set_option maxHeartbeats 8000000 in
set_option maxRecDepth 100000 in
theorem spec_l19Word.calls (k : Nat) (a0 : ByteArray) (r : Bool) (w : World) (h : spec_l19Word.f k a0 = some r) :
    Calls Try.prog 54 #[.string a0] w fun e w' => e = .returned (.bool r) ∧ Drawn0 w w' := by
  have H : (spec_l19Word.l0 k a0 0) = some r := h
  clear h
  have H' := Aside0.mk H
  clear H
  go_enter Try.func54, Try.ntmps54
  go_wp2
  go_loopg [3] k (fun kq v3 w' => ∃ (x3_1 : Int), v3 = .int .i64 x3_1 ∧ Aside0 (spec_l19Word.l0 kq a0 x3_1 = some r) ∧ Aside0 (kq ≤ k) ∧ Drawn0 w w')
  case atStart => exact ⟨(0), (by first | rfl | (simp; done) | (simp [*]; done)), H', ⟨Nat.le_refl _⟩, by repeat (first | exact Drawn0.refl _ | apply Drawn0.step)⟩
  case round =>
    clear H'
    obtain ⟨x3_1, rfl, HA, HK1, ⟨m1, rfl⟩⟩ := hrel
    cases gk with
    | zero => exact absurd HA.out (by simp [spec_l19Word.l0])
    | succ k1 =>
      have H := HA.out
      clear HA
      simp only [spec_l19Word.l0] at H
      by_cases c2 : x3_1 < (a0.size : Int)
      · rw [if_pos c2] at H
        have c2b0 : decide (x3_1 < (a0.size : Int)) = true := decide_eq_true c2
        clear c2
        by_cases c3 : 0 ≤ x3_1
        · rw [if_pos c3] at H
          have c3b0 : decide (0 ≤ x3_1) = true := decide_eq_true c3
          clear c3
          by_cases c5 : (bt a0 x3_1) < 97
          · rw [if_pos c5] at H
            have c5b0 : decide ((bt a0 x3_1) < 97) = true := decide_eq_true c5
            clear c5
            obtain rfl := Option.some.inj H
            have p4 : 0 ≤ (x3_1 : Int) := of_decide_eq_true (by first | (with_reducible assumption) | assumption)
            have q4 : x3_1 < (a0.size : Int) := of_decide_eq_true (by first | (with_reducible assumption) | assumption)
            have hx4 := bt_at a0 x3_1
            replace p4 := eq_true p4
            replace q4 := eq_true q4
            go_wp2
            go_ret
            exact ⟨by first | rfl | (simp; done) | (simp [*]; done), by repeat (first | exact Drawn0.refl _ | apply Drawn0.step)⟩
          · rw [if_neg c5] at H
            have c5b0 : decide ((bt a0 x3_1) < 97) = false := decide_eq_false c5
            clear c5
            by_cases c7 : (bt a0 x3_1) > 122
            · rw [if_pos c7] at H
              have c7b0 : decide (122 < (bt a0 x3_1)) = true := decide_eq_true c7
              clear c7
              obtain rfl := Option.some.inj H
              have p4 : 0 ≤ (x3_1 : Int) := of_decide_eq_true (by first | (with_reducible assumption) | assumption)
              have q4 : x3_1 < (a0.size : Int) := of_decide_eq_true (by first | (with_reducible assumption) | assumption)
              have hx4 := bt_at a0 x3_1
              replace p4 := eq_true p4
              replace q4 := eq_true q4
              have p6 : 0 ≤ (x3_1 : Int) := of_decide_eq_true (by first | (with_reducible assumption) | assumption)
              have q6 : x3_1 < (a0.size : Int) := of_decide_eq_true (by first | (with_reducible assumption) | assumption)
              have hx6 := bt_at a0 x3_1
              replace p6 := eq_true p6
              replace q6 := eq_true q6
              go_wp2
              go_ret
              exact ⟨by first | rfl | (simp; done) | (simp [*]; done), by repeat (first | exact Drawn0.refl _ | apply Drawn0.step)⟩
            · rw [if_neg c7] at H
              have c7b0 : decide (122 < (bt a0 x3_1)) = false := decide_eq_false c7
              clear c7
              have H' := Aside0.mk H
              clear H
              have p4 : 0 ≤ (x3_1 : Int) := of_decide_eq_true (by first | (with_reducible assumption) | assumption)
              have q4 : x3_1 < (a0.size : Int) := of_decide_eq_true (by first | (with_reducible assumption) | assumption)
              have hx4 := bt_at a0 x3_1
              replace p4 := eq_true p4
              replace q4 := eq_true q4
              have p6 : 0 ≤ (x3_1 : Int) := of_decide_eq_true (by first | (with_reducible assumption) | assumption)
              have q6 : x3_1 < (a0.size : Int) := of_decide_eq_true (by first | (with_reducible assumption) | assumption)
              have hx6 := bt_at a0 x3_1
              replace p6 := eq_true p6
              replace q6 := eq_true q6
              go_wp2
              go_roundg k1
              case measure => have := HK1.out; omega
              case rel => exact ⟨(wrap64 (x3_1 + 1)), (by first | rfl | (simp; done) | (simp [*]; done)), H', ⟨by have := HK1.out; omega⟩, by repeat (first | exact Drawn0.refl _ | apply Drawn0.step)⟩
        · rw [if_neg c3] at H
          exact absurd H (by simp)
      · rw [if_neg c2] at H
        have c2b0 : decide (x3_1 < (a0.size : Int)) = false := decide_eq_false c2
        clear c2
        replace H := Option.bind_eq_some_iff.mp H
        obtain ⟨t145, A80, H⟩ := H
        have A8 := Aside0.mk A80
        clear A80
        obtain rfl := Option.some.inj H
        go_wp2_with (first | ((with_reducible refine gate_callee (f := 55) rfl ?_); refine goesL_ (some 22) rfl rfl Try.func55 (by kernel_rfl) rfl #[.int .i64 (a0.size : Int), .int .i64 1, .int .i64 12] rfl (by (try simp only [List.map_toArray, List.map_cons, List.map_nil]); first | done | rfl | (simp only [List.length_drop, List.length_take]; rfl)) ?_; (with_reducible refine (spec_l1In.calls (a0.size : Int) 1 12 t145 _ A8.out).mono ?_); rintro e w' ⟨rfl, ⟨nd, rfl⟩⟩; refine ⟨_, rfl, ?_⟩))
        go_ret
        exact ⟨by first | rfl | (simp; done) | (simp [*]; done), by repeat (first | exact Drawn0.refl _ | apply Drawn0.step)⟩

/-! ### spec_NameOk: function 19 -/
def spec_NameOk.j0 : Nat → Bool → ByteArray → Int → Int → ByteArray → Int → Option (Bool)
  | 0, _, _, _, _, _, _ => none
  | k + 1, x12, x147000, x147001, x147002, x147003, x147004 => if x12 = true then (some false) else (if x147001 = 1 then ((spec_l1In.f x147002 0 65535).bind fun t149 => (if t149 = true then (some (x147003.toList == ([] : List UInt8))) else (some false))) else (if x147001 = 2 then (if x147002 = 0 then ((spec_l19Word.f k x147003).bind fun t150 => (some t150)) else (some false)) else (if x147001 = 0 then (if x147002 = 0 then (some (x147003.toList == ([] : List UInt8))) else (some false)) else (some false))))
def spec_NameOk.f (k : Nat) (a0_0 : ByteArray) (a0_1 : Int) (a0_2 : Int) (a0_3 : ByteArray) (a0_4 : Int) : Option (Bool) := (spec_l19Word.f k a0_0).bind fun t147 => (if t147 = true then ((spec_l1In.f a0_4 1 50).bind fun t148 => (spec_NameOk.j0 k (!t148) a0_0 a0_1 a0_2 a0_3 a0_4)) else (spec_NameOk.j0 k true a0_0 a0_1 a0_2 a0_3 a0_4))
theorem spec_NameOk.mono_l : ∀ k, (∀ y0 y1 y2 y3 y4 y5, LeO (spec_NameOk.j0 k y0 y1 y2 y3 y4 y5) (spec_NameOk.j0 (k + 1) y0 y1 y2 y3 y4 y5))
  | 0 => fun _ _ _ _ _ _ r h => by simp [spec_NameOk.j0] at h
  | k + 1 => by
    have ih0 := spec_NameOk.mono_l k
    · intro y0 y1 y2 y3 y4 y5
      unfold spec_NameOk.j0
      repeat' first
      | (with_reducible exact ih0 _ _ _ _ _ _)
      | (with_reducible exact spec_l19Word.mono _ _)
      | (with_reducible exact LeO.refl _)
      | (with_reducible exact LeO.none _)
      | (with_reducible refine LeO.ite ?_ ?_)
      | (with_reducible refine LeO.bind ?_ (fun _ => ?_))
      | exact ih0 _ _ _ _ _ _
      | exact spec_l19Word.mono _ _
      | exact LeO.none _
      | refine LeO.ite ?_ ?_
      | refine LeO.bind ?_ (fun _ => ?_)
theorem spec_NameOk.mono : ∀ a0 a1 a2 a3 a4 k, LeO (spec_NameOk.f k a0 a1 a2 a3 a4) (spec_NameOk.f (k + 1) a0 a1 a2 a3 a4) := by
  intro a0 a1 a2 a3 a4 k
  have ih0 := spec_NameOk.mono_l k
  unfold spec_NameOk.f
  repeat' first
      | (with_reducible exact ih0 _ _ _ _ _ _)
      | (with_reducible exact spec_l19Word.mono _ _)
      | (with_reducible exact LeO.refl _)
      | (with_reducible exact LeO.none _)
      | (with_reducible refine LeO.ite ?_ ?_)
      | (with_reducible refine LeO.bind ?_ (fun _ => ?_))
      | exact ih0 _ _ _ _ _ _
      | exact spec_l19Word.mono _ _
      | exact LeO.none _
      | refine LeO.ite ?_ ?_
      | refine LeO.bind ?_ (fun _ => ?_)
set_option maxHeartbeats 8000000 in
set_option maxRecDepth 100000 in
theorem spec_NameOk.calls (k : Nat) (a0_0 : ByteArray) (a0_1 : Int) (a0_2 : Int) (a0_3 : ByteArray) (a0_4 : Int) (r : Bool) (w : World) (h : spec_NameOk.f k a0_0 a0_1 a0_2 a0_3 a0_4 = some r) :
    Calls Try.prog 19 #[.agg #[.string a0_0, .int .i64 a0_1, .int .i64 a0_2, .string a0_3, .int .i64 a0_4]] w fun e w' => e = .returned (.bool r) ∧ Below w.heap.size w w' := by
  have hu26 := Try.underlying26
  have HB := Aside0.mk (Below.refl w.heap.size w)
  have H : ((spec_l19Word.f k a0_0).bind fun t147 => (if t147 = true then ((spec_l1In.f a0_4 1 50).bind fun t148 => (spec_NameOk.j0 k (!t148) a0_0 a0_1 a0_2 a0_3 a0_4)) else (spec_NameOk.j0 k true a0_0 a0_1 a0_2 a0_3 a0_4))) = some r := h
  clear h
  have HC2 := Aside0.mk H
  clear H
  go_enter Try.func19, Try.ntmps19
  go_upto_region 1 with (first | ((with_reducible refine gate_dst (N := 1) rfl ?_); refine box_event ?hg (N := 1) ?hd (cs := #[.string a0_0, .int .i64 a0_1, .int .i64 a0_2, .string a0_3, .int .i64 a0_4]) (t := 26) ?hr ?_; (case hd => rfl); (case hg => rfl); (case hr => first | (go_simp; done) | (go_simp; rfl)); intro gb146 hg w3 hbox hb; have n0_ := Aside0.mk (below_step (by repeat (first | (with_reducible first | exact HB.out | apply below_alloc | apply pw_below_drewN | apply below_drew1) | exact HB.out)) hb); have n1_ := Aside0.mk (hbox); have n2_ := Aside0.mk ((by rw [hg]; exact (below_size (by repeat (first | (with_reducible first | exact HB.out | apply below_alloc | apply pw_below_drewN | apply below_drew1) | exact HB.out))) : w.heap.size ≤ gb146)); have n3_ := Aside0.mk ((by rw [hg]; exact (below_size (by repeat (first | (with_reducible first | exact HB.out | apply below_alloc | apply pw_below_drewN | apply below_drew1) | exact HB.out))) : w.heap.size ≤ gb146)); clear HB; have HB := n0_; have BK146 := n1_; have GW146 := n2_; have GE146 := n3_; clear n0_ n1_ n2_ n3_; clear hb hbox hg))
  (try simp only [Act.put, List.setIfInBounds_toArray, List.set_cons_zero, List.set_cons_succ])
  go_cut [12] (fun v12 wc => ∃ (kq : Nat) (x12_1 : Bool), v12 = .bool x12_1 ∧ Aside0 (spec_NameOk.j0 kq x12_1 a0_0 a0_1 a0_2 a0_3 a0_4 = some r) ∧ Aside0 (kq ≤ k) ∧ Aside0 (wc.heap[gb146]? = some (.cells #[.string a0_0, .int .i64 a0_1, .int .i64 a0_2, .string a0_3, .int .i64 a0_4] 26 (0, 0))) ∧ Aside0 (Below w.heap.size w wc))
  case first =>
    have H := HC2.out
    clear HC2
    replace H := Option.bind_eq_some_iff.mp H
    obtain ⟨t147, A40, H⟩ := H
    have A4 := Aside0.mk A40
    clear A40
    by_cases c5 : t147 = true
    · subst c5
      rw [if_pos rfl] at H
      replace H := Option.bind_eq_some_iff.mp H
      obtain ⟨t148, A60, H⟩ := H
      have A6 := Aside0.mk A60
      clear A60
      have H' := Aside0.mk H
      clear H
      have hcz7_0 : w3.cell? ⟨gb146, 0, none⟩ = some (.string a0_0) := (blk_cell BK146.out 0).trans rfl
      have hcz7_1 : w3.cell? ⟨gb146, 1, none⟩ = some (.int .i64 a0_1) := (blk_cell BK146.out 1).trans rfl
      have hcz7_2 : w3.cell? ⟨gb146, 2, none⟩ = some (.int .i64 a0_2) := (blk_cell BK146.out 2).trans rfl
      have hcz7_3 : w3.cell? ⟨gb146, 3, none⟩ = some (.string a0_3) := (blk_cell BK146.out 3).trans rfl
      have hcz7_4 : w3.cell? ⟨gb146, 4, none⟩ = some (.int .i64 a0_4) := (blk_cell BK146.out 4).trans rfl
      have hfz7_0 := blk_frozen BK146.out 0
      have hfz7_1 := blk_frozen BK146.out 1
      have hfz7_2 := blk_frozen BK146.out 2
      have hfz7_3 := blk_frozen BK146.out 3
      have hfz7_4 := blk_frozen BK146.out 4
      go_wp2_with (first | ((with_reducible refine gate_callee (f := 54) rfl ?_); refine goesL_ (some 5) rfl rfl Try.func54 (by kernel_rfl) rfl #[.string a0_0] rfl (by (try simp only [List.map_toArray, List.map_cons, List.map_nil]); first | done | rfl | (simp only [List.length_drop, List.length_take]; rfl)) ?_; (with_reducible refine (spec_l19Word.calls k a0_0 true _ A4.out).mono ?_); rintro e w' ⟨rfl, ⟨nd, rfl⟩⟩; refine ⟨_, rfl, ?_⟩) | (go_at_call 55; (with_reducible refine (spec_l1In.calls a0_4 1 50 t148 _ A6.out).mono ?_); rintro e w' ⟨rfl, ⟨nd, rfl⟩⟩))
      go_meet
      case rel => exact ⟨_, (!t148), (by first | rfl | (simp; done) | (simp [*]; done)), H', ⟨by first | omega | exact Nat.le_refl _⟩, ⟨by (with_reducible repeat (first | refine blk_drewN ?_ _ | refine blk_drew ?_ | refine blk_alloc ?_ _)); exact BK146.out⟩, ⟨by repeat (first | (with_reducible first | exact HB.out | apply below_alloc | apply pw_below_drewN | apply below_drew1 | refine below_set ?_ GE146.out) | exact HB.out)⟩⟩
    · replace c5 := Bool.eq_false_iff.mpr c5
      subst c5
      rw [if_neg (show ¬ (false = true) by decide)] at H
      have H' := Aside0.mk H
      clear H
      have hcz8_0 : w3.cell? ⟨gb146, 0, none⟩ = some (.string a0_0) := (blk_cell BK146.out 0).trans rfl
      have hcz8_1 : w3.cell? ⟨gb146, 1, none⟩ = some (.int .i64 a0_1) := (blk_cell BK146.out 1).trans rfl
      have hcz8_2 : w3.cell? ⟨gb146, 2, none⟩ = some (.int .i64 a0_2) := (blk_cell BK146.out 2).trans rfl
      have hcz8_3 : w3.cell? ⟨gb146, 3, none⟩ = some (.string a0_3) := (blk_cell BK146.out 3).trans rfl
      have hcz8_4 : w3.cell? ⟨gb146, 4, none⟩ = some (.int .i64 a0_4) := (blk_cell BK146.out 4).trans rfl
      have hfz8_0 := blk_frozen BK146.out 0
      have hfz8_1 := blk_frozen BK146.out 1
      have hfz8_2 := blk_frozen BK146.out 2
      have hfz8_3 := blk_frozen BK146.out 3
      have hfz8_4 := blk_frozen BK146.out 4
      go_wp2_with (first | ((with_reducible refine gate_callee (f := 54) rfl ?_); refine goesL_ (some 5) rfl rfl Try.func54 (by kernel_rfl) rfl #[.string a0_0] rfl (by (try simp only [List.map_toArray, List.map_cons, List.map_nil]); first | done | rfl | (simp only [List.length_drop, List.length_take]; rfl)) ?_; (with_reducible refine (spec_l19Word.calls k a0_0 false _ A4.out).mono ?_); rintro e w' ⟨rfl, ⟨nd, rfl⟩⟩; refine ⟨_, rfl, ?_⟩))
      go_meet
      case rel => exact ⟨_, (true), (by first | rfl | (simp; done) | (simp [*]; done)), H', ⟨by first | omega | exact Nat.le_refl _⟩, ⟨by (with_reducible repeat (first | refine blk_drewN ?_ _ | refine blk_drew ?_ | refine blk_alloc ?_ _)); exact BK146.out⟩, ⟨by repeat (first | (with_reducible first | exact HB.out | apply below_alloc | apply pw_below_drewN | apply below_drew1 | refine below_set ?_ GE146.out) | exact HB.out)⟩⟩
  case rest =>
    clear HC2
    try clear c1
    try clear p2
    try clear c5
    try clear hcz7_0
    try clear hcz7_1
    try clear hcz7_2
    try clear hcz7_3
    try clear hcz7_4
    try clear hcz8_0
    try clear hcz8_1
    try clear hcz8_2
    try clear hcz8_3
    try clear hcz8_4
    try clear hfz7_0
    try clear hfz7_1
    try clear hfz7_2
    try clear hfz7_3
    try clear hfz7_4
    try clear hfz8_0
    try clear hfz8_1
    try clear hfz8_2
    try clear hfz8_3
    try clear hfz8_4
    obtain ⟨kq, x12_1, rfl, HA, HJ1, BK146, HB⟩ := hcut
    cases kq with
    | zero => exact absurd HA.out (by simp [spec_NameOk.j0])
    | succ kj1 =>
      have H := HA.out
      clear HA
      simp only [spec_NameOk.j0] at H
      by_cases c9 : x12_1 = true
      · subst c9
        rw [if_pos rfl] at H
        obtain rfl := Option.some.inj H
        go_wp2
        go_ret
        exact ⟨by first | rfl | (simp [errW_none, errW_some] <;> rfl) | (simp [*, errW_none, errW_some] <;> rfl), by repeat (first | (with_reducible first | exact HB.out | apply below_alloc | apply pw_below_drewN | apply below_drew1 | refine below_set ?_ GE146.out) | exact HB.out)⟩
      · replace c9 := Bool.eq_false_iff.mpr c9
        subst c9
        rw [if_neg (show ¬ (false = true) by decide)] at H
        by_cases c10 : a0_1 = 1
        · rw [if_pos c10] at H
          have c10b0 : (a0_1 == 1) = true := beq_iff_eq.mpr c10
          have c10b1 : (a0_1 != 1) = false := bne_eq_false_iff_eq.mpr c10
          clear c10
          replace H := Option.bind_eq_some_iff.mp H
          obtain ⟨t149, A110, H⟩ := H
          have A11 := Aside0.mk A110
          clear A110
          by_cases c12 : t149 = true
          · subst c12
            rw [if_pos rfl] at H
            obtain rfl := Option.some.inj H
            have hcz13_0 : wc.cell? ⟨gb146, 0, none⟩ = some (.string a0_0) := (blk_cell BK146.out 0).trans rfl
            have hcz13_1 : wc.cell? ⟨gb146, 1, none⟩ = some (.int .i64 a0_1) := (blk_cell BK146.out 1).trans rfl
            have hcz13_2 : wc.cell? ⟨gb146, 2, none⟩ = some (.int .i64 a0_2) := (blk_cell BK146.out 2).trans rfl
            have hcz13_3 : wc.cell? ⟨gb146, 3, none⟩ = some (.string a0_3) := (blk_cell BK146.out 3).trans rfl
            have hcz13_4 : wc.cell? ⟨gb146, 4, none⟩ = some (.int .i64 a0_4) := (blk_cell BK146.out 4).trans rfl
            have hfz13_0 := blk_frozen BK146.out 0
            have hfz13_1 := blk_frozen BK146.out 1
            have hfz13_2 := blk_frozen BK146.out 2
            have hfz13_3 := blk_frozen BK146.out 3
            have hfz13_4 := blk_frozen BK146.out 4
            go_wp2_with (first | ((with_reducible refine gate_callee (f := 55) rfl ?_); refine goesL_ (some 19) rfl rfl Try.func55 (by kernel_rfl) rfl #[.int .i64 a0_2, .int .i64 0, .int .i64 65535] rfl (by (try simp only [List.map_toArray, List.map_cons, List.map_nil]); first | done | rfl | (simp only [List.length_drop, List.length_take]; rfl)) ?_; (with_reducible refine (spec_l1In.calls a0_2 0 65535 true _ A11.out).mono ?_); rintro e w' ⟨rfl, ⟨nd, rfl⟩⟩; refine ⟨_, rfl, ?_⟩))
            go_ret
            exact ⟨by first | rfl | (simp [errW_none, errW_some] <;> rfl) | (simp [*, errW_none, errW_some] <;> rfl), by repeat (first | (with_reducible first | exact HB.out | apply below_alloc | apply pw_below_drewN | apply below_drew1 | refine below_set ?_ GE146.out) | exact HB.out)⟩
          · replace c12 := Bool.eq_false_iff.mpr c12
            subst c12
            rw [if_neg (show ¬ (false = true) by decide)] at H
            obtain rfl := Option.some.inj H
            have hcz14_0 : wc.cell? ⟨gb146, 0, none⟩ = some (.string a0_0) := (blk_cell BK146.out 0).trans rfl
            have hcz14_1 : wc.cell? ⟨gb146, 1, none⟩ = some (.int .i64 a0_1) := (blk_cell BK146.out 1).trans rfl
            have hcz14_2 : wc.cell? ⟨gb146, 2, none⟩ = some (.int .i64 a0_2) := (blk_cell BK146.out 2).trans rfl
            have hcz14_3 : wc.cell? ⟨gb146, 3, none⟩ = some (.string a0_3) := (blk_cell BK146.out 3).trans rfl
            have hcz14_4 : wc.cell? ⟨gb146, 4, none⟩ = some (.int .i64 a0_4) := (blk_cell BK146.out 4).trans rfl
            have hfz14_0 := blk_frozen BK146.out 0
            have hfz14_1 := blk_frozen BK146.out 1
            have hfz14_2 := blk_frozen BK146.out 2
            have hfz14_3 := blk_frozen BK146.out 3
            have hfz14_4 := blk_frozen BK146.out 4
            go_wp2_with (first | ((with_reducible refine gate_callee (f := 55) rfl ?_); refine goesL_ (some 19) rfl rfl Try.func55 (by kernel_rfl) rfl #[.int .i64 a0_2, .int .i64 0, .int .i64 65535] rfl (by (try simp only [List.map_toArray, List.map_cons, List.map_nil]); first | done | rfl | (simp only [List.length_drop, List.length_take]; rfl)) ?_; (with_reducible refine (spec_l1In.calls a0_2 0 65535 false _ A11.out).mono ?_); rintro e w' ⟨rfl, ⟨nd, rfl⟩⟩; refine ⟨_, rfl, ?_⟩))
            go_ret
            exact ⟨by first | rfl | (simp [errW_none, errW_some] <;> rfl) | (simp [*, errW_none, errW_some] <;> rfl), by repeat (first | (with_reducible first | exact HB.out | apply below_alloc | apply pw_below_drewN | apply below_drew1 | refine below_set ?_ GE146.out) | exact HB.out)⟩
        · rw [if_neg c10] at H
          have c10b0 : (a0_1 == 1) = false := beq_eq_false_iff_ne.mpr c10
          have c10b1 : (a0_1 != 1) = true := bne_iff_ne.mpr c10
          by_cases c15 : a0_1 = 2
          · rw [if_pos c15] at H
            have c15b0 : (a0_1 == 2) = true := beq_iff_eq.mpr c15
            have c15b1 : (a0_1 != 2) = false := bne_eq_false_iff_eq.mpr c15
            clear c15
            by_cases c16 : a0_2 = 0
            · rw [if_pos c16] at H
              have c16b0 : (a0_2 == 0) = true := beq_iff_eq.mpr c16
              have c16b1 : (a0_2 != 0) = false := bne_eq_false_iff_eq.mpr c16
              clear c16
              replace H := Option.bind_eq_some_iff.mp H
              obtain ⟨t150, A170, H⟩ := H
              have A17 := Aside0.mk A170
              clear A170
              obtain rfl := Option.some.inj H
              have hcz18_0 : wc.cell? ⟨gb146, 0, none⟩ = some (.string a0_0) := (blk_cell BK146.out 0).trans rfl
              have hcz18_1 : wc.cell? ⟨gb146, 1, none⟩ = some (.int .i64 a0_1) := (blk_cell BK146.out 1).trans rfl
              have hcz18_2 : wc.cell? ⟨gb146, 2, none⟩ = some (.int .i64 a0_2) := (blk_cell BK146.out 2).trans rfl
              have hcz18_3 : wc.cell? ⟨gb146, 3, none⟩ = some (.string a0_3) := (blk_cell BK146.out 3).trans rfl
              have hcz18_4 : wc.cell? ⟨gb146, 4, none⟩ = some (.int .i64 a0_4) := (blk_cell BK146.out 4).trans rfl
              have hfz18_0 := blk_frozen BK146.out 0
              have hfz18_1 := blk_frozen BK146.out 1
              have hfz18_2 := blk_frozen BK146.out 2
              have hfz18_3 := blk_frozen BK146.out 3
              have hfz18_4 := blk_frozen BK146.out 4
              go_wp2_with (first | (go_at_call 54; (with_reducible refine (spec_l19Word.calls kj1 a0_3 t150 _ A17.out).mono ?_); rintro e w' ⟨rfl, ⟨nd, rfl⟩⟩))
              go_ret
              exact ⟨by first | rfl | (simp [errW_none, errW_some] <;> rfl) | (simp [*, errW_none, errW_some] <;> rfl), by repeat (first | (with_reducible first | exact HB.out | apply below_alloc | apply pw_below_drewN | apply below_drew1 | refine below_set ?_ GE146.out) | exact HB.out)⟩
            · rw [if_neg c16] at H
              have c16b0 : (a0_2 == 0) = false := beq_eq_false_iff_ne.mpr c16
              have c16b1 : (a0_2 != 0) = true := bne_iff_ne.mpr c16
              obtain rfl := Option.some.inj H
              have hcz19_0 : wc.cell? ⟨gb146, 0, none⟩ = some (.string a0_0) := (blk_cell BK146.out 0).trans rfl
              have hcz19_1 : wc.cell? ⟨gb146, 1, none⟩ = some (.int .i64 a0_1) := (blk_cell BK146.out 1).trans rfl
              have hcz19_2 : wc.cell? ⟨gb146, 2, none⟩ = some (.int .i64 a0_2) := (blk_cell BK146.out 2).trans rfl
              have hcz19_3 : wc.cell? ⟨gb146, 3, none⟩ = some (.string a0_3) := (blk_cell BK146.out 3).trans rfl
              have hcz19_4 : wc.cell? ⟨gb146, 4, none⟩ = some (.int .i64 a0_4) := (blk_cell BK146.out 4).trans rfl
              have hfz19_0 := blk_frozen BK146.out 0
              have hfz19_1 := blk_frozen BK146.out 1
              have hfz19_2 := blk_frozen BK146.out 2
              have hfz19_3 := blk_frozen BK146.out 3
              have hfz19_4 := blk_frozen BK146.out 4
              go_wp2
              go_ret
              exact ⟨by first | rfl | (simp [errW_none, errW_some] <;> rfl) | (simp [*, errW_none, errW_some] <;> rfl), by repeat (first | (with_reducible first | exact HB.out | apply below_alloc | apply pw_below_drewN | apply below_drew1 | refine below_set ?_ GE146.out) | exact HB.out)⟩
          · rw [if_neg c15] at H
            have c15b0 : (a0_1 == 2) = false := beq_eq_false_iff_ne.mpr c15
            have c15b1 : (a0_1 != 2) = true := bne_iff_ne.mpr c15
            by_cases c20 : a0_1 = 0
            · rw [if_pos c20] at H
              have c20b0 : (a0_1 == 0) = true := beq_iff_eq.mpr c20
              have c20b1 : (a0_1 != 0) = false := bne_eq_false_iff_eq.mpr c20
              clear c20
              by_cases c21 : a0_2 = 0
              · rw [if_pos c21] at H
                have c21b0 : (a0_2 == 0) = true := beq_iff_eq.mpr c21
                have c21b1 : (a0_2 != 0) = false := bne_eq_false_iff_eq.mpr c21
                clear c21
                obtain rfl := Option.some.inj H
                have hcz22_0 : wc.cell? ⟨gb146, 0, none⟩ = some (.string a0_0) := (blk_cell BK146.out 0).trans rfl
                have hcz22_1 : wc.cell? ⟨gb146, 1, none⟩ = some (.int .i64 a0_1) := (blk_cell BK146.out 1).trans rfl
                have hcz22_2 : wc.cell? ⟨gb146, 2, none⟩ = some (.int .i64 a0_2) := (blk_cell BK146.out 2).trans rfl
                have hcz22_3 : wc.cell? ⟨gb146, 3, none⟩ = some (.string a0_3) := (blk_cell BK146.out 3).trans rfl
                have hcz22_4 : wc.cell? ⟨gb146, 4, none⟩ = some (.int .i64 a0_4) := (blk_cell BK146.out 4).trans rfl
                have hfz22_0 := blk_frozen BK146.out 0
                have hfz22_1 := blk_frozen BK146.out 1
                have hfz22_2 := blk_frozen BK146.out 2
                have hfz22_3 := blk_frozen BK146.out 3
                have hfz22_4 := blk_frozen BK146.out 4
                go_wp2
                go_ret
                exact ⟨by first | rfl | (simp [errW_none, errW_some] <;> rfl) | (simp [*, errW_none, errW_some] <;> rfl), by repeat (first | (with_reducible first | exact HB.out | apply below_alloc | apply pw_below_drewN | apply below_drew1 | refine below_set ?_ GE146.out) | exact HB.out)⟩
              · rw [if_neg c21] at H
                have c21b0 : (a0_2 == 0) = false := beq_eq_false_iff_ne.mpr c21
                have c21b1 : (a0_2 != 0) = true := bne_iff_ne.mpr c21
                obtain rfl := Option.some.inj H
                have hcz23_0 : wc.cell? ⟨gb146, 0, none⟩ = some (.string a0_0) := (blk_cell BK146.out 0).trans rfl
                have hcz23_1 : wc.cell? ⟨gb146, 1, none⟩ = some (.int .i64 a0_1) := (blk_cell BK146.out 1).trans rfl
                have hcz23_2 : wc.cell? ⟨gb146, 2, none⟩ = some (.int .i64 a0_2) := (blk_cell BK146.out 2).trans rfl
                have hcz23_3 : wc.cell? ⟨gb146, 3, none⟩ = some (.string a0_3) := (blk_cell BK146.out 3).trans rfl
                have hcz23_4 : wc.cell? ⟨gb146, 4, none⟩ = some (.int .i64 a0_4) := (blk_cell BK146.out 4).trans rfl
                have hfz23_0 := blk_frozen BK146.out 0
                have hfz23_1 := blk_frozen BK146.out 1
                have hfz23_2 := blk_frozen BK146.out 2
                have hfz23_3 := blk_frozen BK146.out 3
                have hfz23_4 := blk_frozen BK146.out 4
                go_wp2
                go_ret
                exact ⟨by first | rfl | (simp [errW_none, errW_some] <;> rfl) | (simp [*, errW_none, errW_some] <;> rfl), by repeat (first | (with_reducible first | exact HB.out | apply below_alloc | apply pw_below_drewN | apply below_drew1 | refine below_set ?_ GE146.out) | exact HB.out)⟩
            · rw [if_neg c20] at H
              have c20b0 : (a0_1 == 0) = false := beq_eq_false_iff_ne.mpr c20
              have c20b1 : (a0_1 != 0) = true := bne_iff_ne.mpr c20
              obtain rfl := Option.some.inj H
              have hcz24_0 : wc.cell? ⟨gb146, 0, none⟩ = some (.string a0_0) := (blk_cell BK146.out 0).trans rfl
              have hcz24_1 : wc.cell? ⟨gb146, 1, none⟩ = some (.int .i64 a0_1) := (blk_cell BK146.out 1).trans rfl
              have hcz24_2 : wc.cell? ⟨gb146, 2, none⟩ = some (.int .i64 a0_2) := (blk_cell BK146.out 2).trans rfl
              have hcz24_3 : wc.cell? ⟨gb146, 3, none⟩ = some (.string a0_3) := (blk_cell BK146.out 3).trans rfl
              have hcz24_4 : wc.cell? ⟨gb146, 4, none⟩ = some (.int .i64 a0_4) := (blk_cell BK146.out 4).trans rfl
              have hfz24_0 := blk_frozen BK146.out 0
              have hfz24_1 := blk_frozen BK146.out 1
              have hfz24_2 := blk_frozen BK146.out 2
              have hfz24_3 := blk_frozen BK146.out 3
              have hfz24_4 := blk_frozen BK146.out 4
              go_wp2
              go_ret
              exact ⟨by first | rfl | (simp [errW_none, errW_some] <;> rfl) | (simp [*, errW_none, errW_some] <;> rfl), by repeat (first | (with_reducible first | exact HB.out | apply below_alloc | apply pw_below_drewN | apply below_drew1 | refine below_set ?_ GE146.out) | exact HB.out)⟩

end Go.Proofs.Ytmgnmgobibpjjaa.GFnNameFind
