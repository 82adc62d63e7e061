/- What the Go functions that FnNameFind reaches come to, walked step by step; there is no condition beyond those each statement names. -/
import Derived.Test.YtmgnmgobibpjjaaGFnNameFindx0
import Derived.Test.YtmgnmgobibpjjaaGFnNameFindx1
import Derived.Test.YtmgnmgobibpjjaaGFnNameFindx2
import Derived.Test.YtmgnmgobibpjjaaGFnNameFindx3
import Derived.Test.YtmgnmgobibpjjaaGFnNameFindx4
namespace Go.Proofs.Ytmgnmgobibpjjaa.GFnNameFind
open Go.RowKit Go.Proofs.YtmgnmgobibpjjaaU.PrintWords Go.Proofs.YtmgnmgobibpjjaaU.PrintLast Go.Proofs.YtmgnmgobibpjjaaU.PrintMore
attribute [local go_sem] max2_int min2_int max_two min_two max_three min_three max_four min_four   -- for this text's walks alone
set_option linter.unusedVariables false
set_option linter.unusedSimpArgs false

/-! ### spec_NameAsk: function 30 -/
mutual
def spec_NameAsk.j0 : Nat → List (S26) → ByteArray → Bool → Option (ByteArray × Int × Int × ByteArray × Int × Bool)
  | 0, _, _, _ => none
  | k + 1, x0, x1, x14 => if x14 = true then (some ((⟨#[]⟩ : ByteArray), 0, 0, (⟨#[]⟩ : ByteArray), 0, false)) else (spec_NameAsk.l0 k x0 x1 0)
def spec_NameAsk.l0 : Nat → List (S26) → ByteArray → Int → Option (ByteArray × Int × Int × ByteArray × Int × Bool)
  | 0, _, _, _ => none
  | k + 1, x0, x1, x6 => if x6 < (x0.length : Int) then (if 0 ≤ x6 then (if ((rd_T26 x0 x6).f0).toList = x1.toList then (some ((rd_T26 x0 x6).f0, (rd_T26 x0 x6).f1, (rd_T26 x0 x6).f2, (rd_T26 x0 x6).f3, (rd_T26 x0 x6).f4, true)) else (spec_NameAsk.l0 k x0 x1 (wrap64 (x6 + 1)))) else (none)) else (some (x1, 0, 0, (⟨#[]⟩ : ByteArray), 5, true))
end
def spec_NameAsk.f (k : Nat) (l0 : List (S26)) (a1 : ByteArray) : Option (ByteArray × Int × Int × ByteArray × Int × Bool) := (spec_NamesOk.f k l0).bind fun t157 => (if t157 = true then ((spec_l19Word.f k a1).bind fun t158 => (spec_NameAsk.j0 k l0 a1 (!t158))) else (spec_NameAsk.j0 k l0 a1 true))
theorem spec_NameAsk.mono_l : ∀ k, (∀ y0 y1 y2, LeO (spec_NameAsk.j0 k y0 y1 y2) (spec_NameAsk.j0 (k + 1) y0 y1 y2)) ∧ (∀ y0 y1 y2, LeO (spec_NameAsk.l0 k y0 y1 y2) (spec_NameAsk.l0 (k + 1) y0 y1 y2))
  | 0 => ⟨fun _ _ _ r h => by simp [spec_NameAsk.j0] at h, fun _ _ _ r h => by simp [spec_NameAsk.l0] at h⟩
  | k + 1 => by
    obtain ⟨ih0, ih1⟩ := spec_NameAsk.mono_l k
    refine ⟨?_, ?_⟩
    · intro y0 y1 y2
      unfold spec_NameAsk.j0
      repeat' first
      | (with_reducible exact ih0 _ _ _)
      | (with_reducible exact ih1 _ _ _)
      | (with_reducible exact spec_NamesOk.mono _ _)
      | (with_reducible exact spec_l19Word.mono _ _)
      | (with_reducible exact LeO.refl _)
      | (with_reducible exact LeO.none _)
      | (with_reducible refine LeO.ite ?_ ?_)
      | (with_reducible refine LeO.bind ?_ (fun _ => ?_))
      | exact ih0 _ _ _
      | exact ih1 _ _ _
      | exact spec_NamesOk.mono _ _
      | exact spec_l19Word.mono _ _
      | exact LeO.none _
      | refine LeO.ite ?_ ?_
      | refine LeO.bind ?_ (fun _ => ?_)
    · intro y0 y1 y2
      unfold spec_NameAsk.l0
      repeat' first
      | (with_reducible exact ih0 _ _ _)
      | (with_reducible exact ih1 _ _ _)
      | (with_reducible exact spec_NamesOk.mono _ _)
      | (with_reducible exact spec_l19Word.mono _ _)
      | (with_reducible exact LeO.refl _)
      | (with_reducible exact LeO.none _)
      | (with_reducible refine LeO.ite ?_ ?_)
      | (with_reducible refine LeO.bind ?_ (fun _ => ?_))
      | exact ih0 _ _ _
      | exact ih1 _ _ _
      | exact spec_NamesOk.mono _ _
      | exact spec_l19Word.mono _ _
      | exact LeO.none _
      | refine LeO.ite ?_ ?_
      | refine LeO.bind ?_ (fun _ => ?_)
theorem spec_NameAsk.mono : ∀ a0 a1 k, LeO (spec_NameAsk.f k a0 a1) (spec_NameAsk.f (k + 1) a0 a1) := by
  intro a0 a1 k
  obtain ⟨ih0, ih1⟩ := spec_NameAsk.mono_l k
  unfold spec_NameAsk.f
  repeat' first
      | (with_reducible exact ih0 _ _ _)
      | (with_reducible exact ih1 _ _ _)
      | (with_reducible exact spec_NamesOk.mono _ _)
      | (with_reducible exact spec_l19Word.mono _ _)
      | (with_reducible exact LeO.refl _)
      | (with_reducible exact LeO.none _)
      | (with_reducible refine LeO.ite ?_ ?_)
      | (with_reducible refine LeO.bind ?_ (fun _ => ?_))
      | exact ih0 _ _ _
      | exact ih1 _ _ _
      | exact spec_NamesOk.mono _ _
      | exact spec_l19Word.mono _ _
      | exact LeO.none _
      | refine LeO.ite ?_ ?_
      | refine LeO.bind ?_ (fun _ => ?_)
set_option maxHeartbeats 8000000 in
set_option maxRecDepth 100000 in
theorem spec_NameAsk.calls (k : Nat) (A0 : Option Addr) (c0 : Nat) (l0 : List (S26)) (a1 : ByteArray) (r1 : ByteArray) (r2 : Int) (r3 : Int) (r4 : ByteArray) (r5 : Int) (r6 : Bool) (w : World) (hr0 : Kd.C k26 w A0 l0.length l0) (hc0 : l0.length ≤ c0) (h : spec_NameAsk.f k l0 a1 = some (r1, r2, r3, r4, r5, r6)) :
    Calls Try.prog 30 #[.slice A0 l0.length c0, .string a1] w fun e w' => e = .returned (.tuple #[.agg #[.string r1, .int .i64 r2, .int .i64 r3, .string r4, .int .i64 r5], .bool r6]) ∧ Below w.heap.size w w' := by
  have hu26 := Try.underlying26
  have HR0 := Aside0.mk hr0
  have HC0 := Aside0.mk hc0
  clear hr0 hc0
  have HB := Aside0.mk (Below.refl w.heap.size w)
  have H : ((spec_NamesOk.f k l0).bind fun t157 => (if t157 = true then ((spec_l19Word.f k a1).bind fun t158 => (spec_NameAsk.j0 k l0 a1 (!t158))) else (spec_NameAsk.j0 k l0 a1 true))) = some (r1, r2, r3, r4, r5, r6) := h
  clear h
  have HC3 := Aside0.mk H
  clear H
  go_enter Try.func30, Try.ntmps30
  go_upto_region 1 with (first | ((with_reducible refine gate_dst (N := 4) rfl ?_); refine box_event ?hg (N := 4) ?hd (cs := #[.string (⟨#[]⟩ : ByteArray), .int .i64 0, .int .i64 0, .string (⟨#[]⟩ : ByteArray), .int .i64 0]) (t := 26) ?hr ?_; (case hd => rfl); (case hg => rfl); (case hr => exact z_6); intro gb156 hg w4 hbox hb; have n0_ := Aside0.mk (below_step (z_5) hb); have n1_ := Aside0.mk (hbox); have n2_ := Aside0.mk ((z_15 : w.heap.size ≤ gb156)); have n3_ := Aside0.mk ((z_15 : w.heap.size ≤ gb156)); clear HB; have HB := n0_; have BK156 := n1_; have GW156 := n2_; have GE156 := n3_; clear n0_ n1_ n2_ n3_; clear hb hbox hg))
  (try simp only [Act.put, List.setIfInBounds_toArray, List.set_cons_zero, List.set_cons_succ])
  go_cut [14] (fun v14 wc => ∃ (kq : Nat) (x14_2 : Bool), v14 = .bool x14_2 ∧ Aside0 (spec_NameAsk.j0 kq l0 a1 x14_2 = some (r1, r2, r3, r4, r5, r6)) ∧ Aside0 (kq ≤ k) ∧ Aside0 (wc.heap[gb156]? = some (.cells #[.string (⟨#[]⟩ : ByteArray), .int .i64 0, .int .i64 0, .string (⟨#[]⟩ : ByteArray), .int .i64 0] 26 (0, 0))) ∧ Aside0 (Below w.heap.size w wc))
  case first =>
    have H := HC3.out
    clear HC3
    replace H := Option.bind_eq_some_iff.mp H
    obtain ⟨t157, A50, H⟩ := H
    have A5 := Aside0.mk A50
    clear A50
    by_cases c6 : t157 = true
    · subst c6
      rw [if_pos rfl] at H
      replace H := Option.bind_eq_some_iff.mp H
      obtain ⟨t158, A70, H⟩ := H
      have A7 := Aside0.mk A70
      clear A70
      have H' := Aside0.mk H
      clear H
      go_wp2_with (first | ((with_reducible refine gate_callee (f := 25) rfl ?_); refine goesL_ (some 8) rfl rfl Try.func25 (z_0) rfl #[.slice A0 l0.length c0] rfl (z_11) ?_; (with_reducible refine (spec_NamesOk.calls k _ _ l0 true _ ?side1 ?side2 A5.out).mono ?_); (case side1 => exact z_23); (case side2 => exact HC0.out); rintro e w8 ⟨rfl, hb⟩; refine ⟨_, rfl, ?_⟩; have n0_ := Aside0.mk (blk_below (g := gb156) (o := .cells #[.string (⟨#[]⟩ : ByteArray), .int .i64 0, .int .i64 0, .string (⟨#[]⟩ : ByteArray), .int .i64 0] 26 (0, 0)) (z_24) hb); have n1_ := Aside0.mk (below_step (z_25) hb); clear BK156; clear HB; have BK156 := n0_; have HB := n1_; clear n0_ n1_; (try clear hb); (try clear hb2); (try clear hk); (try clear hi)) | (go_at_call 54; (with_reducible refine (spec_l19Word.calls k a1 t158 _ A7.out).mono ?_); rintro e w' ⟨rfl, ⟨nd, rfl⟩⟩))
      go_meet
      case rel => exact ⟨_, (!t158), (z_1), H', ⟨z_18⟩, ⟨z_24⟩, ⟨z_25⟩⟩
    · replace c6 := Bool.eq_false_iff.mpr c6
      subst c6
      rw [if_neg (show ¬ (false = true) by decide)] at H
      have H' := Aside0.mk H
      clear H
      go_wp2_with (first | ((with_reducible refine gate_callee (f := 25) rfl ?_); refine goesL_ (some 8) rfl rfl Try.func25 (z_0) rfl #[.slice A0 l0.length c0] rfl (z_11) ?_; (with_reducible refine (spec_NamesOk.calls k _ _ l0 false _ ?side1 ?side2 A5.out).mono ?_); (case side1 => exact z_23); (case side2 => exact HC0.out); rintro e w9 ⟨rfl, hb⟩; refine ⟨_, rfl, ?_⟩; have n0_ := Aside0.mk (blk_below (g := gb156) (o := .cells #[.string (⟨#[]⟩ : ByteArray), .int .i64 0, .int .i64 0, .string (⟨#[]⟩ : ByteArray), .int .i64 0] 26 (0, 0)) (z_24) hb); have n1_ := Aside0.mk (below_step (z_25) hb); clear BK156; clear HB; have BK156 := n0_; have HB := n1_; clear n0_ n1_; (try clear hb); (try clear hb2); (try clear hk); (try clear hi)))
      go_meet
      case rel => exact ⟨_, (true), (z_1), H', ⟨z_18⟩, ⟨z_24⟩, ⟨z_25⟩⟩
  case rest =>
    clear HC3
    try clear c2
    try clear p2
    try clear c3
    try clear c6
    obtain ⟨kq, x14_2, rfl, HA, HJ2, BK156, HB⟩ := hcut
    cases kq with
    | zero => exact absurd HA.out (by simp [spec_NameAsk.j0])
    | succ kj2 =>
      have H := HA.out
      clear HA
      simp only [spec_NameAsk.j0] at H
      by_cases c10 : x14_2 = true
      · subst c10
        rw [if_pos rfl] at H
        simp only [Option.some.injEq, Prod.mk.injEq] at H
        obtain ⟨rfl, rfl, rfl, rfl, rfl, rfl⟩ := H
        have hcz11_0 : wc.cell? ⟨gb156, 0, none⟩ = some (.string (⟨#[]⟩ : ByteArray)) := (blk_cell BK156.out 0).trans rfl
        have hcz11_1 : wc.cell? ⟨gb156, 1, none⟩ = some (.int .i64 0) := (blk_cell BK156.out 1).trans rfl
        have hcz11_2 : wc.cell? ⟨gb156, 2, none⟩ = some (.int .i64 0) := (blk_cell BK156.out 2).trans rfl
        have hcz11_3 : wc.cell? ⟨gb156, 3, none⟩ = some (.string (⟨#[]⟩ : ByteArray)) := (blk_cell BK156.out 3).trans rfl
        have hcz11_4 : wc.cell? ⟨gb156, 4, none⟩ = some (.int .i64 0) := (blk_cell BK156.out 4).trans rfl
        have hfz11_0 := blk_frozen BK156.out 0
        have hfz11_1 := blk_frozen BK156.out 1
        have hfz11_2 := blk_frozen BK156.out 2
        have hfz11_3 := blk_frozen BK156.out 3
        have hfz11_4 := blk_frozen BK156.out 4
        go_wp2
        refine bodyPost_ret (results_ct rfl _ _ gb156 26 #[.string (⟨#[]⟩ : ByteArray), .int .i64 0, .int .i64 0, .string (⟨#[]⟩ : ByteArray), .int .i64 0] (0, 0) _ rfl (by (with_reducible repeat (first | refine blk_drewN ?_ _ | refine blk_drew ?_ | refine blk_alloc ?_ _)); refine blk_put (cs := #[.string (⟨#[]⟩ : ByteArray), .int .i64 0, .int .i64 0, .string (⟨#[]⟩ : ByteArray), .int .i64 0]) ?_ 4 _ rfl; (with_reducible repeat (first | refine blk_drewN ?_ _ | refine blk_drew ?_ | refine blk_alloc ?_ _)); refine blk_put (cs := #[.string (⟨#[]⟩ : ByteArray), .int .i64 0, .int .i64 0, .string (⟨#[]⟩ : ByteArray), .int .i64 0]) ?_ 3 _ rfl; (with_reducible repeat (first | refine blk_drewN ?_ _ | refine blk_drew ?_ | refine blk_alloc ?_ _)); refine blk_put (cs := #[.string (⟨#[]⟩ : ByteArray), .int .i64 0, .int .i64 0, .string (⟨#[]⟩ : ByteArray), .int .i64 0]) ?_ 2 _ rfl; (with_reducible repeat (first | refine blk_drewN ?_ _ | refine blk_drew ?_ | refine blk_alloc ?_ _)); refine blk_put (cs := #[.string (⟨#[]⟩ : ByteArray), .int .i64 0, .int .i64 0, .string (⟨#[]⟩ : ByteArray), .int .i64 0]) ?_ 1 _ rfl; (with_reducible repeat (first | refine blk_drewN ?_ _ | refine blk_drew ?_ | refine blk_alloc ?_ _)); refine blk_put (cs := #[.string (⟨#[]⟩ : ByteArray), .int .i64 0, .int .i64 0, .string (⟨#[]⟩ : ByteArray), .int .i64 0]) ?_ 0 _ rfl; (with_reducible repeat (first | refine blk_drewN ?_ _ | refine blk_drew ?_ | refine blk_alloc ?_ _)); exact BK156.out) Try.underlying26 rfl (z_0)) rfl ?_
        exact ⟨z_10, z_25⟩
      · replace c10 := Bool.eq_false_iff.mpr c10
        subst c10
        rw [if_neg (show ¬ (false = true) by decide)] at H
        have H' := Aside0.mk H
        clear H
        go_wp2
        go_loopg [6] kj2 (fun kq v6 w' => ∃ (x6_2 : Int) (x157000_2 : ByteArray) (x157001_2 : Int) (x157002_2 : Int) (x157003_2 : ByteArray) (x157004_2 : Int), v6 = .int .i64 x6_2 ∧ Aside0 (spec_NameAsk.l0 kq l0 a1 x6_2 = some (r1, r2, r3, r4, r5, r6)) ∧ Aside0 (kq ≤ kj2) ∧ Aside0 (w'.heap[gb156]? = some (.cells #[.string x157000_2, .int .i64 x157001_2, .int .i64 x157002_2, .string x157003_2, .int .i64 x157004_2] 26 (0, 0))) ∧ Aside0 (Below w.heap.size w w'))
        case atStart => exact ⟨(0), ((⟨#[]⟩ : ByteArray)), (0), (0), ((⟨#[]⟩ : ByteArray)), (0), (z_1), H', ⟨Nat.le_refl _⟩, ⟨z_24⟩, ⟨z_25⟩⟩
        case round =>
          clear H'
          try clear c1
          try clear c2
          try clear p2
          try clear c3
          try clear c6
          try clear c10
          try clear hcz11_0
          try clear hcz11_1
          try clear hcz11_2
          try clear hcz11_3
          try clear hcz11_4
          try clear hfz11_0
          try clear hfz11_1
          try clear hfz11_2
          try clear hfz11_3
          try clear hfz11_4
          try clear p2
          obtain ⟨x6_2, x157000_2, x157001_2, x157002_2, x157003_2, x157004_2, rfl, HA, HK2, BK156, HB⟩ := hrel
          cases gk with
          | zero => exact absurd HA.out (by simp [spec_NameAsk.l0])
          | succ k2 =>
            have H := HA.out
            clear HA
            simp only [spec_NameAsk.l0] at H
            by_cases c12 : x6_2 < (l0.length : Int)
            · rw [if_pos c12] at H
              have c12b0 : decide (x6_2 < (l0.length : Int)) = true := decide_eq_true c12
              clear c12
              by_cases c13 : 0 ≤ x6_2
              · rw [if_pos c13] at H
                have c13b0 : decide (0 ≤ x6_2) = true := decide_eq_true c13
                clear c13
                by_cases c14 : ((rd_T26 l0 x6_2).f0).toList = a1.toList
                · rw [if_pos c14] at H
                  have c14b0 : (((rd_T26 l0 x6_2).f0).toList == a1.toList) = true := beq_iff_eq.mpr c14
                  have c14b1 : (((rd_T26 l0 x6_2).f0).toList != a1.toList) = false := bne_eq_false_iff_eq.mpr c14
                  clear c14
                  simp only [Option.some.injEq, Prod.mk.injEq] at H
                  obtain ⟨rfl, rfl, rfl, rfl, rfl, rfl⟩ := H
                  have p159 : 0 ≤ (x6_2 : Int) := of_decide_eq_true (z_4)
                  have q159 : x6_2 < (l0.length : Int) := of_decide_eq_true (z_4)
                  obtain ⟨ad159, e159, hx159_0, hx159_1, hx159_2, hx159_3, hx159_4⟩ := at_T26 HR0.out x6_2 p159 q159
                  cases e159
                  replace hx159_0 := (HB.out.cell (World.block_lt_of_cell? w _ hx159_0)).trans hx159_0
                  replace hx159_1 := (HB.out.cell (World.block_lt_of_cell? w _ hx159_1)).trans hx159_1
                  replace hx159_2 := (HB.out.cell (World.block_lt_of_cell? w _ hx159_2)).trans hx159_2
                  replace hx159_3 := (HB.out.cell (World.block_lt_of_cell? w _ hx159_3)).trans hx159_3
                  replace hx159_4 := (HB.out.cell (World.block_lt_of_cell? w _ hx159_4)).trans hx159_4
                  replace p159 := eq_true p159
                  replace q159 := eq_true q159
                  have p160 : 0 ≤ (x6_2 : Int) := of_decide_eq_true (z_4)
                  have q160 : x6_2 < (l0.length : Int) := of_decide_eq_true (z_4)
                  obtain ⟨ad160, e160, hx160_0, hx160_1, hx160_2, hx160_3, hx160_4⟩ := at_T26 HR0.out x6_2 p160 q160
                  obtain rfl : ad159 = ad160 := (by injection e160)
                  replace hx160_0 := (HB.out.cell (World.block_lt_of_cell? w _ hx160_0)).trans hx160_0
                  replace hx160_1 := (HB.out.cell (World.block_lt_of_cell? w _ hx160_1)).trans hx160_1
                  replace hx160_2 := (HB.out.cell (World.block_lt_of_cell? w _ hx160_2)).trans hx160_2
                  replace hx160_3 := (HB.out.cell (World.block_lt_of_cell? w _ hx160_3)).trans hx160_3
                  replace hx160_4 := (HB.out.cell (World.block_lt_of_cell? w _ hx160_4)).trans hx160_4
                  replace p160 := eq_true p160
                  replace q160 := eq_true q160
                  have hcz15_0 : wr.cell? ⟨gb156, 0, none⟩ = some (.string x157000_2) := (blk_cell BK156.out 0).trans rfl
                  have hcz15_1 : wr.cell? ⟨gb156, 1, none⟩ = some (.int .i64 x157001_2) := (blk_cell BK156.out 1).trans rfl
                  have hcz15_2 : wr.cell? ⟨gb156, 2, none⟩ = some (.int .i64 x157002_2) := (blk_cell BK156.out 2).trans rfl
                  have hcz15_3 : wr.cell? ⟨gb156, 3, none⟩ = some (.string x157003_2) := (blk_cell BK156.out 3).trans rfl
                  have hcz15_4 : wr.cell? ⟨gb156, 4, none⟩ = some (.int .i64 x157004_2) := (blk_cell BK156.out 4).trans rfl
                  have hfz15_0 := blk_frozen BK156.out 0
                  have hfz15_1 := blk_frozen BK156.out 1
                  have hfz15_2 := blk_frozen BK156.out 2
                  have hfz15_3 := blk_frozen BK156.out 3
                  have hfz15_4 := blk_frozen BK156.out 4
                  go_wp2
                  refine bodyPost_ret (results_ct rfl _ _ gb156 26 #[.string ((rd_T26 l0 x6_2).f0), .int .i64 ((rd_T26 l0 x6_2).f1), .int .i64 ((rd_T26 l0 x6_2).f2), .string ((rd_T26 l0 x6_2).f3), .int .i64 ((rd_T26 l0 x6_2).f4)] (0, 0) _ rfl (by (with_reducible repeat (first | refine blk_drewN ?_ _ | refine blk_drew ?_ | refine blk_alloc ?_ _)); refine blk_put (cs := #[.string ((rd_T26 l0 x6_2).f0), .int .i64 ((rd_T26 l0 x6_2).f1), .int .i64 ((rd_T26 l0 x6_2).f2), .string ((rd_T26 l0 x6_2).f3), .int .i64 x157004_2]) ?_ 4 _ rfl; (with_reducible repeat (first | refine blk_drewN ?_ _ | refine blk_drew ?_ | refine blk_alloc ?_ _)); refine blk_put (cs := #[.string ((rd_T26 l0 x6_2).f0), .int .i64 ((rd_T26 l0 x6_2).f1), .int .i64 ((rd_T26 l0 x6_2).f2), .string x157003_2, .int .i64 x157004_2]) ?_ 3 _ rfl; (with_reducible repeat (first | refine blk_drewN ?_ _ | refine blk_drew ?_ | refine blk_alloc ?_ _)); refine blk_put (cs := #[.string ((rd_T26 l0 x6_2).f0), .int .i64 ((rd_T26 l0 x6_2).f1), .int .i64 x157002_2, .string x157003_2, .int .i64 x157004_2]) ?_ 2 _ rfl; (with_reducible repeat (first | refine blk_drewN ?_ _ | refine blk_drew ?_ | refine blk_alloc ?_ _)); refine blk_put (cs := #[.string ((rd_T26 l0 x6_2).f0), .int .i64 x157001_2, .int .i64 x157002_2, .string x157003_2, .int .i64 x157004_2]) ?_ 1 _ rfl; (with_reducible repeat (first | refine blk_drewN ?_ _ | refine blk_drew ?_ | refine blk_alloc ?_ _)); refine blk_put (cs := #[.string x157000_2, .int .i64 x157001_2, .int .i64 x157002_2, .string x157003_2, .int .i64 x157004_2]) ?_ 0 _ rfl; (with_reducible repeat (first | refine blk_drewN ?_ _ | refine blk_drew ?_ | refine blk_alloc ?_ _)); exact BK156.out) Try.underlying26 rfl (z_0)) rfl ?_
                  exact ⟨z_10, z_25⟩
                · rw [if_neg c14] at H
                  have c14b0 : (((rd_T26 l0 x6_2).f0).toList == a1.toList) = false := beq_eq_false_iff_ne.mpr c14
                  have c14b1 : (((rd_T26 l0 x6_2).f0).toList != a1.toList) = true := bne_iff_ne.mpr c14
                  have H' := Aside0.mk H
                  clear H
                  have p159 : 0 ≤ (x6_2 : Int) := of_decide_eq_true (z_4)
                  have q159 : x6_2 < (l0.length : Int) := of_decide_eq_true (z_4)
                  obtain ⟨ad159, e159, hx159_0, hx159_1, hx159_2, hx159_3, hx159_4⟩ := at_T26 HR0.out x6_2 p159 q159
                  cases e159
                  replace hx159_0 := (HB.out.cell (World.block_lt_of_cell? w _ hx159_0)).trans hx159_0
                  replace hx159_1 := (HB.out.cell (World.block_lt_of_cell? w _ hx159_1)).trans hx159_1
                  replace hx159_2 := (HB.out.cell (World.block_lt_of_cell? w _ hx159_2)).trans hx159_2
                  replace hx159_3 := (HB.out.cell (World.block_lt_of_cell? w _ hx159_3)).trans hx159_3
                  replace hx159_4 := (HB.out.cell (World.block_lt_of_cell? w _ hx159_4)).trans hx159_4
                  replace p159 := eq_true p159
                  replace q159 := eq_true q159
                  go_wp2
                  go_roundg k2
                  case measure => have := HJ2.out; have := HK2.out; omega
                  case rel => exact ⟨(wrap64 (x6_2 + 1)), (x157000_2), (x157001_2), (x157002_2), (x157003_2), (x157004_2), (z_1), H', ⟨by have := HJ2.out; have := HK2.out; omega⟩, ⟨z_24⟩, ⟨z_25⟩⟩
              · rw [if_neg c13] at H
                exact absurd H (z_9)
            · rw [if_neg c12] at H
              have c12b0 : decide (x6_2 < (l0.length : Int)) = false := decide_eq_false c12
              clear c12
              simp only [Option.some.injEq, Prod.mk.injEq] at H
              obtain ⟨rfl, rfl, rfl, rfl, rfl, rfl⟩ := H
              have hcz16_0 : wr.cell? ⟨gb156, 0, none⟩ = some (.string x157000_2) := (blk_cell BK156.out 0).trans rfl
              have hcz16_1 : wr.cell? ⟨gb156, 1, none⟩ = some (.int .i64 x157001_2) := (blk_cell BK156.out 1).trans rfl
              have hcz16_2 : wr.cell? ⟨gb156, 2, none⟩ = some (.int .i64 x157002_2) := (blk_cell BK156.out 2).trans rfl
              have hcz16_3 : wr.cell? ⟨gb156, 3, none⟩ = some (.string x157003_2) := (blk_cell BK156.out 3).trans rfl
              have hcz16_4 : wr.cell? ⟨gb156, 4, none⟩ = some (.int .i64 x157004_2) := (blk_cell BK156.out 4).trans rfl
              have hfz16_0 := blk_frozen BK156.out 0
              have hfz16_1 := blk_frozen BK156.out 1
              have hfz16_2 := blk_frozen BK156.out 2
              have hfz16_3 := blk_frozen BK156.out 3
              have hfz16_4 := blk_frozen BK156.out 4
              go_wp2
              refine bodyPost_ret (results_ct rfl _ _ gb156 26 #[.string a1, .int .i64 0, .int .i64 0, .string (⟨#[]⟩ : ByteArray), .int .i64 5] (0, 0) _ rfl (by (with_reducible repeat (first | refine blk_drewN ?_ _ | refine blk_drew ?_ | refine blk_alloc ?_ _)); refine blk_put (cs := #[.string a1, .int .i64 0, .int .i64 0, .string (⟨#[]⟩ : ByteArray), .int .i64 x157004_2]) ?_ 4 _ rfl; (with_reducible repeat (first | refine blk_drewN ?_ _ | refine blk_drew ?_ | refine blk_alloc ?_ _)); refine blk_put (cs := #[.string a1, .int .i64 0, .int .i64 0, .string x157003_2, .int .i64 x157004_2]) ?_ 3 _ rfl; (with_reducible repeat (first | refine blk_drewN ?_ _ | refine blk_drew ?_ | refine blk_alloc ?_ _)); refine blk_put (cs := #[.string a1, .int .i64 0, .int .i64 x157002_2, .string x157003_2, .int .i64 x157004_2]) ?_ 2 _ rfl; (with_reducible repeat (first | refine blk_drewN ?_ _ | refine blk_drew ?_ | refine blk_alloc ?_ _)); refine blk_put (cs := #[.string a1, .int .i64 x157001_2, .int .i64 x157002_2, .string x157003_2, .int .i64 x157004_2]) ?_ 1 _ rfl; (with_reducible repeat (first | refine blk_drewN ?_ _ | refine blk_drew ?_ | refine blk_alloc ?_ _)); refine blk_put (cs := #[.string x157000_2, .int .i64 x157001_2, .int .i64 x157002_2, .string x157003_2, .int .i64 x157004_2]) ?_ 0 _ rfl; (with_reducible repeat (first | refine blk_drewN ?_ _ | refine blk_drew ?_ | refine blk_alloc ?_ _)); exact BK156.out) Try.underlying26 rfl (z_0)) rfl ?_
              exact ⟨z_10, z_25⟩

/-! ### spec_NameFind: function 39 -/
mutual
def spec_NameFind.l0 : Nat → List (S26) → ByteArray → Int → Option (Int × Bool)
  | 0, _, _, _ => none
  | k + 1, x0, x1, x6 => if x6 ≤ 4 then ((spec_NameAsk.f k x0 x1).bind fun bt161 => (if bt161.2.2.2.2.2 = true then (spec_NameFind.j1 k x0 x6 (bt161.2.1 == 0) bt161.1 bt161.2.1 bt161.2.2.1 bt161.2.2.2.1 bt161.2.2.2.2.1) else (spec_NameFind.j1 k x0 x6 true bt161.1 bt161.2.1 bt161.2.2.1 bt161.2.2.2.1 bt161.2.2.2.2.1))) else (some (0, false))
def spec_NameFind.j1 : Nat → List (S26) → Int → Bool → ByteArray → Int → Int → ByteArray → Int → Option (Int × Bool)
  | 0, _, _, _, _, _, _, _, _ => none
  | k + 1, x0, x6, x25, x168000, x168001, x168002, x168003, x168004 => if x25 = true then (some (0, false)) else (if x168001 = 1 then (some (x168002, true)) else (spec_NameFind.l0 k x0 x168003 (wrap64 (x6 + 1))))
end
def spec_NameFind.f (k : Nat) (l0 : List (S26)) (a1 : ByteArray) : Option (Int × Bool) := spec_NameFind.l0 k l0 a1 0
theorem spec_NameFind.mono_l : ∀ k, (∀ y0 y1 y2, LeO (spec_NameFind.l0 k y0 y1 y2) (spec_NameFind.l0 (k + 1) y0 y1 y2)) ∧ (∀ y0 y1 y2 y3 y4 y5 y6 y7, LeO (spec_NameFind.j1 k y0 y1 y2 y3 y4 y5 y6 y7) (spec_NameFind.j1 (k + 1) y0 y1 y2 y3 y4 y5 y6 y7))
  | 0 => ⟨fun _ _ _ r h => by simp [spec_NameFind.l0] at h, fun _ _ _ _ _ _ _ _ r h => by simp [spec_NameFind.j1] at h⟩
  | k + 1 => by
    obtain ⟨ih0, ih1⟩ := spec_NameFind.mono_l k
    refine ⟨?_, ?_⟩
    · intro y0 y1 y2
      unfold spec_NameFind.l0
      repeat' first
      | (with_reducible exact ih0 _ _ _)
      | (with_reducible exact ih1 _ _ _ _ _ _ _ _)
      | (with_reducible exact spec_NameAsk.mono _ _ _)
      | (with_reducible exact LeO.refl _)
      | (with_reducible exact LeO.none _)
      | (with_reducible refine LeO.ite ?_ ?_)
      | (with_reducible refine LeO.bind ?_ (fun _ => ?_))
      | exact ih0 _ _ _
      | exact ih1 _ _ _ _ _ _ _ _
      | exact spec_NameAsk.mono _ _ _
      | exact LeO.none _
      | refine LeO.ite ?_ ?_
      | refine LeO.bind ?_ (fun _ => ?_)
    · intro y0 y1 y2 y3 y4 y5 y6 y7
      unfold spec_NameFind.j1
      repeat' first
      | (with_reducible exact ih0 _ _ _)
      | (with_reducible exact ih1 _ _ _ _ _ _ _ _)
      | (with_reducible exact spec_NameAsk.mono _ _ _)
      | (with_reducible exact LeO.refl _)
      | (with_reducible exact LeO.none _)
      | (with_reducible refine LeO.ite ?_ ?_)
      | (with_reducible refine LeO.bind ?_ (fun _ => ?_))
      | exact ih0 _ _ _
      | exact ih1 _ _ _ _ _ _ _ _
      | exact spec_NameAsk.mono _ _ _
      | exact LeO.none _
      | refine LeO.ite ?_ ?_
      | refine LeO.bind ?_ (fun _ => ?_)
theorem spec_NameFind.mono : ∀ a0 a1 k, LeO (spec_NameFind.f k a0 a1) (spec_NameFind.f (k + 1) a0 a1) := by
  intro a0 a1 k
  obtain ⟨ih0, ih1⟩ := spec_NameFind.mono_l k
  unfold spec_NameFind.f
  repeat' first
      | (with_reducible exact ih0 _ _ _)
      | (with_reducible exact ih1 _ _ _ _ _ _ _ _)
      | (with_reducible exact spec_NameAsk.mono _ _ _)
      | (with_reducible exact LeO.refl _)
      | (with_reducible exact LeO.none _)
      | (with_reducible refine LeO.ite ?_ ?_)
      | (with_reducible refine LeO.bind ?_ (fun _ => ?_))
      | exact ih0 _ _ _
      | exact ih1 _ _ _ _ _ _ _ _
      | exact spec_NameAsk.mono _ _ _
      | exact LeO.none _
      | refine LeO.ite ?_ ?_
      | refine LeO.bind ?_ (fun _ => ?_)
set_option maxHeartbeats 8000000 in
set_option maxRecDepth 100000 in
theorem spec_NameFind.calls (k : Nat) (A0 : Option Addr) (c0 : Nat) (l0 : List (S26)) (a1 : ByteArray) (r1 : Int) (r2 : Bool) (w : World) (hr0 : Kd.C k26 w A0 l0.length l0) (hc0 : l0.length ≤ c0) (h : spec_NameFind.f k l0 a1 = some (r1, r2)) :
    Calls Try.prog 39 #[.slice A0 l0.length c0, .string a1] w fun e w' => e = .returned (.tuple #[.int .i64 r1, .bool r2]) ∧ Below w.heap.size w w' := by
  have hu26 := Try.underlying26
  have HR0 := Aside0.mk hr0
  have HC0 := Aside0.mk hc0
  clear hr0 hc0
  have HB := Aside0.mk (Below.refl w.heap.size w)
  have H : (spec_NameFind.l0 k l0 a1 0) = some (r1, r2) := h
  clear h
  have H' := Aside0.mk H
  clear H
  go_enter Try.func39, Try.ntmps39
  go_wp2
  go_loopg [1, 6] k (fun kq v1 v6 w' => ∃ (x1_1 : ByteArray) (x6_1 : Int), v1 = .string x1_1 ∧ v6 = .int .i64 x6_1 ∧ Aside0 (spec_NameFind.l0 kq l0 x1_1 x6_1 = some (r1, r2)) ∧ Aside0 (kq ≤ k) ∧ Aside0 (Below w.heap.size w w'))
  case atStart => exact ⟨(a1), (0), (z_1), (z_1), H', ⟨Nat.le_refl _⟩, ⟨z_5⟩⟩
  case round =>
    clear H'
    try clear p2
    obtain ⟨x1_1, x6_1, rfl, rfl, HA, HK1, HB⟩ := hrel
    cases gk with
    | zero => exact absurd HA.out (by simp [spec_NameFind.l0])
    | succ k1 =>
      have H := HA.out
      clear HA
      simp only [spec_NameFind.l0] at H
      by_cases c3 : x6_1 ≤ 4
      · rw [if_pos c3] at H
        have c3b0 : decide (x6_1 ≤ 4) = true := decide_eq_true c3
        clear c3
        replace H := Option.bind_eq_some_iff.mp H
        obtain ⟨⟨t161, t162, t163, t164, t165, t166⟩, A40, H⟩ := H
        replace H : (if t166 = true then (spec_NameFind.j1 k1 l0 x6_1 (t162 == 0) t161 t162 t163 t164 t165) else (spec_NameFind.j1 k1 l0 x6_1 true t161 t162 t163 t164 t165)) = some (r1, r2) := H
        have A4 := Aside0.mk A40
        clear A40
        have HC5 := Aside0.mk H
        clear H
        go_upto_region 5 with (first | ((with_reducible refine gate_callee (f := 30) rfl ?_); refine goesL_ (some 16) rfl rfl Try.func30 (z_0) rfl #[.slice A0 l0.length c0, .string x1_1] rfl (z_11) ?_; (with_reducible refine (spec_NameAsk.calls k1 _ _ l0 x1_1 t161 t162 t163 t164 t165 t166 _ ?side1 ?side2 A4.out).mono ?_); (case side1 => exact z_23); (case side2 => exact HC0.out); rintro e w6 ⟨rfl, hb⟩; refine ⟨_, rfl, ?_⟩; have n0_ := Aside0.mk (below_step (z_5) hb); clear HB; have HB := n0_; clear n0_; (try clear hb); (try clear hb2); (try clear hk); (try clear hi)) | ((with_reducible refine gate_dst (N := 7) rfl ?_); refine box_event ?hg (N := 7) ?hd (cs := #[.string (⟨#[]⟩ : ByteArray), .int .i64 0, .int .i64 0, .string (⟨#[]⟩ : ByteArray), .int .i64 0]) (t := 26) ?hr ?_; (case hd => rfl); (case hg => rfl); (case hr => exact z_6); intro gb167 hg w7 hbox hb; have n0_ := Aside0.mk (below_step (z_5) hb); have n1_ := Aside0.mk (hbox); have n2_ := Aside0.mk ((z_15 : w.heap.size ≤ gb167)); have n3_ := Aside0.mk ((z_15 : w.heap.size ≤ gb167)); clear HB; have HB := n0_; have BK167 := n1_; have GW167 := n2_; have GE167 := n3_; clear n0_ n1_ n2_ n3_; clear hb hbox hg; have hcz8_0 : w7.cell? ⟨gb167, 0, none⟩ = some (.string (⟨#[]⟩ : ByteArray)) := (blk_cell BK167.out 0).trans rfl; have hcz8_1 : w7.cell? ⟨gb167, 1, none⟩ = some (.int .i64 0) := (blk_cell BK167.out 1).trans rfl; have hcz8_2 : w7.cell? ⟨gb167, 2, none⟩ = some (.int .i64 0) := (blk_cell BK167.out 2).trans rfl; have hcz8_3 : w7.cell? ⟨gb167, 3, none⟩ = some (.string (⟨#[]⟩ : ByteArray)) := (blk_cell BK167.out 3).trans rfl; have hcz8_4 : w7.cell? ⟨gb167, 4, none⟩ = some (.int .i64 0) := (blk_cell BK167.out 4).trans rfl; have hfz8_0 := blk_frozen BK167.out 0; have hfz8_1 := blk_frozen BK167.out 1; have hfz8_2 := blk_frozen BK167.out 2; have hfz8_3 := blk_frozen BK167.out 3; have hfz8_4 := blk_frozen BK167.out 4))
        (try simp only [Act.put, List.setIfInBounds_toArray, List.set_cons_zero, List.set_cons_succ])
        go_cut [25] (fun v25 wc => ∃ (kq : Nat) (x25_4 : Bool), v25 = .bool x25_4 ∧ Aside0 (spec_NameFind.j1 kq l0 x6_1 x25_4 t161 t162 t163 t164 t165 = some (r1, r2)) ∧ Aside0 (kq ≤ k1) ∧ Aside0 (wc.heap[gb167]? = some (.cells #[.string t161, .int .i64 t162, .int .i64 t163, .string t164, .int .i64 t165] 26 (0, 0))) ∧ Aside0 (Below w.heap.size w wc))
        case first =>
          have H := HC5.out
          clear HC5
          by_cases c9 : t166 = true
          · subst c9
            rw [if_pos rfl] at H
            have H' := Aside0.mk H
            clear H
            have hcz10_0 : w7.cell? ⟨gb167, 0, none⟩ = some (.string (⟨#[]⟩ : ByteArray)) := (blk_cell BK167.out 0).trans rfl
            have hcz10_1 : w7.cell? ⟨gb167, 1, none⟩ = some (.int .i64 0) := (blk_cell BK167.out 1).trans rfl
            have hcz10_2 : w7.cell? ⟨gb167, 2, none⟩ = some (.int .i64 0) := (blk_cell BK167.out 2).trans rfl
            have hcz10_3 : w7.cell? ⟨gb167, 3, none⟩ = some (.string (⟨#[]⟩ : ByteArray)) := (blk_cell BK167.out 3).trans rfl
            have hcz10_4 : w7.cell? ⟨gb167, 4, none⟩ = some (.int .i64 0) := (blk_cell BK167.out 4).trans rfl
            have hfz10_0 := blk_frozen BK167.out 0
            have hfz10_1 := blk_frozen BK167.out 1
            have hfz10_2 := blk_frozen BK167.out 2
            have hfz10_3 := blk_frozen BK167.out 3
            have hfz10_4 := blk_frozen BK167.out 4
            go_wp2
            go_meet
            case rel => exact ⟨_, ((t162 == 0)), (z_1), H', ⟨by have := HK1.out; first | omega | exact Nat.le_refl _⟩, ⟨z_26⟩, ⟨z_27⟩⟩
          · replace c9 := Bool.eq_false_iff.mpr c9
            subst c9
            rw [if_neg (show ¬ (false = true) by decide)] at H
            have H' := Aside0.mk H
            clear H
            go_wp2
            go_meet
            case rel => exact ⟨_, (true), (z_1), H', ⟨by have := HK1.out; first | omega | exact Nat.le_refl _⟩, ⟨z_26⟩, ⟨z_27⟩⟩
        case rest =>
          clear HC5
          try clear p2
          try clear c3
          try clear c3b0
          try clear c9
          try clear hcz10_0
          try clear hcz10_1
          try clear hcz10_2
          try clear hcz10_3
          try clear hcz10_4
          try clear hcz8_0
          try clear hcz8_1
          try clear hcz8_2
          try clear hcz8_3
          try clear hcz8_4
          try clear hfz10_0
          try clear hfz10_1
          try clear hfz10_2
          try clear hfz10_3
          try clear hfz10_4
          try clear hfz8_0
          try clear hfz8_1
          try clear hfz8_2
          try clear hfz8_3
          try clear hfz8_4
          try clear p2
          obtain ⟨kq, x25_4, rfl, HA, HJ4, BK167, HB⟩ := hcut
          cases kq with
          | zero => exact absurd HA.out (by simp [spec_NameFind.j1])
          | succ kj4 =>
            have H := HA.out
            clear HA
            simp only [spec_NameFind.j1] at H
            by_cases c11 : x25_4 = true
            · subst c11
              rw [if_pos rfl] at H
              simp only [Option.some.injEq, Prod.mk.injEq] at H
              obtain ⟨rfl, rfl⟩ := H
              go_wp2
              go_ret2
              exact ⟨z_10, z_27⟩
            · replace c11 := Bool.eq_false_iff.mpr c11
              subst c11
              rw [if_neg (show ¬ (false = true) by decide)] at H
              by_cases c12 : t162 = 1
              · rw [if_pos c12] at H
                have c12b0 : (t162 == 1) = true := beq_iff_eq.mpr c12
                have c12b1 : (t162 != 1) = false := bne_eq_false_iff_eq.mpr c12
                clear c12
                simp only [Option.some.injEq, Prod.mk.injEq] at H
                obtain ⟨rfl, rfl⟩ := H
                have hcz13_0 : wc.cell? ⟨gb167, 0, none⟩ = some (.string t161) := (blk_cell BK167.out 0).trans rfl
                have hcz13_1 : wc.cell? ⟨gb167, 1, none⟩ = some (.int .i64 t162) := (blk_cell BK167.out 1).trans rfl
                have hcz13_2 : wc.cell? ⟨gb167, 2, none⟩ = some (.int .i64 t163) := (blk_cell BK167.out 2).trans rfl
                have hcz13_3 : wc.cell? ⟨gb167, 3, none⟩ = some (.string t164) := (blk_cell BK167.out 3).trans rfl
                have hcz13_4 : wc.cell? ⟨gb167, 4, none⟩ = some (.int .i64 t165) := (blk_cell BK167.out 4).trans rfl
                have hfz13_0 := blk_frozen BK167.out 0
                have hfz13_1 := blk_frozen BK167.out 1
                have hfz13_2 := blk_frozen BK167.out 2
                have hfz13_3 := blk_frozen BK167.out 3
                have hfz13_4 := blk_frozen BK167.out 4
                go_wp2
                go_ret2
                exact ⟨z_10, z_27⟩
              · rw [if_neg c12] at H
                have c12b0 : (t162 == 1) = false := beq_eq_false_iff_ne.mpr c12
                have c12b1 : (t162 != 1) = true := bne_iff_ne.mpr c12
                have H' := Aside0.mk H
                clear H
                have hcz14_0 : wc.cell? ⟨gb167, 0, none⟩ = some (.string t161) := (blk_cell BK167.out 0).trans rfl
                have hcz14_1 : wc.cell? ⟨gb167, 1, none⟩ = some (.int .i64 t162) := (blk_cell BK167.out 1).trans rfl
                have hcz14_2 : wc.cell? ⟨gb167, 2, none⟩ = some (.int .i64 t163) := (blk_cell BK167.out 2).trans rfl
                have hcz14_3 : wc.cell? ⟨gb167, 3, none⟩ = some (.string t164) := (blk_cell BK167.out 3).trans rfl
                have hcz14_4 : wc.cell? ⟨gb167, 4, none⟩ = some (.int .i64 t165) := (blk_cell BK167.out 4).trans rfl
                have hfz14_0 := blk_frozen BK167.out 0
                have hfz14_1 := blk_frozen BK167.out 1
                have hfz14_2 := blk_frozen BK167.out 2
                have hfz14_3 := blk_frozen BK167.out 3
                have hfz14_4 := blk_frozen BK167.out 4
                go_wp2
                go_roundg kj4
                case measure => have := HK1.out; have := HJ4.out; omega
                case rel => exact ⟨(t164), (wrap64 (x6_1 + 1)), (z_1), (z_1), H', ⟨by have := HK1.out; have := HJ4.out; omega⟩, ⟨z_27⟩⟩
      · rw [if_neg c3] at H
        have c3b0 : decide (x6_1 ≤ 4) = false := decide_eq_false c3
        clear c3
        simp only [Option.some.injEq, Prod.mk.injEq] at H
        obtain ⟨rfl, rfl⟩ := H
        go_wp2
        go_ret2
        exact ⟨z_10, z_5⟩

-- NOT PRINTED: function 70 (impl_follow)

/-! ### impl_NameFind: function 40 -/
mutual
def impl_NameFind.j0 : Nat → List (S26) → ByteArray → Bool → Option (Int × Bool)
  | 0, _, _, _ => none
  | k + 1, x0, x1, x15 => if x15 = true then (some (0, false)) else (impl_NameFind.l0 k x0 x1 0)
def impl_NameFind.l0 : Nat → List (S26) → ByteArray → Int → Option (Int × Bool)
  | 0, _, _, _ => none
  | k + 1, x0, x1, x6 => if x6 < 5 then ((impl_ask.f k x0 x1).bind fun bt170 => (if bt170.2.1 = 1 then (some (bt170.2.2.1, true)) else (if bt170.2.1 = 0 then (some (0, false)) else (impl_NameFind.l0 k x0 bt170.2.2.2.1 (wrap64 (x6 + 1)))))) else (some (0, false))
end
def impl_NameFind.f (k : Nat) (l0 : List (S26)) (a1 : ByteArray) : Option (Int × Bool) := (impl_NamesOk.f k l0).bind fun t168 => (if t168 = true then ((impl_textOk.f k a1).bind fun t169 => (impl_NameFind.j0 k l0 a1 (!t169))) else (impl_NameFind.j0 k l0 a1 true))
theorem impl_NameFind.mono_l : ∀ k, (∀ y0 y1 y2, LeO (impl_NameFind.j0 k y0 y1 y2) (impl_NameFind.j0 (k + 1) y0 y1 y2)) ∧ (∀ y0 y1 y2, LeO (impl_NameFind.l0 k y0 y1 y2) (impl_NameFind.l0 (k + 1) y0 y1 y2))
  | 0 => ⟨fun _ _ _ r h => by simp [impl_NameFind.j0] at h, fun _ _ _ r h => by simp [impl_NameFind.l0] at h⟩
  | k + 1 => by
    obtain ⟨ih0, ih1⟩ := impl_NameFind.mono_l k
    refine ⟨?_, ?_⟩
    · intro y0 y1 y2
      unfold impl_NameFind.j0
      repeat' first
      | (with_reducible exact ih0 _ _ _)
      | (with_reducible exact ih1 _ _ _)
      | (with_reducible exact impl_NamesOk.mono _ _)
      | (with_reducible exact impl_ask.mono _ _ _)
      | (with_reducible exact impl_textOk.mono _ _)
      | (with_reducible exact LeO.refl _)
      | (with_reducible exact LeO.none _)
      | (with_reducible refine LeO.ite ?_ ?_)
      | (with_reducible refine LeO.bind ?_ (fun _ => ?_))
      | exact ih0 _ _ _
      | exact ih1 _ _ _
      | exact impl_NamesOk.mono _ _
      | exact impl_ask.mono _ _ _
      | exact impl_textOk.mono _ _
      | exact LeO.none _
      | refine LeO.ite ?_ ?_
      | refine LeO.bind ?_ (fun _ => ?_)
    · intro y0 y1 y2
      unfold impl_NameFind.l0
      repeat' first
      | (with_reducible exact ih0 _ _ _)
      | (with_reducible exact ih1 _ _ _)
      | (with_reducible exact impl_NamesOk.mono _ _)
      | (with_reducible exact impl_ask.mono _ _ _)
      | (with_reducible exact impl_textOk.mono _ _)
      | (with_reducible exact LeO.refl _)
      | (with_reducible exact LeO.none _)
      | (with_reducible refine LeO.ite ?_ ?_)
      | (with_reducible refine LeO.bind ?_ (fun _ => ?_))
      | exact ih0 _ _ _
      | exact ih1 _ _ _
      | exact impl_NamesOk.mono _ _
      | exact impl_ask.mono _ _ _
      | exact impl_textOk.mono _ _
      | exact LeO.none _
      | refine LeO.ite ?_ ?_
      | refine LeO.bind ?_ (fun _ => ?_)
theorem impl_NameFind.mono : ∀ a0 a1 k, LeO (impl_NameFind.f k a0 a1) (impl_NameFind.f (k + 1) a0 a1) := by
  intro a0 a1 k
  obtain ⟨ih0, ih1⟩ := impl_NameFind.mono_l k
  unfold impl_NameFind.f
  repeat' first
      | (with_reducible exact ih0 _ _ _)
      | (with_reducible exact ih1 _ _ _)
      | (with_reducible exact impl_NamesOk.mono _ _)
      | (with_reducible exact impl_ask.mono _ _ _)
      | (with_reducible exact impl_textOk.mono _ _)
      | (with_reducible exact LeO.refl _)
      | (with_reducible exact LeO.none _)
      | (with_reducible refine LeO.ite ?_ ?_)
      | (with_reducible refine LeO.bind ?_ (fun _ => ?_))
      | exact ih0 _ _ _
      | exact ih1 _ _ _
      | exact impl_NamesOk.mono _ _
      | exact impl_ask.mono _ _ _
      | exact impl_textOk.mono _ _
      | exact LeO.none _
      | refine LeO.ite ?_ ?_
      | refine LeO.bind ?_ (fun _ => ?_)
set_option maxHeartbeats 8000000 in
set_option maxRecDepth 100000 in
theorem lam_71.calls (k : Nat) (B : Nat) (A : Option Addr) (c : Nat) (l : List S26) (s : ByteArray) (r1 : ByteArray) (r2 r3 : Int) (r4 : ByteArray) (r5 : Int) (w : World) (hr : Kd.C k26 w A l.length l) (hc : l.length ≤ c) (hB : w.heap[B]? = some (.cells #[.slice A l.length c] 36 (0, 0))) (h : impl_ask.f k l s = some (r1, r2, r3, r4, r5)) :
    Calls Try.prog 71 #[.string s, .pointer (some ⟨B, 0, none⟩)] w fun e w' => e = .returned (.agg #[.string r1, .int .i64 r2, .int .i64 r3, .string r4, .int .i64 r5]) ∧ Below w.heap.size w w' := by
  have hu_ := Try.underlying26
  have HR0 := Aside0.mk hr
  have HC0 := Aside0.mk hc
  have BK8004 := Aside0.mk hB
  have HA := Aside0.mk h
  have HB := Aside0.mk (Below.refl w.heap.size w)
  clear hr hc hB h
  go_enter Try.func71, Try.ntmps71
  go_upto_region 1 with (first | ((with_reducible refine gate_dst (N := 3) rfl ?_); refine box_event ?hg (N := 3) ?hd (cs := #[.string (⟨#[]⟩ : ByteArray), .int .i64 0, .int .i64 0, .string (⟨#[]⟩ : ByteArray), .int .i64 0]) (t := 26) ?hr ?_; (case hd => rfl); (case hg => rfl); (case hr => first | (go_simp; done) | (go_simp; rfl)); intro gb8003 hg w4 hbox hb; have n0_ := Aside0.mk (below_step HB.out hb); have n1_ := Aside0.mk hbox; have k8004_ := Aside0.mk (blk_below BK8004.out hb); have n3_ := Aside0.mk ((by rw [hg]; exact below_size HB.out) : w.heap.size ≤ gb8003); clear HB BK8004; have HB := n0_; have BK8003 := n1_; have BK8004 := k8004_; have GE8003 := n3_; clear n0_ n1_ n3_ k8004_ hb hbox hg; have hcz8003_0 : w4.cell? ⟨gb8003, 0, none⟩ = some (.string (⟨#[]⟩ : ByteArray)) := (blk_cell BK8003.out 0).trans rfl; have hfz8003_0 := blk_frozen BK8003.out 0; have hcz8003_1 : w4.cell? ⟨gb8003, 1, none⟩ = some (.int .i64 0) := (blk_cell BK8003.out 1).trans rfl; have hfz8003_1 := blk_frozen BK8003.out 1; have hcz8003_2 : w4.cell? ⟨gb8003, 2, none⟩ = some (.int .i64 0) := (blk_cell BK8003.out 2).trans rfl; have hfz8003_2 := blk_frozen BK8003.out 2; have hcz8003_3 : w4.cell? ⟨gb8003, 3, none⟩ = some (.string (⟨#[]⟩ : ByteArray)) := (blk_cell BK8003.out 3).trans rfl; have hfz8003_3 := blk_frozen BK8003.out 3; have hcz8003_4 : w4.cell? ⟨gb8003, 4, none⟩ = some (.int .i64 0) := (blk_cell BK8003.out 4).trans rfl; have hfz8003_4 := blk_frozen BK8003.out 4))
  have hcl_ : w4.cell? ⟨B, 0, none⟩ = some (.slice A l.length c) := (blk_cell BK8004.out 0).trans rfl
  clear hcz8003_0 hcz8003_1 hcz8003_2 hcz8003_3 hcz8003_4 hfz8003_0 hfz8003_1 hfz8003_2 hfz8003_3 hfz8003_4
  go_wp2_with (first | (go_at_call 63; (with_reducible refine (impl_ask.calls k _ c l s r1 r2 r3 r4 r5 _ (Kd.C_below HR0.out HB.out) HC0.out HA.out).mono ?_); rintro e w9 ⟨rfl, hb⟩; have n0_ := Aside0.mk (below_step HB.out hb); have n1_ := Aside0.mk (blk_below BK8003.out hb); clear HB BK8003 hcl_; have HB := n0_; have BK8003 := n1_; clear n0_ n1_ hb; have hcz_0 : w9.cell? ⟨gb8003, 0, none⟩ = some (.string (⟨#[]⟩ : ByteArray)) := (blk_cell BK8003.out 0).trans rfl; have hfz_0 := blk_frozen BK8003.out 0; have hcz_1 : w9.cell? ⟨gb8003, 1, none⟩ = some (.int .i64 0) := (blk_cell BK8003.out 1).trans rfl; have hfz_1 := blk_frozen BK8003.out 1; have hcz_2 : w9.cell? ⟨gb8003, 2, none⟩ = some (.int .i64 0) := (blk_cell BK8003.out 2).trans rfl; have hfz_2 := blk_frozen BK8003.out 2; have hcz_3 : w9.cell? ⟨gb8003, 3, none⟩ = some (.string (⟨#[]⟩ : ByteArray)) := (blk_cell BK8003.out 3).trans rfl; have hfz_3 := blk_frozen BK8003.out 3; have hcz_4 : w9.cell? ⟨gb8003, 4, none⟩ = some (.int .i64 0) := (blk_cell BK8003.out 4).trans rfl; have hfz_4 := blk_frozen BK8003.out 4))
  refine bodyPost_ret (results_cell_row rfl _ _ gb8003 26 #[.string r1, .int .i64 r2, .int .i64 r3, .string r4, .int .i64 r5] (0, 0) _ rfl (by (with_reducible repeat (first | refine blk_drewN ?_ _ | refine blk_drew ?_ | refine blk_alloc ?_ _)); refine blk_put (cs := #[.string r1, .int .i64 r2, .int .i64 r3, .string r4, .int .i64 0]) ?_ 4 _ rfl; (with_reducible repeat (first | refine blk_drewN ?_ _ | refine blk_drew ?_ | refine blk_alloc ?_ _)); refine blk_put (cs := #[.string r1, .int .i64 r2, .int .i64 r3, .string (⟨#[]⟩ : ByteArray), .int .i64 0]) ?_ 3 _ rfl; (with_reducible repeat (first | refine blk_drewN ?_ _ | refine blk_drew ?_ | refine blk_alloc ?_ _)); refine blk_put (cs := #[.string r1, .int .i64 r2, .int .i64 0, .string (⟨#[]⟩ : ByteArray), .int .i64 0]) ?_ 2 _ rfl; (with_reducible repeat (first | refine blk_drewN ?_ _ | refine blk_drew ?_ | refine blk_alloc ?_ _)); refine blk_put (cs := #[.string r1, .int .i64 0, .int .i64 0, .string (⟨#[]⟩ : ByteArray), .int .i64 0]) ?_ 1 _ rfl; (with_reducible repeat (first | refine blk_drewN ?_ _ | refine blk_drew ?_ | refine blk_alloc ?_ _)); refine blk_put (cs := #[.string (⟨#[]⟩ : ByteArray), .int .i64 0, .int .i64 0, .string (⟨#[]⟩ : ByteArray), .int .i64 0]) ?_ 0 _ rfl; (with_reducible repeat (first | refine blk_drewN ?_ _ | refine blk_drew ?_ | refine blk_alloc ?_ _)); exact BK8003.out) Try.underlying26 rfl (by kernel_rfl)) rfl ?_
  exact ⟨by first | rfl | (simp [*]; done), by repeat (first | (with_reducible first | exact HB.out | apply below_alloc | apply pw_below_drewN | apply below_drew1 | refine below_set ?_ GE8003.out) | exact HB.out)⟩
set_option maxHeartbeats 8000000 in
set_option maxRecDepth 100000 in
theorem follow_71.calls (k : Nat) (B : Nat) (A : Option Addr) (c : Nat) (l : List S26) (s : ByteArray) (r1 : Int) (r2 : Bool) (w : World) (hr : Kd.C k26 w A l.length l) (hc : l.length ≤ c) (hB : w.heap[B]? = some (.cells #[.slice A l.length c] 36 (0, 0))) (h : impl_NameFind.l0 k l s 0 = some (r1, r2)) :
    Calls Try.prog 70 #[.string s, .func (.func 71) #[] #[.pointer (some ⟨B, 0, none⟩)]] w fun e w' => e = .returned (.tuple #[.int .i64 r1, .bool r2]) ∧ Below w.heap.size w w' := by
  have hu_ := Try.underlying26
  have HR0 := Aside0.mk hr
  have HC0 := Aside0.mk hc
  have BK8004 := Aside0.mk hB
  have H' := Aside0.mk h
  have HB := Aside0.mk (Below.refl w.heap.size w)
  clear hr hc hB h
  go_enter Try.func70, Try.ntmps70
  go_wp2
  go_loopg [0, 7] k (fun kq v0 v7 w' => ∃ (x0 : ByteArray) (x7 : Int), v0 = .string x0 ∧ v7 = .int .i64 x7 ∧ Aside0 (impl_NameFind.l0 kq l x0 x7 = some (r1, r2)) ∧ Aside0 (kq ≤ k) ∧ Aside0 (w'.heap[B]? = some (.cells #[.slice A l.length c] 36 (0, 0))) ∧ Aside0 (Below w.heap.size w w'))
  case atStart => exact ⟨s, 0, rfl, rfl, H', ⟨Nat.le_refl _⟩, BK8004, HB⟩
  case round =>
    clear H' BK8004 HB
    obtain ⟨x0, x7, rfl, rfl, HA, HK, BK8004, HB⟩ := hrel
    cases gk with
    | zero => exact absurd HA.out (by simp [impl_NameFind.l0])
    | succ k1 =>
      have H := HA.out
      clear HA
      simp only [impl_NameFind.l0] at H
      by_cases c1 : x7 < 5
      · rw [if_pos c1] at H
        have c1b0 : decide (x7 < 5) = true := decide_eq_true c1
        clear c1
        replace H := Option.bind_eq_some_iff.mp H
        obtain ⟨⟨q1, q2, q3, q4, q5⟩, A50, H⟩ := H
        dsimp only at H
        have A5 := Aside0.mk A50
        clear A50
        by_cases c2 : q2 = 1
        · rw [if_pos c2] at H
          have c2b0 : (q2 == 1) = true := beq_iff_eq.mpr c2
          clear c2
          simp only [Option.some.injEq, Prod.mk.injEq] at H
          obtain ⟨rfl, rfl⟩ := H
          go_wp2_with (first | (go_at_call 71; (with_reducible refine (lam_71.calls k1 B _ c l x0 q1 q2 q3 q4 q5 _ (Kd.C_below HR0.out HB.out) HC0.out BK8004.out A5.out).mono ?_); rintro e w9 ⟨rfl, hb⟩; have n0_ := Aside0.mk (below_step HB.out hb); have n1_ := Aside0.mk (blk_below BK8004.out hb); clear HB BK8004; have HB := n0_; have BK8004 := n1_; clear n0_ n1_ hb) | ((with_reducible refine gate_dst (N := 6) rfl ?_); refine box_event ?hg (N := 6) ?hd (cs := #[.string (⟨#[]⟩ : ByteArray), .int .i64 0, .int .i64 0, .string (⟨#[]⟩ : ByteArray), .int .i64 0]) (t := 26) ?hr ?_; (case hd => rfl); (case hg => rfl); (case hr => first | (go_simp; done) | (go_simp; rfl)); intro gb8006 hg w6 hbox hb; have n0_ := Aside0.mk (below_step HB.out hb); have n1_ := Aside0.mk hbox; have k8004_ := Aside0.mk (blk_below BK8004.out hb); have n3_ := Aside0.mk ((by rw [hg]; exact below_size HB.out) : w.heap.size ≤ gb8006); have HB8004_ := BK8004.out; clear HB BK8004; have NB8006 := Aside0.mk (show B ≠ gb8006 by rw [hg]; exact Nat.ne_of_lt (blk_lt HB8004_)); clear HB8004_; have HB := n0_; have BK8006 := n1_; have BK8004 := k8004_; have GE8006 := n3_; clear n0_ n1_ n3_ k8004_ hb hbox hg; have hcz8006_0 : w6.cell? ⟨gb8006, 0, none⟩ = some (.string (⟨#[]⟩ : ByteArray)) := (blk_cell BK8006.out 0).trans rfl; have hfz8006_0 := blk_frozen BK8006.out 0; have hcz8006_1 : w6.cell? ⟨gb8006, 1, none⟩ = some (.int .i64 0) := (blk_cell BK8006.out 1).trans rfl; have hfz8006_1 := blk_frozen BK8006.out 1; have hcz8006_2 : w6.cell? ⟨gb8006, 2, none⟩ = some (.int .i64 0) := (blk_cell BK8006.out 2).trans rfl; have hfz8006_2 := blk_frozen BK8006.out 2; have hcz8006_3 : w6.cell? ⟨gb8006, 3, none⟩ = some (.string (⟨#[]⟩ : ByteArray)) := (blk_cell BK8006.out 3).trans rfl; have hfz8006_3 := blk_frozen BK8006.out 3; have hcz8006_4 : w6.cell? ⟨gb8006, 4, none⟩ = some (.int .i64 0) := (blk_cell BK8006.out 4).trans rfl; have hfz8006_4 := blk_frozen BK8006.out 4))
          go_ret2
          exact ⟨by first | rfl | (simp [*]; done), by repeat (first | (with_reducible first | exact HB.out | apply below_alloc | apply pw_below_drewN | apply below_drew1 | refine below_set ?_ GE8006.out) | exact HB.out)⟩
        · rw [if_neg c2] at H
          have c2b0 : (q2 == 1) = false := beq_eq_false_iff_ne.mpr c2
          clear c2
          by_cases c3 : q2 = 0
          · rw [if_pos c3] at H
            have c3b0 : (q2 == 0) = true := beq_iff_eq.mpr c3
            clear c3
            simp only [Option.some.injEq, Prod.mk.injEq] at H
            obtain ⟨rfl, rfl⟩ := H
            go_wp2_with (first | (go_at_call 71; (with_reducible refine (lam_71.calls k1 B _ c l x0 q1 q2 q3 q4 q5 _ (Kd.C_below HR0.out HB.out) HC0.out BK8004.out A5.out).mono ?_); rintro e w9 ⟨rfl, hb⟩; have n0_ := Aside0.mk (below_step HB.out hb); have n1_ := Aside0.mk (blk_below BK8004.out hb); clear HB BK8004; have HB := n0_; have BK8004 := n1_; clear n0_ n1_ hb) | ((with_reducible refine gate_dst (N := 6) rfl ?_); refine box_event ?hg (N := 6) ?hd (cs := #[.string (⟨#[]⟩ : ByteArray), .int .i64 0, .int .i64 0, .string (⟨#[]⟩ : ByteArray), .int .i64 0]) (t := 26) ?hr ?_; (case hd => rfl); (case hg => rfl); (case hr => first | (go_simp; done) | (go_simp; rfl)); intro gb8006 hg w6 hbox hb; have n0_ := Aside0.mk (below_step HB.out hb); have n1_ := Aside0.mk hbox; have k8004_ := Aside0.mk (blk_below BK8004.out hb); have n3_ := Aside0.mk ((by rw [hg]; exact below_size HB.out) : w.heap.size ≤ gb8006); have HB8004_ := BK8004.out; clear HB BK8004; have NB8006 := Aside0.mk (show B ≠ gb8006 by rw [hg]; exact Nat.ne_of_lt (blk_lt HB8004_)); clear HB8004_; have HB := n0_; have BK8006 := n1_; have BK8004 := k8004_; have GE8006 := n3_; clear n0_ n1_ n3_ k8004_ hb hbox hg; have hcz8006_0 : w6.cell? ⟨gb8006, 0, none⟩ = some (.string (⟨#[]⟩ : ByteArray)) := (blk_cell BK8006.out 0).trans rfl; have hfz8006_0 := blk_frozen BK8006.out 0; have hcz8006_1 : w6.cell? ⟨gb8006, 1, none⟩ = some (.int .i64 0) := (blk_cell BK8006.out 1).trans rfl; have hfz8006_1 := blk_frozen BK8006.out 1; have hcz8006_2 : w6.cell? ⟨gb8006, 2, none⟩ = some (.int .i64 0) := (blk_cell BK8006.out 2).trans rfl; have hfz8006_2 := blk_frozen BK8006.out 2; have hcz8006_3 : w6.cell? ⟨gb8006, 3, none⟩ = some (.string (⟨#[]⟩ : ByteArray)) := (blk_cell BK8006.out 3).trans rfl; have hfz8006_3 := blk_frozen BK8006.out 3; have hcz8006_4 : w6.cell? ⟨gb8006, 4, none⟩ = some (.int .i64 0) := (blk_cell BK8006.out 4).trans rfl; have hfz8006_4 := blk_frozen BK8006.out 4))
            go_ret2
            exact ⟨by first | rfl | (simp [*]; done), by repeat (first | (with_reducible first | exact HB.out | apply below_alloc | apply pw_below_drewN | apply below_drew1 | refine below_set ?_ GE8006.out) | exact HB.out)⟩
          · rw [if_neg c3] at H
            have c3b0 : (q2 == 0) = false := beq_eq_false_iff_ne.mpr c3
            clear c3
            have H' := Aside0.mk H
            clear H
            go_wp2_with (first | (go_at_call 71; (with_reducible refine (lam_71.calls k1 B _ c l x0 q1 q2 q3 q4 q5 _ (Kd.C_below HR0.out HB.out) HC0.out BK8004.out A5.out).mono ?_); rintro e w9 ⟨rfl, hb⟩; have n0_ := Aside0.mk (below_step HB.out hb); have n1_ := Aside0.mk (blk_below BK8004.out hb); clear HB BK8004; have HB := n0_; have BK8004 := n1_; clear n0_ n1_ hb) | ((with_reducible refine gate_dst (N := 6) rfl ?_); refine box_event ?hg (N := 6) ?hd (cs := #[.string (⟨#[]⟩ : ByteArray), .int .i64 0, .int .i64 0, .string (⟨#[]⟩ : ByteArray), .int .i64 0]) (t := 26) ?hr ?_; (case hd => rfl); (case hg => rfl); (case hr => first | (go_simp; done) | (go_simp; rfl)); intro gb8006 hg w6 hbox hb; have n0_ := Aside0.mk (below_step HB.out hb); have n1_ := Aside0.mk hbox; have k8004_ := Aside0.mk (blk_below BK8004.out hb); have n3_ := Aside0.mk ((by rw [hg]; exact below_size HB.out) : w.heap.size ≤ gb8006); have HB8004_ := BK8004.out; clear HB BK8004; have NB8006 := Aside0.mk (show B ≠ gb8006 by rw [hg]; exact Nat.ne_of_lt (blk_lt HB8004_)); clear HB8004_; have HB := n0_; have BK8006 := n1_; have BK8004 := k8004_; have GE8006 := n3_; clear n0_ n1_ n3_ k8004_ hb hbox hg; have hcz8006_0 : w6.cell? ⟨gb8006, 0, none⟩ = some (.string (⟨#[]⟩ : ByteArray)) := (blk_cell BK8006.out 0).trans rfl; have hfz8006_0 := blk_frozen BK8006.out 0; have hcz8006_1 : w6.cell? ⟨gb8006, 1, none⟩ = some (.int .i64 0) := (blk_cell BK8006.out 1).trans rfl; have hfz8006_1 := blk_frozen BK8006.out 1; have hcz8006_2 : w6.cell? ⟨gb8006, 2, none⟩ = some (.int .i64 0) := (blk_cell BK8006.out 2).trans rfl; have hfz8006_2 := blk_frozen BK8006.out 2; have hcz8006_3 : w6.cell? ⟨gb8006, 3, none⟩ = some (.string (⟨#[]⟩ : ByteArray)) := (blk_cell BK8006.out 3).trans rfl; have hfz8006_3 := blk_frozen BK8006.out 3; have hcz8006_4 : w6.cell? ⟨gb8006, 4, none⟩ = some (.int .i64 0) := (blk_cell BK8006.out 4).trans rfl; have hfz8006_4 := blk_frozen BK8006.out 4))
            go_roundg k1
            case measure => have := HK.out; omega
            case rel => exact ⟨q4, wrap64 (x7 + 1), by first | rfl | (simp [*]; done), rfl, H', ⟨by have := HK.out; omega⟩, ⟨by (repeat (first | exact BK8004.out | refine blk_far ?_ (by first | exact NB8006.out | exact Ne.symm NB8006.out | omega) _))⟩, ⟨by repeat (first | (with_reducible first | exact HB.out | apply below_alloc | apply pw_below_drewN | apply below_drew1 | refine below_set ?_ GE8006.out) | exact HB.out)⟩⟩
      · rw [if_neg c1] at H
        have c1b0 : decide (x7 < 5) = false := decide_eq_false c1
        clear c1
        simp only [Option.some.injEq, Prod.mk.injEq] at H
        obtain ⟨rfl, rfl⟩ := H
        go_wp2
        go_ret2
        exact ⟨by first | rfl | (simp [*]; done), HB.out⟩
set_option maxHeartbeats 8000000 in
set_option maxRecDepth 100000 in
theorem impl_NameFind.calls (k : Nat) (A0 : Option Addr) (c0 : Nat) (l0 : List (S26)) (a1 : ByteArray) (r1 : Int) (r2 : Bool) (w : World) (hr0 : Kd.C k26 w A0 l0.length l0) (hc0 : l0.length ≤ c0) (h : impl_NameFind.f k l0 a1 = some (r1, r2)) :
    Calls Try.prog 40 #[.slice A0 l0.length c0, .string a1] w fun e w' => e = .returned (.tuple #[.int .i64 r1, .bool r2]) ∧ Below w.heap.size w w' := by
  have hu_ := Try.underlying26
  have HR0 := Aside0.mk hr0
  have HC0 := Aside0.mk hc0
  have HB := Aside0.mk (Below.refl w.heap.size w)
  have H : ((impl_NamesOk.f k l0).bind fun t1 => (if t1 = true then ((impl_textOk.f k a1).bind fun t2 => (impl_NameFind.j0 k l0 a1 (!t2))) else (impl_NameFind.j0 k l0 a1 true))) = some (r1, r2) := h
  clear hr0 hc0 h
  replace H := Option.bind_eq_some_iff.mp H
  obtain ⟨t1, A30, H⟩ := H
  have A3 := Aside0.mk A30
  clear A30
  by_cases c4 : t1 = true
  · subst c4
    rw [if_pos rfl] at H
    replace H := Option.bind_eq_some_iff.mp H
    obtain ⟨t2, A50, H⟩ := H
    have A5 := Aside0.mk A50
    clear A50
    cases k with
    | zero => exact absurd H (by simp [impl_NameFind.j0])
    | succ k1 =>
      simp only [impl_NameFind.j0] at H
      by_cases c6 : t2 = true
      · subst c6
        rw [if_neg (by simp)] at H
        have H' := Aside0.mk H
        clear H
        go_enter Try.func40, Try.ntmps40
        go_wp2_with (first | ((with_reducible refine gate_dst (N := 2) rfl ?_); refine box_event ?hg (N := 2) ?hd (cs := #[.slice A0 l0.length c0]) (t := 36) ?hr ?_; (case hd => rfl); (case hg => rfl); (case hr => first | (go_simp; done) | (go_simp; rfl)); intro gb8004 hg w8004 hbox hb; have n0_ := Aside0.mk (below_step HB.out hb); have n1_ := Aside0.mk hbox; clear HB; have HB := n0_; have BK8004 := n1_; clear n0_ n1_ hb hbox hg; have hcl_ : w8004.cell? ⟨gb8004, 0, none⟩ = some (.slice A0 l0.length c0) := (blk_cell BK8004.out 0).trans rfl) | (go_at_call 27; (with_reducible refine (impl_NamesOk.calls _ _ _ l0 _ _ (Kd.C_below HR0.out HB.out) HC0.out A3.out).mono ?_); rintro e w9 ⟨rfl, hb⟩; have n0_ := Aside0.mk (below_step HB.out hb); have n1_ := Aside0.mk (blk_below BK8004.out hb); clear HB BK8004 hcl_; have HB := n0_; have BK8004 := n1_; clear n0_ n1_ hb) | (go_at_call 56; (with_reducible refine (impl_textOk.calls _ _ _ _ A5.out).mono ?_); rintro e w10 ⟨rfl, hb⟩; have n0_ := Aside0.mk (below_step HB.out hb); have n1_ := Aside0.mk (blk_below BK8004.out hb); clear HB BK8004; have HB := n0_; have BK8004 := n1_; clear n0_ n1_ hb) | (go_at_call 70; (with_reducible refine (follow_71.calls k1 gb8004 _ c0 l0 a1 r1 r2 _ (Kd.C_below HR0.out HB.out) HC0.out BK8004.out H'.out).mono ?_); rintro e w11 ⟨rfl, hb⟩; have n0_ := Aside0.mk (below_step HB.out hb); clear HB BK8004; have HB := n0_; clear n0_ hb))
        go_ret2
        exact ⟨by first | rfl | (simp [*]; done), by repeat (first | (with_reducible first | exact HB.out | apply below_alloc | apply pw_below_drewN | apply below_drew1) | exact HB.out)⟩
      · replace c6 := Bool.eq_false_iff.mpr c6
        subst c6
        rw [if_pos (by simp)] at H
        simp only [Option.some.injEq, Prod.mk.injEq] at H
        obtain ⟨rfl, rfl⟩ := H
        go_enter Try.func40, Try.ntmps40
        go_wp2_with (first | ((with_reducible refine gate_dst (N := 2) rfl ?_); refine box_event ?hg (N := 2) ?hd (cs := #[.slice A0 l0.length c0]) (t := 36) ?hr ?_; (case hd => rfl); (case hg => rfl); (case hr => first | (go_simp; done) | (go_simp; rfl)); intro gb8004 hg w8004 hbox hb; have n0_ := Aside0.mk (below_step HB.out hb); have n1_ := Aside0.mk hbox; clear HB; have HB := n0_; have BK8004 := n1_; clear n0_ n1_ hb hbox hg; have hcl_ : w8004.cell? ⟨gb8004, 0, none⟩ = some (.slice A0 l0.length c0) := (blk_cell BK8004.out 0).trans rfl) | (go_at_call 27; (with_reducible refine (impl_NamesOk.calls _ _ _ l0 _ _ (Kd.C_below HR0.out HB.out) HC0.out A3.out).mono ?_); rintro e w9 ⟨rfl, hb⟩; have n0_ := Aside0.mk (below_step HB.out hb); have n1_ := Aside0.mk (blk_below BK8004.out hb); clear HB BK8004 hcl_; have HB := n0_; have BK8004 := n1_; clear n0_ n1_ hb) | (go_at_call 56; (with_reducible refine (impl_textOk.calls _ _ _ _ A5.out).mono ?_); rintro e w10 ⟨rfl, hb⟩; have n0_ := Aside0.mk (below_step HB.out hb); have n1_ := Aside0.mk (blk_below BK8004.out hb); clear HB BK8004; have HB := n0_; have BK8004 := n1_; clear n0_ n1_ hb))
        go_ret2
        exact ⟨by first | rfl | (simp [*]; done), by repeat (first | (with_reducible first | exact HB.out | apply below_alloc | apply pw_below_drewN | apply below_drew1) | exact HB.out)⟩
  · replace c4 := Bool.eq_false_iff.mpr c4
    subst c4
    rw [if_neg (by simp)] at H
    cases k with
    | zero => exact absurd H (by simp [impl_NameFind.j0])
    | succ k1 =>
      simp only [impl_NameFind.j0] at H
      rw [if_pos trivial] at H
      simp only [Option.some.injEq, Prod.mk.injEq] at H
      obtain ⟨rfl, rfl⟩ := H
      go_enter Try.func40, Try.ntmps40
      go_wp2_with (first | ((with_reducible refine gate_dst (N := 2) rfl ?_); refine box_event ?hg (N := 2) ?hd (cs := #[.slice A0 l0.length c0]) (t := 36) ?hr ?_; (case hd => rfl); (case hg => rfl); (case hr => first | (go_simp; done) | (go_simp; rfl)); intro gb8004 hg w8004 hbox hb; have n0_ := Aside0.mk (below_step HB.out hb); have n1_ := Aside0.mk hbox; clear HB; have HB := n0_; have BK8004 := n1_; clear n0_ n1_ hb hbox hg; have hcl_ : w8004.cell? ⟨gb8004, 0, none⟩ = some (.slice A0 l0.length c0) := (blk_cell BK8004.out 0).trans rfl) | (go_at_call 27; (with_reducible refine (impl_NamesOk.calls _ _ _ l0 _ _ (Kd.C_below HR0.out HB.out) HC0.out A3.out).mono ?_); rintro e w9 ⟨rfl, hb⟩; have n0_ := Aside0.mk (below_step HB.out hb); have n1_ := Aside0.mk (blk_below BK8004.out hb); clear HB BK8004 hcl_; have HB := n0_; have BK8004 := n1_; clear n0_ n1_ hb))
      go_ret2
      exact ⟨by first | rfl | (simp [*]; done), by repeat (first | (with_reducible first | exact HB.out | apply below_alloc | apply pw_below_drewN | apply below_drew1) | exact HB.out)⟩

/-- A state of type 96 at block g of W; what its slices lead to came in by w0. -/
def IsS96 (w0 W : World) (g : Nat) (f0 : List Int) (f1 : Int) : Prop := ∃ A0 c0, W.heap[g]? = some (.cells #[.slice A0 f0.length c0, .int .i64 f1] 96 (0, 0)) ∧ w0.heap.size ≤ g ∧ Kd.C (Kd.int .u8) w0 A0 f0.length f0
theorem IsS96.grown {w0 W : World} {g : Nat} {f0 : List Int} {f1 : Int} {W1 : World} {row : Option Nat} (h : IsS96 w0 W g f0 f1) (hw : W.grownBy W1 row) (hne : some g ≠ row) : IsS96 w0 W1 g f0 f1 := by
  obtain ⟨A0, c0, hb, hg, hr0⟩ := h
  exact ⟨A0, c0, blk_grown hb hw hne, hg, hr0⟩
theorem IsS96.own_neN {w0 W : World} {g : Nat} {f0 : List Int} {f1 : Int} {α : Type} {d : Kd α} {e : Nat} {base : Nat} {ok : Nat → Prop} {v : Value} {xs : List α} (h : IsS96 w0 W g f0 f1) (ho : Kd.N d e W base ok v xs) (ht : e ≠ 96) : some g ≠ v.ownBlock := by
  obtain ⟨A0, c0, hb, hg, hr0⟩ := h
  exact Kd.N_ne ho hb ht
theorem IsS96.fresh {w0 W : World} {g : Nat} {f0 : List Int} {f1 : Int} (h : IsS96 w0 W g f0 f1) : ∀ k, W.heap.size ≤ k → k ≠ g := by
  obtain ⟨A0, c0, hb, hg, hr0⟩ := h
  exact Kd.freshB hb
theorem IsS96.kept {w0 W : World} {g : Nat} {f0 : List Int} {f1 : Int} {W1 : World} {S : Nat → Prop} (h : IsS96 w0 W g f0 f1) (hk : Kept W W1 S) (hne : ¬ S g) : IsS96 w0 W1 g f0 f1 := by
  obtain ⟨A0, c0, hb, hg, hr0⟩ := h
  exact ⟨A0, c0, blk_kept hb hk hne, hg, hr0⟩
theorem IsS96.below {w0 W : World} {g : Nat} {f0 : List Int} {f1 : Int} {W1 : World} (h : IsS96 w0 W g f0 f1) (hw : Below W.heap.size W W1) : IsS96 w0 W1 g f0 f1 := h.grown (grown_of_below hw none) (by simp)
theorem IsS96.alloc {w0 W : World} {g : Nat} {f0 : List Int} {f1 : Int} (h : IsS96 w0 W g f0 f1) (o : Obj) : IsS96 w0 (W.alloc o) g f0 f1 := h.below (below_alloc (Below.refl _ _) o)
theorem IsS96.drewN {w0 W : World} {g : Nat} {f0 : List Int} {f1 : Int} (h : IsS96 w0 W g f0 f1) (m : Nat) : IsS96 w0 (W.drewN m) g f0 f1 := h
theorem IsS96.drew {w0 W : World} {g : Nat} {f0 : List Int} {f1 : Int} (h : IsS96 w0 W g f0 f1) : IsS96 w0 W.drew g f0 f1 := h
theorem IsS96.at_ {w0 W : World} {g : Nat} {f0 : List Int} {f1 : Int} {w' : World} {m : Nat} (hq : W.drewN m = w') (h : IsS96 w0 W g f0 f1) : IsS96 w0 w' g f0 f1 := by subst hq; exact IsS96.drewN h m
theorem IsS96.apart {w0 W : World} {g : Nat} {f0 : List Int} {f1 : Int} {α : Type} {d : Kd α} {e : Nat} {base : Nat} {ok : Nat → Prop} {v : Value} {xs : List α} (h : IsS96 w0 W g f0 f1) (ho : d.R e W base ok v xs) (ht : ∀ q, q ∈ e :: d.E → q ≠ 96) : d.R e W base (fun k => ok k ∧ k ≠ g) v xs := by
  obtain ⟨A0, c0, hb, hg, hr0⟩ := h
  exact Kd.R_types ho hb ht
theorem IsS96.own_ne {w0 W : World} {g : Nat} {f0 : List Int} {f1 : Int} {α : Type} {d : Kd α} {e : Nat} {base : Nat} {ok : Nat → Prop} {v : Value} {xs : List α} (h : IsS96 w0 W g f0 f1) (ho : d.R e W base ok v xs) (ht : e ≠ 96) : some g ≠ v.ownBlock := by
  obtain ⟨A0, c0, hb, hg, hr0⟩ := h
  exact Kd.R_ne ho hb ht
theorem IsS96.apartQ {w0 W : World} {g : Nat} {f0 : List Int} {f1 : Int} {α : Type} {d : Kd α} {e : Nat} {base : Nat} {ok : Nat → Prop} {v : Value} {xs : List α} (h : IsS96 w0 W g f0 f1) (ho : d.Q e W base ok v xs) (ht : ∀ q, q ∈ e :: d.E → q ≠ 96) : d.Q e W base (fun k => ok k ∧ k ≠ g) v xs := by
  obtain ⟨A0, c0, hb, hg, hr0⟩ := h
  exact Kd.Q_types ho hb ht
theorem IsS96.own_neQ {w0 W : World} {g : Nat} {f0 : List Int} {f1 : Int} {α : Type} {d : Kd α} {e : Nat} {base : Nat} {ok : Nat → Prop} {v : Value} {xs : List α} (h : IsS96 w0 W g f0 f1) (ho : d.Q e W base ok v xs) (ht : e ≠ 96) : some g ≠ v.ownBlock := by
  obtain ⟨A0, c0, hb, hg, hr0⟩ := h
  exact Kd.Q_ne ho hb ht
theorem IsS96.apartS {w0 W : World} {g : Nat} {f0 : List Int} {f1 : Int} {α : Type} {d : Kd α} {e : Nat} {base : Nat} {ok : Nat → Prop} {v : Value} {xs : List α} (h : IsS96 w0 W g f0 f1) (ho : d.S e W base ok v xs) (ht : ∀ q, q ∈ e :: d.E → q ≠ 96) : d.S e W base (fun k => ok k ∧ k ≠ g) v xs := by
  obtain ⟨A0, c0, hb, hg, hr0⟩ := h
  exact Kd.S_types ho hb ht
theorem IsS96.own_neS {w0 W : World} {g : Nat} {f0 : List Int} {f1 : Int} {α : Type} {d : Kd α} {e : Nat} {base : Nat} {ok : Nat → Prop} {v : Value} {xs : List α} (h : IsS96 w0 W g f0 f1) (ho : d.S e W base ok v xs) (ht : e ≠ 96) : some g ≠ v.ownBlock := by
  obtain ⟨A0, c0, hb, hg, hr0⟩ := h
  exact Kd.S_ne ho hb ht
theorem IsS96.lt {w0 W : World} {g : Nat} {f0 : List Int} {f1 : Int} (h : IsS96 w0 W g f0 f1) : g < W.heap.size := by
  obtain ⟨A0, c0, hb, hg, hr0⟩ := h
  exact blk_lt hb
theorem IsS96.ge {w0 W : World} {g : Nat} {f0 : List Int} {f1 : Int} (h : IsS96 w0 W g f0 f1) : w0.heap.size ≤ g := by
  obtain ⟨A0, c0, hb, hg, hr0⟩ := h
  exact hg
theorem IsS96.ne_blk {w0 W : World} {g : Nat} {f0 : List Int} {f1 : Int} {a : Nat} {cs : Array Value} {t : TypeId} {fr : Nat × Nat} (h : IsS96 w0 W g f0 f1) (hb2 : W.heap[a]? = some (.cells cs t fr)) (ht : t ≠ 96) : g ≠ a := by
  obtain ⟨A0, c0, hb, hg, hr0⟩ := h
  rintro rfl
  rw [hb] at hb2
  injection hb2 with hb2
  injection hb2 with _ ht2
  exact ht ht2.symm
theorem IsS96.far {w0 W : World} {g : Nat} {f0 : List Int} {f1 : Int} {p : Addr} (h : IsS96 w0 W g f0 f1) (hne : g ≠ p.block) (u : Value) : IsS96 w0 (W.setCell p u) g f0 f1 := by
  obtain ⟨A0, c0, hb, hg, hr0⟩ := h
  exact ⟨A0, c0, blk_far hb hne u, hg, hr0⟩
theorem cellS96_0 {W : World} {g : Nat} {A0 : Option Addr} {c0 : Nat} {f0 : List Int} {f1 : Int} (h : W.heap[g]? = some (.cells #[.slice A0 f0.length c0, .int .i64 f1] 96 (0, 0))) : W.cell? ⟨g, 0, none⟩ = some (.slice A0 f0.length c0) := (blk_cell h 0).trans rfl
theorem cellS96_1 {W : World} {g : Nat} {A0 : Option Addr} {c0 : Nat} {f0 : List Int} {f1 : Int} (h : W.heap[g]? = some (.cells #[.slice A0 f0.length c0, .int .i64 f1] 96 (0, 0))) : W.cell? ⟨g, 1, none⟩ = some (.int .i64 f1) := (blk_cell h 1).trans rfl
theorem IsS96.set_1 {w0 W : World} {g : Nat} {f0 : List Int} {f1 : Int} (h : IsS96 w0 W g f0 f1) (x : Int) : IsS96 w0 (W.setCell ⟨g, 1, none⟩ (.int .i64 x)) g f0 x := by
  obtain ⟨A0, c0, hb, hg, hr0⟩ := h
  exact ⟨A0, c0, by simpa using blk_set hb 1 (.int .i64 x), hg, hr0⟩
theorem IsS96.new (w0 W : World) (A0 : Option Addr) (c0 : Nat) (f0 : List Int) (f1 : Int) (hB : Below w0.heap.size w0 W) (hr0 : Kd.C (Kd.int .u8) w0 A0 f0.length f0) : IsS96 w0 (W.alloc (.cells #[.slice A0 f0.length c0, .int .i64 f1] 96)) W.heap.size f0 f1 := ⟨A0, c0, by simpa using heap_alloc_new W _, hB.size, hr0⟩

/-! ### spec_l20Open: function 60 -/
def spec_l20Open.f (l0 : List Int) : Option (List Int × Int) := if (l0.length : Int) > 2000 then (if 2000 ≤ (l0.length : Int) then (some (l0.take 2000, 0)) else (none)) else (some (l0, 0))
set_option maxHeartbeats 8000000 in
set_option maxRecDepth 100000 in
theorem spec_l20Open.calls (A0 : Option Addr) (c0 : Nat) (l0 : List Int) (r1 : List Int) (r2 : Int) (w0 w : World) (hB : Below w0.heap.size w0 w) (hr0 : Kd.C (Kd.int .u8) w0 A0 l0.length l0) (hc0 : l0.length ≤ c0) (h : spec_l20Open.f l0 = some (r1, r2)) :
    Calls Try.prog 60 #[.slice A0 l0.length c0] w fun e w' => ∃ g_ : Nat, e = .returned (.pointer (some ⟨g_, 0, none⟩)) ∧ IsS96 w0 w' g_ r1 r2 ∧ Below w0.heap.size w0 w' ∧ Below w.heap.size w w' := by
  have hu96 := Try.underlying96
  have HR0 := Aside0.mk hr0
  have HC0 := Aside0.mk hc0
  clear hr0 hc0
  have HBW := Aside0.mk (Below.refl w.heap.size w)
  have HW0 := Aside0.mk hB.size
  have HB := Aside0.mk hB
  clear hB
  have H : (if (l0.length : Int) > 2000 then (if 2000 ≤ (l0.length : Int) then (some (l0.take 2000, 0)) else (none)) else (some (l0, 0))) = some (r1, r2) := h
  clear h
  by_cases c2 : (l0.length : Int) > 2000
  · rw [if_pos c2] at H
    have c2b0 : decide (2000 < (l0.length : Int)) = true := decide_eq_true c2
    have c2b1 : decide (2000 < l0.length) = true := decide_eq_true (by omega)
    clear c2
    by_cases c3 : 2000 ≤ (l0.length : Int)
    · rw [if_pos c3] at H
      have c3b0 := eq_true c3
      have c3b1 : decide (2000 ≤ (l0.length : Int)) = true := decide_eq_true c3
      clear c3
      simp only [Option.some.injEq, Prod.mk.injEq] at H
      obtain ⟨rfl, rfl⟩ := H
      obtain ⟨i04, hi04, _, hsz4, _⟩ := info_parts info5
      obtain ⟨hcut4, hA4, hC4⟩ := print_take_of (P := Try.prog) (Value.int .u8) 0 29 5 .i64 Try.underlying29 hi04 hsz4 A0 c0 l0 2000 (by omega) (of_decide_eq_true (by first | (with_reducible assumption) | assumption)) HC0.out
      have HR176 := Aside0.mk (Kd.C_of_reads (h1 := fun _ => rfl) (hA4 _ (Kd.reads_of_C HR0.out)))
      have HC176 := Aside0.mk hC4
      clear hA4 hC4 hi04 hsz4
      go_enter Try.func60, Try.ntmps60
      go_wp2_with (first | ((with_reducible refine gate_dst (N := 10) rfl ?_); refine box_event ?hg (N := 10) ?hd (cs := #[.slice A0 (l0.take 2000).length c0, .int .i64 0]) (t := 96) ?hr ?_; (case hd => rfl); (case hg => rfl); (case hr => first | (go_simp; done) | (go_simp; rfl)); intro gb177 hg w5 hbox hb; have n0_ := Aside0.mk (below_step HBW.out hb); have n1_ := Aside0.mk (below_step (by repeat (first | (with_reducible first | exact HB.out | apply below_alloc | apply pw_below_drewN | apply below_drew1) | exact HB.out)) hb); have n2_ := Aside0.mk (hbox); have n3_ := Aside0.mk ((by rw [hg]; exact (below_size (by repeat (first | (with_reducible first | exact HBW.out | apply below_alloc | apply pw_below_drewN | apply below_drew1) | exact HBW.out))) : w.heap.size ≤ gb177)); have n4_ := Aside0.mk ((Nat.le_trans HW0.out (by rw [hg]; exact (below_size (by repeat (first | (with_reducible first | exact HBW.out | apply below_alloc | apply pw_below_drewN | apply below_drew1) | exact HBW.out))) : w.heap.size ≤ gb177) : w0.heap.size ≤ gb177)); clear HBW; clear HB; have HBW := n0_; have HB := n1_; have BK177 := n2_; have GW177 := n3_; have GE177 := n4_; clear n0_ n1_ n2_ n3_ n4_; clear hb hbox hg))
      go_ret
      exact ⟨_, rfl, (show IsS96 w0 _ gb177 (l0.take 2000) 0 from ⟨_, _, by (with_reducible repeat (first | refine blk_drewN ?_ _ | refine blk_drew ?_ | refine blk_alloc ?_ _)); exact BK177.out, GE177.out, HR176.out⟩), by repeat (first | (with_reducible first | exact HB.out | apply below_alloc | apply pw_below_drewN | apply below_drew1 | refine below_set ?_ GE177.out) | exact HB.out), by repeat (first | (with_reducible first | exact HBW.out | apply below_alloc | apply pw_below_drewN | apply below_drew1 | refine below_set ?_ GW177.out) | exact HBW.out)⟩
    · rw [if_neg c3] at H
      exact absurd H (by simp)
  · rw [if_neg c2] at H
    have c2b0 : decide (2000 < (l0.length : Int)) = false := decide_eq_false c2
    have c2b1 : decide (2000 < l0.length) = false := decide_eq_false (by omega)
    clear c2
    simp only [Option.some.injEq, Prod.mk.injEq] at H
    obtain ⟨rfl, rfl⟩ := H
    go_enter Try.func60, Try.ntmps60
    go_wp2_with (first | ((with_reducible refine gate_dst (N := 10) rfl ?_); refine box_event ?hg (N := 10) ?hd (cs := #[.slice A0 l0.length c0, .int .i64 0]) (t := 96) ?hr ?_; (case hd => rfl); (case hg => rfl); (case hr => first | (go_simp; done) | (go_simp; rfl)); intro gb178 hg w6 hbox hb; have n0_ := Aside0.mk (below_step HBW.out hb); have n1_ := Aside0.mk (below_step (by repeat (first | (with_reducible first | exact HB.out | apply below_alloc | apply pw_below_drewN | apply below_drew1) | exact HB.out)) hb); have n2_ := Aside0.mk (hbox); have n3_ := Aside0.mk ((by rw [hg]; exact (below_size (by repeat (first | (with_reducible first | exact HBW.out | apply below_alloc | apply pw_below_drewN | apply below_drew1) | exact HBW.out))) : w.heap.size ≤ gb178)); have n4_ := Aside0.mk ((Nat.le_trans HW0.out (by rw [hg]; exact (below_size (by repeat (first | (with_reducible first | exact HBW.out | apply below_alloc | apply pw_below_drewN | apply below_drew1) | exact HBW.out))) : w.heap.size ≤ gb178) : w0.heap.size ≤ gb178)); clear HBW; clear HB; have HBW := n0_; have HB := n1_; have BK178 := n2_; have GW178 := n3_; have GE178 := n4_; clear n0_ n1_ n2_ n3_ n4_; clear hb hbox hg))
    go_ret
    exact ⟨_, rfl, (show IsS96 w0 _ gb178 l0 0 from ⟨_, _, by (with_reducible repeat (first | refine blk_drewN ?_ _ | refine blk_drew ?_ | refine blk_alloc ?_ _)); exact BK178.out, GE178.out, HR0.out⟩), by repeat (first | (with_reducible first | exact HB.out | apply below_alloc | apply pw_below_drewN | apply below_drew1 | refine below_set ?_ GE178.out) | exact HB.out), by repeat (first | (with_reducible first | exact HBW.out | apply below_alloc | apply pw_below_drewN | apply below_drew1 | refine below_set ?_ GW178.out) | exact HBW.out)⟩

end Go.Proofs.Ytmgnmgobibpjjaa.GFnNameFind
