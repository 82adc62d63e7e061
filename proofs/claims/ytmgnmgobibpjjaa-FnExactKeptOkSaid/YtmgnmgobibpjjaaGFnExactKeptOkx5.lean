/- What the Go functions that FnExactKeptOk reaches come to, walked step by step; there is no condition beyond those each statement names. -/
import Derived.Test.YtmgnmgobibpjjaaGFnExactKeptOkx0
import Derived.Test.YtmgnmgobibpjjaaGFnExactKeptOkx1
import Derived.Test.YtmgnmgobibpjjaaGFnExactKeptOkx2
import Derived.Test.YtmgnmgobibpjjaaGFnExactKeptOkx4
namespace Go.Proofs.Ytmgnmgobibpjjaa.GFnExactKeptOk
open Go.RowKit Go.Proofs.YtmgnmgobibpjjaaU.PrintWords Go.Proofs.YtmgnmgobibpjjaaU.PrintLast Go.Proofs.YtmgnmgobibpjjaaU.PrintMore
open Bool renaming true → T, false → F
attribute [local go_sem] max2_int min2_int max_two min_two max_three min_three max_four min_four   -- for this text's walks alone
set_option linter.unusedVariables false
set_option linter.unusedSimpArgs false

/-! ### laws_eqName: function 32 -/
def laws_eqName.f (a0_0 : ByteArray) (a0_1 : Int) (a0_2 : Int) (a0_3 : ByteArray) (a0_4 : Int) (a1_0 : ByteArray) (a1_1 : Int) (a1_2 : Int) (a1_3 : ByteArray) (a1_4 : Int) : Option (Bool) := if a0_0.toList = a1_0.toList then (if a0_1 = a1_1 then (if a0_2 = a1_2 then (if a0_3.toList = a1_3.toList then (if a0_4 = a1_4 then (some true) else (some false)) else (some false)) else (some false)) else (some false)) else (some false)
set_option maxHeartbeats 8000000 in
set_option maxRecDepth 100000 in
theorem laws_eqName.calls (a0_0 : ByteArray) (a0_1 : Int) (a0_2 : Int) (a0_3 : ByteArray) (a0_4 : Int) (a1_0 : ByteArray) (a1_1 : Int) (a1_2 : Int) (a1_3 : ByteArray) (a1_4 : Int) (r : Bool) (w : World) (h : laws_eqName.f a0_0 a0_1 a0_2 a0_3 a0_4 a1_0 a1_1 a1_2 a1_3 a1_4 = some r) :
    Calls Try.prog 32 #[.agg #[.string a0_0, .int .i64 a0_1, .int .i64 a0_2, .string a0_3, .int .i64 a0_4], .agg #[.string a1_0, .int .i64 a1_1, .int .i64 a1_2, .string a1_3, .int .i64 a1_4]] w fun e w' => e = .returned (.bool r) ∧ Below w.heap.size w w' := by
  have hu26 := Try.underlying26
  have HB := Aside0.mk (Below.refl w.heap.size w)
  have H : (if a0_0.toList = a1_0.toList then (if a0_1 = a1_1 then (if a0_2 = a1_2 then (if a0_3.toList = a1_3.toList then (if a0_4 = a1_4 then (some true) else (some false)) else (some false)) else (some false)) else (some false)) else (some false)) = some r := h
  clear h
  by_cases c3 : a0_0.toList = a1_0.toList
  · rw [if_pos c3] at H
    have c3b0 : (a0_0.toList == a1_0.toList) = true := beq_iff_eq.mpr c3
    have c3b1 : (a0_0.toList != a1_0.toList) = false := bne_eq_false_iff_eq.mpr c3
    clear c3
    by_cases c4 : a0_1 = a1_1
    · rw [if_pos c4] at H
      have c4b0 : (a0_1 == a1_1) = true := beq_iff_eq.mpr c4
      have c4b1 : (a0_1 != a1_1) = false := bne_eq_false_iff_eq.mpr c4
      clear c4
      by_cases c5 : a0_2 = a1_2
      · rw [if_pos c5] at H
        have c5b0 : (a0_2 == a1_2) = true := beq_iff_eq.mpr c5
        have c5b1 : (a0_2 != a1_2) = false := bne_eq_false_iff_eq.mpr c5
        clear c5
        by_cases c6 : a0_3.toList = a1_3.toList
        · rw [if_pos c6] at H
          have c6b0 : (a0_3.toList == a1_3.toList) = true := beq_iff_eq.mpr c6
          have c6b1 : (a0_3.toList != a1_3.toList) = false := bne_eq_false_iff_eq.mpr c6
          clear c6
          by_cases c7 : a0_4 = a1_4
          · rw [if_pos c7] at H
            have c7b0 : (a0_4 == a1_4) = true := beq_iff_eq.mpr c7
            have c7b1 : (a0_4 != a1_4) = false := bne_eq_false_iff_eq.mpr c7
            clear c7
            obtain rfl := Option.some.inj H
            go_enter Try.func32, Try.ntmps32
            go_wp2_with (first | ((with_reducible refine gate_dst (N := 2) rfl ?_); refine box_event ?hg (N := 2) ?hd (cs := #[.string a0_0, .int .i64 a0_1, .int .i64 a0_2, .string a0_3, .int .i64 a0_4]) (t := 26) ?hr ?_; (case hd => rfl); (case hg => rfl); (case hr => exact z_1); intro gb165 hg w8 hbox hb; have n0_ := Aside0.mk (below_step (z_2) hb); have n1_ := Aside0.mk (hbox); have n2_ := Aside0.mk ((z_3 : w.heap.size ≤ gb165)); have n3_ := Aside0.mk ((z_3 : w.heap.size ≤ gb165)); clear HB; have HB := n0_; have BK165 := n1_; have GW165 := n2_; have GE165 := n3_; clear n0_ n1_ n2_ n3_; clear hb hbox hg) | ((with_reducible refine gate_dst (N := 3) rfl ?_); refine box_event ?hg (N := 3) ?hd (cs := #[.string a1_0, .int .i64 a1_1, .int .i64 a1_2, .string a1_3, .int .i64 a1_4]) (t := 26) ?hr ?_; (case hd => rfl); (case hg => rfl); (case hr => exact z_1); intro gb166 hg w9 hbox hb; have n0_ := Aside0.mk (blk_below (g := gb165) (o := .cells #[.string a0_0, .int .i64 a0_1, .int .i64 a0_2, .string a0_3, .int .i64 a0_4] 26 (0, 0)) (z_43) hb); have n1_ := Aside0.mk (below_step (z_44) hb); have n2_ := Aside0.mk (hbox); have n3_ := Aside0.mk ((z_45 : w.heap.size ≤ gb166)); have n4_ := Aside0.mk ((z_45 : w.heap.size ≤ gb166)); have n5_ := Aside0.mk ((z_46 : gb165 ≠ gb166)); have n6_ := Aside0.mk ((z_47 : gb166 ≠ gb165)); clear BK165; clear HB; have BK165 := n0_; have HB := n1_; have BK166 := n2_; have GW166 := n3_; have GE166 := n4_; have NB165_166 := n5_; have NB166_165 := n6_; clear n0_ n1_ n2_ n3_ n4_ n5_ n6_; clear hb hbox hg; have hnb10 := NB165_166.out; have hnc10 := NB166_165.out; have hcz11_0 : w9.cell? ⟨gb165, 0, none⟩ = some (.string a0_0) := (blk_cell BK165.out 0).trans rfl; have hcz11_1 : w9.cell? ⟨gb165, 1, none⟩ = some (.int .i64 a0_1) := (blk_cell BK165.out 1).trans rfl; have hcz11_2 : w9.cell? ⟨gb165, 2, none⟩ = some (.int .i64 a0_2) := (blk_cell BK165.out 2).trans rfl; have hcz11_3 : w9.cell? ⟨gb165, 3, none⟩ = some (.string a0_3) := (blk_cell BK165.out 3).trans rfl; have hcz11_4 : w9.cell? ⟨gb165, 4, none⟩ = some (.int .i64 a0_4) := (blk_cell BK165.out 4).trans rfl; have hfz11_0 := blk_frozen BK165.out 0; have hfz11_1 := blk_frozen BK165.out 1; have hfz11_2 := blk_frozen BK165.out 2; have hfz11_3 := blk_frozen BK165.out 3; have hfz11_4 := blk_frozen BK165.out 4; have hcz12_0 : w9.cell? ⟨gb166, 0, none⟩ = some (.string a1_0) := (blk_cell BK166.out 0).trans rfl; have hcz12_1 : w9.cell? ⟨gb166, 1, none⟩ = some (.int .i64 a1_1) := (blk_cell BK166.out 1).trans rfl; have hcz12_2 : w9.cell? ⟨gb166, 2, none⟩ = some (.int .i64 a1_2) := (blk_cell BK166.out 2).trans rfl; have hcz12_3 : w9.cell? ⟨gb166, 3, none⟩ = some (.string a1_3) := (blk_cell BK166.out 3).trans rfl; have hcz12_4 : w9.cell? ⟨gb166, 4, none⟩ = some (.int .i64 a1_4) := (blk_cell BK166.out 4).trans rfl; have hfz12_0 := blk_frozen BK166.out 0; have hfz12_1 := blk_frozen BK166.out 1; have hfz12_2 := blk_frozen BK166.out 2; have hfz12_3 := blk_frozen BK166.out 3; have hfz12_4 := blk_frozen BK166.out 4))
            go_ret
            exact ⟨z_4, z_48⟩
          · rw [if_neg c7] at H
            have c7b0 : (a0_4 == a1_4) = false := beq_eq_false_iff_ne.mpr c7
            have c7b1 : (a0_4 != a1_4) = true := bne_iff_ne.mpr c7
            obtain rfl := Option.some.inj H
            go_enter Try.func32, Try.ntmps32
            go_wp2_with (first | ((with_reducible refine gate_dst (N := 2) rfl ?_); refine box_event ?hg (N := 2) ?hd (cs := #[.string a0_0, .int .i64 a0_1, .int .i64 a0_2, .string a0_3, .int .i64 a0_4]) (t := 26) ?hr ?_; (case hd => rfl); (case hg => rfl); (case hr => exact z_1); intro gb165 hg w13 hbox hb; have n0_ := Aside0.mk (below_step (z_2) hb); have n1_ := Aside0.mk (hbox); have n2_ := Aside0.mk ((z_3 : w.heap.size ≤ gb165)); have n3_ := Aside0.mk ((z_3 : w.heap.size ≤ gb165)); clear HB; have HB := n0_; have BK165 := n1_; have GW165 := n2_; have GE165 := n3_; clear n0_ n1_ n2_ n3_; clear hb hbox hg) | ((with_reducible refine gate_dst (N := 3) rfl ?_); refine box_event ?hg (N := 3) ?hd (cs := #[.string a1_0, .int .i64 a1_1, .int .i64 a1_2, .string a1_3, .int .i64 a1_4]) (t := 26) ?hr ?_; (case hd => rfl); (case hg => rfl); (case hr => exact z_1); intro gb166 hg w14 hbox hb; have n0_ := Aside0.mk (blk_below (g := gb165) (o := .cells #[.string a0_0, .int .i64 a0_1, .int .i64 a0_2, .string a0_3, .int .i64 a0_4] 26 (0, 0)) (z_43) hb); have n1_ := Aside0.mk (below_step (z_44) hb); have n2_ := Aside0.mk (hbox); have n3_ := Aside0.mk ((z_45 : w.heap.size ≤ gb166)); have n4_ := Aside0.mk ((z_45 : w.heap.size ≤ gb166)); have n5_ := Aside0.mk ((z_46 : gb165 ≠ gb166)); have n6_ := Aside0.mk ((z_47 : gb166 ≠ gb165)); clear BK165; clear HB; have BK165 := n0_; have HB := n1_; have BK166 := n2_; have GW166 := n3_; have GE166 := n4_; have NB165_166 := n5_; have NB166_165 := n6_; clear n0_ n1_ n2_ n3_ n4_ n5_ n6_; clear hb hbox hg; have hnb15 := NB165_166.out; have hnc15 := NB166_165.out; have hcz16_0 : w14.cell? ⟨gb165, 0, none⟩ = some (.string a0_0) := (blk_cell BK165.out 0).trans rfl; have hcz16_1 : w14.cell? ⟨gb165, 1, none⟩ = some (.int .i64 a0_1) := (blk_cell BK165.out 1).trans rfl; have hcz16_2 : w14.cell? ⟨gb165, 2, none⟩ = some (.int .i64 a0_2) := (blk_cell BK165.out 2).trans rfl; have hcz16_3 : w14.cell? ⟨gb165, 3, none⟩ = some (.string a0_3) := (blk_cell BK165.out 3).trans rfl; have hcz16_4 : w14.cell? ⟨gb165, 4, none⟩ = some (.int .i64 a0_4) := (blk_cell BK165.out 4).trans rfl; have hfz16_0 := blk_frozen BK165.out 0; have hfz16_1 := blk_frozen BK165.out 1; have hfz16_2 := blk_frozen BK165.out 2; have hfz16_3 := blk_frozen BK165.out 3; have hfz16_4 := blk_frozen BK165.out 4; have hcz17_0 : w14.cell? ⟨gb166, 0, none⟩ = some (.string a1_0) := (blk_cell BK166.out 0).trans rfl; have hcz17_1 : w14.cell? ⟨gb166, 1, none⟩ = some (.int .i64 a1_1) := (blk_cell BK166.out 1).trans rfl; have hcz17_2 : w14.cell? ⟨gb166, 2, none⟩ = some (.int .i64 a1_2) := (blk_cell BK166.out 2).trans rfl; have hcz17_3 : w14.cell? ⟨gb166, 3, none⟩ = some (.string a1_3) := (blk_cell BK166.out 3).trans rfl; have hcz17_4 : w14.cell? ⟨gb166, 4, none⟩ = some (.int .i64 a1_4) := (blk_cell BK166.out 4).trans rfl; have hfz17_0 := blk_frozen BK166.out 0; have hfz17_1 := blk_frozen BK166.out 1; have hfz17_2 := blk_frozen BK166.out 2; have hfz17_3 := blk_frozen BK166.out 3; have hfz17_4 := blk_frozen BK166.out 4))
            go_ret
            exact ⟨z_4, z_48⟩
        · rw [if_neg c6] at H
          have c6b0 : (a0_3.toList == a1_3.toList) = false := beq_eq_false_iff_ne.mpr c6
          have c6b1 : (a0_3.toList != a1_3.toList) = true := bne_iff_ne.mpr c6
          obtain rfl := Option.some.inj H
          go_enter Try.func32, Try.ntmps32
          go_wp2_with (first | ((with_reducible refine gate_dst (N := 2) rfl ?_); refine box_event ?hg (N := 2) ?hd (cs := #[.string a0_0, .int .i64 a0_1, .int .i64 a0_2, .string a0_3, .int .i64 a0_4]) (t := 26) ?hr ?_; (case hd => rfl); (case hg => rfl); (case hr => exact z_1); intro gb165 hg w18 hbox hb; have n0_ := Aside0.mk (below_step (z_2) hb); have n1_ := Aside0.mk (hbox); have n2_ := Aside0.mk ((z_3 : w.heap.size ≤ gb165)); have n3_ := Aside0.mk ((z_3 : w.heap.size ≤ gb165)); clear HB; have HB := n0_; have BK165 := n1_; have GW165 := n2_; have GE165 := n3_; clear n0_ n1_ n2_ n3_; clear hb hbox hg) | ((with_reducible refine gate_dst (N := 3) rfl ?_); refine box_event ?hg (N := 3) ?hd (cs := #[.string a1_0, .int .i64 a1_1, .int .i64 a1_2, .string a1_3, .int .i64 a1_4]) (t := 26) ?hr ?_; (case hd => rfl); (case hg => rfl); (case hr => exact z_1); intro gb166 hg w19 hbox hb; have n0_ := Aside0.mk (blk_below (g := gb165) (o := .cells #[.string a0_0, .int .i64 a0_1, .int .i64 a0_2, .string a0_3, .int .i64 a0_4] 26 (0, 0)) (z_43) hb); have n1_ := Aside0.mk (below_step (z_44) hb); have n2_ := Aside0.mk (hbox); have n3_ := Aside0.mk ((z_45 : w.heap.size ≤ gb166)); have n4_ := Aside0.mk ((z_45 : w.heap.size ≤ gb166)); have n5_ := Aside0.mk ((z_46 : gb165 ≠ gb166)); have n6_ := Aside0.mk ((z_47 : gb166 ≠ gb165)); clear BK165; clear HB; have BK165 := n0_; have HB := n1_; have BK166 := n2_; have GW166 := n3_; have GE166 := n4_; have NB165_166 := n5_; have NB166_165 := n6_; clear n0_ n1_ n2_ n3_ n4_ n5_ n6_; clear hb hbox hg; have hnb20 := NB165_166.out; have hnc20 := NB166_165.out; have hcz21_0 : w19.cell? ⟨gb165, 0, none⟩ = some (.string a0_0) := (blk_cell BK165.out 0).trans rfl; have hcz21_1 : w19.cell? ⟨gb165, 1, none⟩ = some (.int .i64 a0_1) := (blk_cell BK165.out 1).trans rfl; have hcz21_2 : w19.cell? ⟨gb165, 2, none⟩ = some (.int .i64 a0_2) := (blk_cell BK165.out 2).trans rfl; have hcz21_3 : w19.cell? ⟨gb165, 3, none⟩ = some (.string a0_3) := (blk_cell BK165.out 3).trans rfl; have hcz21_4 : w19.cell? ⟨gb165, 4, none⟩ = some (.int .i64 a0_4) := (blk_cell BK165.out 4).trans rfl; have hfz21_0 := blk_frozen BK165.out 0; have hfz21_1 := blk_frozen BK165.out 1; have hfz21_2 := blk_frozen BK165.out 2; have hfz21_3 := blk_frozen BK165.out 3; have hfz21_4 := blk_frozen BK165.out 4; have hcz22_0 : w19.cell? ⟨gb166, 0, none⟩ = some (.string a1_0) := (blk_cell BK166.out 0).trans rfl; have hcz22_1 : w19.cell? ⟨gb166, 1, none⟩ = some (.int .i64 a1_1) := (blk_cell BK166.out 1).trans rfl; have hcz22_2 : w19.cell? ⟨gb166, 2, none⟩ = some (.int .i64 a1_2) := (blk_cell BK166.out 2).trans rfl; have hcz22_3 : w19.cell? ⟨gb166, 3, none⟩ = some (.string a1_3) := (blk_cell BK166.out 3).trans rfl; have hcz22_4 : w19.cell? ⟨gb166, 4, none⟩ = some (.int .i64 a1_4) := (blk_cell BK166.out 4).trans rfl; have hfz22_0 := blk_frozen BK166.out 0; have hfz22_1 := blk_frozen BK166.out 1; have hfz22_2 := blk_frozen BK166.out 2; have hfz22_3 := blk_frozen BK166.out 3; have hfz22_4 := blk_frozen BK166.out 4))
          go_ret
          exact ⟨z_4, z_48⟩
      · rw [if_neg c5] at H
        have c5b0 : (a0_2 == a1_2) = false := beq_eq_false_iff_ne.mpr c5
        have c5b1 : (a0_2 != a1_2) = true := bne_iff_ne.mpr c5
        obtain rfl := Option.some.inj H
        go_enter Try.func32, Try.ntmps32
        go_wp2_with (first | ((with_reducible refine gate_dst (N := 2) rfl ?_); refine box_event ?hg (N := 2) ?hd (cs := #[.string a0_0, .int .i64 a0_1, .int .i64 a0_2, .string a0_3, .int .i64 a0_4]) (t := 26) ?hr ?_; (case hd => rfl); (case hg => rfl); (case hr => exact z_1); intro gb165 hg w23 hbox hb; have n0_ := Aside0.mk (below_step (z_2) hb); have n1_ := Aside0.mk (hbox); have n2_ := Aside0.mk ((z_3 : w.heap.size ≤ gb165)); have n3_ := Aside0.mk ((z_3 : w.heap.size ≤ gb165)); clear HB; have HB := n0_; have BK165 := n1_; have GW165 := n2_; have GE165 := n3_; clear n0_ n1_ n2_ n3_; clear hb hbox hg) | ((with_reducible refine gate_dst (N := 3) rfl ?_); refine box_event ?hg (N := 3) ?hd (cs := #[.string a1_0, .int .i64 a1_1, .int .i64 a1_2, .string a1_3, .int .i64 a1_4]) (t := 26) ?hr ?_; (case hd => rfl); (case hg => rfl); (case hr => exact z_1); intro gb166 hg w24 hbox hb; have n0_ := Aside0.mk (blk_below (g := gb165) (o := .cells #[.string a0_0, .int .i64 a0_1, .int .i64 a0_2, .string a0_3, .int .i64 a0_4] 26 (0, 0)) (z_43) hb); have n1_ := Aside0.mk (below_step (z_44) hb); have n2_ := Aside0.mk (hbox); have n3_ := Aside0.mk ((z_45 : w.heap.size ≤ gb166)); have n4_ := Aside0.mk ((z_45 : w.heap.size ≤ gb166)); have n5_ := Aside0.mk ((z_46 : gb165 ≠ gb166)); have n6_ := Aside0.mk ((z_47 : gb166 ≠ gb165)); clear BK165; clear HB; have BK165 := n0_; have HB := n1_; have BK166 := n2_; have GW166 := n3_; have GE166 := n4_; have NB165_166 := n5_; have NB166_165 := n6_; clear n0_ n1_ n2_ n3_ n4_ n5_ n6_; clear hb hbox hg; have hnb25 := NB165_166.out; have hnc25 := NB166_165.out; have hcz26_0 : w24.cell? ⟨gb165, 0, none⟩ = some (.string a0_0) := (blk_cell BK165.out 0).trans rfl; have hcz26_1 : w24.cell? ⟨gb165, 1, none⟩ = some (.int .i64 a0_1) := (blk_cell BK165.out 1).trans rfl; have hcz26_2 : w24.cell? ⟨gb165, 2, none⟩ = some (.int .i64 a0_2) := (blk_cell BK165.out 2).trans rfl; have hcz26_3 : w24.cell? ⟨gb165, 3, none⟩ = some (.string a0_3) := (blk_cell BK165.out 3).trans rfl; have hcz26_4 : w24.cell? ⟨gb165, 4, none⟩ = some (.int .i64 a0_4) := (blk_cell BK165.out 4).trans rfl; have hfz26_0 := blk_frozen BK165.out 0; have hfz26_1 := blk_frozen BK165.out 1; have hfz26_2 := blk_frozen BK165.out 2; have hfz26_3 := blk_frozen BK165.out 3; have hfz26_4 := blk_frozen BK165.out 4; have hcz27_0 : w24.cell? ⟨gb166, 0, none⟩ = some (.string a1_0) := (blk_cell BK166.out 0).trans rfl; have hcz27_1 : w24.cell? ⟨gb166, 1, none⟩ = some (.int .i64 a1_1) := (blk_cell BK166.out 1).trans rfl; have hcz27_2 : w24.cell? ⟨gb166, 2, none⟩ = some (.int .i64 a1_2) := (blk_cell BK166.out 2).trans rfl; have hcz27_3 : w24.cell? ⟨gb166, 3, none⟩ = some (.string a1_3) := (blk_cell BK166.out 3).trans rfl; have hcz27_4 : w24.cell? ⟨gb166, 4, none⟩ = some (.int .i64 a1_4) := (blk_cell BK166.out 4).trans rfl; have hfz27_0 := blk_frozen BK166.out 0; have hfz27_1 := blk_frozen BK166.out 1; have hfz27_2 := blk_frozen BK166.out 2; have hfz27_3 := blk_frozen BK166.out 3; have hfz27_4 := blk_frozen BK166.out 4))
        go_ret
        exact ⟨z_4, z_48⟩
    · rw [if_neg c4] at H
      have c4b0 : (a0_1 == a1_1) = false := beq_eq_false_iff_ne.mpr c4
      have c4b1 : (a0_1 != a1_1) = true := bne_iff_ne.mpr c4
      obtain rfl := Option.some.inj H
      go_enter Try.func32, Try.ntmps32
      go_wp2_with (first | ((with_reducible refine gate_dst (N := 2) rfl ?_); refine box_event ?hg (N := 2) ?hd (cs := #[.string a0_0, .int .i64 a0_1, .int .i64 a0_2, .string a0_3, .int .i64 a0_4]) (t := 26) ?hr ?_; (case hd => rfl); (case hg => rfl); (case hr => exact z_1); intro gb165 hg w28 hbox hb; have n0_ := Aside0.mk (below_step (z_2) hb); have n1_ := Aside0.mk (hbox); have n2_ := Aside0.mk ((z_3 : w.heap.size ≤ gb165)); have n3_ := Aside0.mk ((z_3 : w.heap.size ≤ gb165)); clear HB; have HB := n0_; have BK165 := n1_; have GW165 := n2_; have GE165 := n3_; clear n0_ n1_ n2_ n3_; clear hb hbox hg) | ((with_reducible refine gate_dst (N := 3) rfl ?_); refine box_event ?hg (N := 3) ?hd (cs := #[.string a1_0, .int .i64 a1_1, .int .i64 a1_2, .string a1_3, .int .i64 a1_4]) (t := 26) ?hr ?_; (case hd => rfl); (case hg => rfl); (case hr => exact z_1); intro gb166 hg w29 hbox hb; have n0_ := Aside0.mk (blk_below (g := gb165) (o := .cells #[.string a0_0, .int .i64 a0_1, .int .i64 a0_2, .string a0_3, .int .i64 a0_4] 26 (0, 0)) (z_43) hb); have n1_ := Aside0.mk (below_step (z_44) hb); have n2_ := Aside0.mk (hbox); have n3_ := Aside0.mk ((z_45 : w.heap.size ≤ gb166)); have n4_ := Aside0.mk ((z_45 : w.heap.size ≤ gb166)); have n5_ := Aside0.mk ((z_46 : gb165 ≠ gb166)); have n6_ := Aside0.mk ((z_47 : gb166 ≠ gb165)); clear BK165; clear HB; have BK165 := n0_; have HB := n1_; have BK166 := n2_; have GW166 := n3_; have GE166 := n4_; have NB165_166 := n5_; have NB166_165 := n6_; clear n0_ n1_ n2_ n3_ n4_ n5_ n6_; clear hb hbox hg; have hnb30 := NB165_166.out; have hnc30 := NB166_165.out; have hcz31_0 : w29.cell? ⟨gb165, 0, none⟩ = some (.string a0_0) := (blk_cell BK165.out 0).trans rfl; have hcz31_1 : w29.cell? ⟨gb165, 1, none⟩ = some (.int .i64 a0_1) := (blk_cell BK165.out 1).trans rfl; have hcz31_2 : w29.cell? ⟨gb165, 2, none⟩ = some (.int .i64 a0_2) := (blk_cell BK165.out 2).trans rfl; have hcz31_3 : w29.cell? ⟨gb165, 3, none⟩ = some (.string a0_3) := (blk_cell BK165.out 3).trans rfl; have hcz31_4 : w29.cell? ⟨gb165, 4, none⟩ = some (.int .i64 a0_4) := (blk_cell BK165.out 4).trans rfl; have hfz31_0 := blk_frozen BK165.out 0; have hfz31_1 := blk_frozen BK165.out 1; have hfz31_2 := blk_frozen BK165.out 2; have hfz31_3 := blk_frozen BK165.out 3; have hfz31_4 := blk_frozen BK165.out 4; have hcz32_0 : w29.cell? ⟨gb166, 0, none⟩ = some (.string a1_0) := (blk_cell BK166.out 0).trans rfl; have hcz32_1 : w29.cell? ⟨gb166, 1, none⟩ = some (.int .i64 a1_1) := (blk_cell BK166.out 1).trans rfl; have hcz32_2 : w29.cell? ⟨gb166, 2, none⟩ = some (.int .i64 a1_2) := (blk_cell BK166.out 2).trans rfl; have hcz32_3 : w29.cell? ⟨gb166, 3, none⟩ = some (.string a1_3) := (blk_cell BK166.out 3).trans rfl; have hcz32_4 : w29.cell? ⟨gb166, 4, none⟩ = some (.int .i64 a1_4) := (blk_cell BK166.out 4).trans rfl; have hfz32_0 := blk_frozen BK166.out 0; have hfz32_1 := blk_frozen BK166.out 1; have hfz32_2 := blk_frozen BK166.out 2; have hfz32_3 := blk_frozen BK166.out 3; have hfz32_4 := blk_frozen BK166.out 4))
      go_ret
      exact ⟨z_4, z_48⟩
  · rw [if_neg c3] at H
    have c3b0 : (a0_0.toList == a1_0.toList) = false := beq_eq_false_iff_ne.mpr c3
    have c3b1 : (a0_0.toList != a1_0.toList) = true := bne_iff_ne.mpr c3
    obtain rfl := Option.some.inj H
    go_enter Try.func32, Try.ntmps32
    go_wp2_with (first | ((with_reducible refine gate_dst (N := 2) rfl ?_); refine box_event ?hg (N := 2) ?hd (cs := #[.string a0_0, .int .i64 a0_1, .int .i64 a0_2, .string a0_3, .int .i64 a0_4]) (t := 26) ?hr ?_; (case hd => rfl); (case hg => rfl); (case hr => exact z_1); intro gb165 hg w33 hbox hb; have n0_ := Aside0.mk (below_step (z_2) hb); have n1_ := Aside0.mk (hbox); have n2_ := Aside0.mk ((z_3 : w.heap.size ≤ gb165)); have n3_ := Aside0.mk ((z_3 : w.heap.size ≤ gb165)); clear HB; have HB := n0_; have BK165 := n1_; have GW165 := n2_; have GE165 := n3_; clear n0_ n1_ n2_ n3_; clear hb hbox hg) | ((with_reducible refine gate_dst (N := 3) rfl ?_); refine box_event ?hg (N := 3) ?hd (cs := #[.string a1_0, .int .i64 a1_1, .int .i64 a1_2, .string a1_3, .int .i64 a1_4]) (t := 26) ?hr ?_; (case hd => rfl); (case hg => rfl); (case hr => exact z_1); intro gb166 hg w34 hbox hb; have n0_ := Aside0.mk (blk_below (g := gb165) (o := .cells #[.string a0_0, .int .i64 a0_1, .int .i64 a0_2, .string a0_3, .int .i64 a0_4] 26 (0, 0)) (z_43) hb); have n1_ := Aside0.mk (below_step (z_44) hb); have n2_ := Aside0.mk (hbox); have n3_ := Aside0.mk ((z_45 : w.heap.size ≤ gb166)); have n4_ := Aside0.mk ((z_45 : w.heap.size ≤ gb166)); have n5_ := Aside0.mk ((z_46 : gb165 ≠ gb166)); have n6_ := Aside0.mk ((z_47 : gb166 ≠ gb165)); clear BK165; clear HB; have BK165 := n0_; have HB := n1_; have BK166 := n2_; have GW166 := n3_; have GE166 := n4_; have NB165_166 := n5_; have NB166_165 := n6_; clear n0_ n1_ n2_ n3_ n4_ n5_ n6_; clear hb hbox hg; have hnb35 := NB165_166.out; have hnc35 := NB166_165.out; have hcz36_0 : w34.cell? ⟨gb165, 0, none⟩ = some (.string a0_0) := (blk_cell BK165.out 0).trans rfl; have hcz36_1 : w34.cell? ⟨gb165, 1, none⟩ = some (.int .i64 a0_1) := (blk_cell BK165.out 1).trans rfl; have hcz36_2 : w34.cell? ⟨gb165, 2, none⟩ = some (.int .i64 a0_2) := (blk_cell BK165.out 2).trans rfl; have hcz36_3 : w34.cell? ⟨gb165, 3, none⟩ = some (.string a0_3) := (blk_cell BK165.out 3).trans rfl; have hcz36_4 : w34.cell? ⟨gb165, 4, none⟩ = some (.int .i64 a0_4) := (blk_cell BK165.out 4).trans rfl; have hfz36_0 := blk_frozen BK165.out 0; have hfz36_1 := blk_frozen BK165.out 1; have hfz36_2 := blk_frozen BK165.out 2; have hfz36_3 := blk_frozen BK165.out 3; have hfz36_4 := blk_frozen BK165.out 4; have hcz37_0 : w34.cell? ⟨gb166, 0, none⟩ = some (.string a1_0) := (blk_cell BK166.out 0).trans rfl; have hcz37_1 : w34.cell? ⟨gb166, 1, none⟩ = some (.int .i64 a1_1) := (blk_cell BK166.out 1).trans rfl; have hcz37_2 : w34.cell? ⟨gb166, 2, none⟩ = some (.int .i64 a1_2) := (blk_cell BK166.out 2).trans rfl; have hcz37_3 : w34.cell? ⟨gb166, 3, none⟩ = some (.string a1_3) := (blk_cell BK166.out 3).trans rfl; have hcz37_4 : w34.cell? ⟨gb166, 4, none⟩ = some (.int .i64 a1_4) := (blk_cell BK166.out 4).trans rfl; have hfz37_0 := blk_frozen BK166.out 0; have hfz37_1 := blk_frozen BK166.out 1; have hfz37_2 := blk_frozen BK166.out 2; have hfz37_3 := blk_frozen BK166.out 3; have hfz37_4 := blk_frozen BK166.out 4))
    go_ret
    exact ⟨z_4, z_48⟩

/-! ### laws_eqKept: function 67 -/
def laws_eqKept.f (a0_0 : ByteArray) (a0_1 : Int) (a0_2 : Int) (a0_3 : ByteArray) (a0_4 : Int) (a0_5 : Int) (a1_0 : ByteArray) (a1_1 : Int) (a1_2 : Int) (a1_3 : ByteArray) (a1_4 : Int) (a1_5 : Int) : Option (Bool) := (laws_eqName.f a0_0 a0_1 a0_2 a0_3 a0_4 a1_0 a1_1 a1_2 a1_3 a1_4).bind fun t169 => (if t169 = true then (if a0_5 = a1_5 then (some true) else (some false)) else (some false))
set_option maxHeartbeats 8000000 in
set_option maxRecDepth 100000 in
theorem laws_eqKept.calls (a0_0 : ByteArray) (a0_1 : Int) (a0_2 : Int) (a0_3 : ByteArray) (a0_4 : Int) (a0_5 : Int) (a1_0 : ByteArray) (a1_1 : Int) (a1_2 : Int) (a1_3 : ByteArray) (a1_4 : Int) (a1_5 : Int) (r : Bool) (w : World) (h : laws_eqKept.f a0_0 a0_1 a0_2 a0_3 a0_4 a0_5 a1_0 a1_1 a1_2 a1_3 a1_4 a1_5 = some r) :
    Calls Try.prog 67 #[.agg #[.string a0_0, .int .i64 a0_1, .int .i64 a0_2, .string a0_3, .int .i64 a0_4, .int .i64 a0_5], .agg #[.string a1_0, .int .i64 a1_1, .int .i64 a1_2, .string a1_3, .int .i64 a1_4, .int .i64 a1_5]] w fun e w' => e = .returned (.bool r) ∧ Below w.heap.size w w' := by
  have hu83 := Try.underlying83
  have hu26 := Try.underlying26
  have HB := Aside0.mk (Below.refl w.heap.size w)
  have H : ((laws_eqName.f a0_0 a0_1 a0_2 a0_3 a0_4 a1_0 a1_1 a1_2 a1_3 a1_4).bind fun t169 => (if t169 = true then (if a0_5 = a1_5 then (some true) else (some false)) else (some false))) = some r := h
  clear h
  replace H := Option.bind_eq_some_iff.mp H
  obtain ⟨t169, A30, H⟩ := H
  have A3 := Aside0.mk A30
  clear A30
  by_cases c4 : t169 = true
  · subst c4
    rw [if_pos rfl] at H
    by_cases c5 : a0_5 = a1_5
    · rw [if_pos c5] at H
      have c5b0 : (a0_5 == a1_5) = true := beq_iff_eq.mpr c5
      have c5b1 : (a0_5 != a1_5) = false := bne_eq_false_iff_eq.mpr c5
      clear c5
      obtain rfl := Option.some.inj H
      go_enter Try.func67, Try.ntmps67
      go_wp2_with (first | ((with_reducible refine gate_dst (N := 2) rfl ?_); refine box_event ?hg (N := 2) ?hd (cs := #[.string a0_0, .int .i64 a0_1, .int .i64 a0_2, .string a0_3, .int .i64 a0_4, .int .i64 a0_5]) (t := 83) ?hr ?_; (case hd => rfl); (case hg => rfl); (case hr => exact z_1); intro gb167 hg w6 hbox hb; have n0_ := Aside0.mk (below_step (z_2) hb); have n1_ := Aside0.mk (hbox); have n2_ := Aside0.mk ((z_3 : w.heap.size ≤ gb167)); have n3_ := Aside0.mk ((z_3 : w.heap.size ≤ gb167)); clear HB; have HB := n0_; have BK167 := n1_; have GW167 := n2_; have GE167 := n3_; clear n0_ n1_ n2_ n3_; clear hb hbox hg) | ((with_reducible refine gate_dst (N := 3) rfl ?_); refine box_event ?hg (N := 3) ?hd (cs := #[.string a1_0, .int .i64 a1_1, .int .i64 a1_2, .string a1_3, .int .i64 a1_4, .int .i64 a1_5]) (t := 83) ?hr ?_; (case hd => rfl); (case hg => rfl); (case hr => exact z_1); intro gb168 hg w7 hbox hb; have n0_ := Aside0.mk (blk_below (g := gb167) (o := .cells #[.string a0_0, .int .i64 a0_1, .int .i64 a0_2, .string a0_3, .int .i64 a0_4, .int .i64 a0_5] 83 (0, 0)) (z_49) hb); have n1_ := Aside0.mk (below_step (z_50) hb); have n2_ := Aside0.mk (hbox); have n3_ := Aside0.mk ((z_51 : w.heap.size ≤ gb168)); have n4_ := Aside0.mk ((z_51 : w.heap.size ≤ gb168)); have n5_ := Aside0.mk ((z_52 : gb167 ≠ gb168)); have n6_ := Aside0.mk ((z_53 : gb168 ≠ gb167)); clear BK167; clear HB; have BK167 := n0_; have HB := n1_; have BK168 := n2_; have GW168 := n3_; have GE168 := n4_; have NB167_168 := n5_; have NB168_167 := n6_; clear n0_ n1_ n2_ n3_ n4_ n5_ n6_; clear hb hbox hg; have hnb8 := NB167_168.out; have hnc8 := NB168_167.out; have hcz9_0 : w7.cell? ⟨gb167, 0, none⟩ = some (.string a0_0) := (blk_cell BK167.out 0).trans rfl; have hcz9_1 : w7.cell? ⟨gb167, 1, none⟩ = some (.int .i64 a0_1) := (blk_cell BK167.out 1).trans rfl; have hcz9_2 : w7.cell? ⟨gb167, 2, none⟩ = some (.int .i64 a0_2) := (blk_cell BK167.out 2).trans rfl; have hcz9_3 : w7.cell? ⟨gb167, 3, none⟩ = some (.string a0_3) := (blk_cell BK167.out 3).trans rfl; have hcz9_4 : w7.cell? ⟨gb167, 4, none⟩ = some (.int .i64 a0_4) := (blk_cell BK167.out 4).trans rfl; have hcz9_5 : w7.cell? ⟨gb167, 5, none⟩ = some (.int .i64 a0_5) := (blk_cell BK167.out 5).trans rfl; have hfz9_0 := blk_frozen BK167.out 0; have hfz9_1 := blk_frozen BK167.out 1; have hfz9_2 := blk_frozen BK167.out 2; have hfz9_3 := blk_frozen BK167.out 3; have hfz9_4 := blk_frozen BK167.out 4; have hfz9_5 := blk_frozen BK167.out 5; have hcz10_0 : w7.cell? ⟨gb168, 0, none⟩ = some (.string a1_0) := (blk_cell BK168.out 0).trans rfl; have hcz10_1 : w7.cell? ⟨gb168, 1, none⟩ = some (.int .i64 a1_1) := (blk_cell BK168.out 1).trans rfl; have hcz10_2 : w7.cell? ⟨gb168, 2, none⟩ = some (.int .i64 a1_2) := (blk_cell BK168.out 2).trans rfl; have hcz10_3 : w7.cell? ⟨gb168, 3, none⟩ = some (.string a1_3) := (blk_cell BK168.out 3).trans rfl; have hcz10_4 : w7.cell? ⟨gb168, 4, none⟩ = some (.int .i64 a1_4) := (blk_cell BK168.out 4).trans rfl; have hcz10_5 : w7.cell? ⟨gb168, 5, none⟩ = some (.int .i64 a1_5) := (blk_cell BK168.out 5).trans rfl; have hfz10_0 := blk_frozen BK168.out 0; have hfz10_1 := blk_frozen BK168.out 1; have hfz10_2 := blk_frozen BK168.out 2; have hfz10_3 := blk_frozen BK168.out 3; have hfz10_4 := blk_frozen BK168.out 4; have hfz10_5 := blk_frozen BK168.out 5) | ((with_reducible refine gate_callee (f := 32) rfl ?_); refine goesL_ (some 9) rfl rfl Try.func32 (z_0) rfl #[.agg #[.string a0_0, .int .i64 a0_1, .int .i64 a0_2, .string a0_3, .int .i64 a0_4], .agg #[.string a1_0, .int .i64 a1_1, .int .i64 a1_2, .string a1_3, .int .i64 a1_4]] rfl (z_6) ?_; (with_reducible refine (laws_eqName.calls a0_0 a0_1 a0_2 a0_3 a0_4 a1_0 a1_1 a1_2 a1_3 a1_4 true _ A3.out).mono ?_); rintro e w11 ⟨rfl, hb⟩; refine ⟨_, rfl, ?_⟩; have n0_ := Aside0.mk (blk_below (g := gb167) (o := .cells #[.string a0_0, .int .i64 a0_1, .int .i64 a0_2, .string a0_3, .int .i64 a0_4, .int .i64 a0_5] 83 (0, 0)) (z_49) hb); have n1_ := Aside0.mk (blk_below (g := gb168) (o := .cells #[.string a1_0, .int .i64 a1_1, .int .i64 a1_2, .string a1_3, .int .i64 a1_4, .int .i64 a1_5] 83 (0, 0)) (z_54) hb); have n2_ := Aside0.mk (below_step (z_55) hb); clear BK167; clear BK168; clear HB; have BK167 := n0_; have BK168 := n1_; have HB := n2_; clear n0_ n1_ n2_; (try clear hb); (try clear hb2); (try clear hk); (try clear hi); have hcz12_0 : w11.cell? ⟨gb167, 0, none⟩ = some (.string a0_0) := (blk_cell BK167.out 0).trans rfl; have hcz12_1 : w11.cell? ⟨gb167, 1, none⟩ = some (.int .i64 a0_1) := (blk_cell BK167.out 1).trans rfl; have hcz12_2 : w11.cell? ⟨gb167, 2, none⟩ = some (.int .i64 a0_2) := (blk_cell BK167.out 2).trans rfl; have hcz12_3 : w11.cell? ⟨gb167, 3, none⟩ = some (.string a0_3) := (blk_cell BK167.out 3).trans rfl; have hcz12_4 : w11.cell? ⟨gb167, 4, none⟩ = some (.int .i64 a0_4) := (blk_cell BK167.out 4).trans rfl; have hcz12_5 : w11.cell? ⟨gb167, 5, none⟩ = some (.int .i64 a0_5) := (blk_cell BK167.out 5).trans rfl; have hfz12_0 := blk_frozen BK167.out 0; have hfz12_1 := blk_frozen BK167.out 1; have hfz12_2 := blk_frozen BK167.out 2; have hfz12_3 := blk_frozen BK167.out 3; have hfz12_4 := blk_frozen BK167.out 4; have hfz12_5 := blk_frozen BK167.out 5; have hcz13_0 : w11.cell? ⟨gb168, 0, none⟩ = some (.string a1_0) := (blk_cell BK168.out 0).trans rfl; have hcz13_1 : w11.cell? ⟨gb168, 1, none⟩ = some (.int .i64 a1_1) := (blk_cell BK168.out 1).trans rfl; have hcz13_2 : w11.cell? ⟨gb168, 2, none⟩ = some (.int .i64 a1_2) := (blk_cell BK168.out 2).trans rfl; have hcz13_3 : w11.cell? ⟨gb168, 3, none⟩ = some (.string a1_3) := (blk_cell BK168.out 3).trans rfl; have hcz13_4 : w11.cell? ⟨gb168, 4, none⟩ = some (.int .i64 a1_4) := (blk_cell BK168.out 4).trans rfl; have hcz13_5 : w11.cell? ⟨gb168, 5, none⟩ = some (.int .i64 a1_5) := (blk_cell BK168.out 5).trans rfl; have hfz13_0 := blk_frozen BK168.out 0; have hfz13_1 := blk_frozen BK168.out 1; have hfz13_2 := blk_frozen BK168.out 2; have hfz13_3 := blk_frozen BK168.out 3; have hfz13_4 := blk_frozen BK168.out 4; have hfz13_5 := blk_frozen BK168.out 5))
      go_ret
      exact ⟨z_4, z_55⟩
    · rw [if_neg c5] at H
      have c5b0 : (a0_5 == a1_5) = false := beq_eq_false_iff_ne.mpr c5
      have c5b1 : (a0_5 != a1_5) = true := bne_iff_ne.mpr c5
      obtain rfl := Option.some.inj H
      go_enter Try.func67, Try.ntmps67
      go_wp2_with (first | ((with_reducible refine gate_dst (N := 2) rfl ?_); refine box_event ?hg (N := 2) ?hd (cs := #[.string a0_0, .int .i64 a0_1, .int .i64 a0_2, .string a0_3, .int .i64 a0_4, .int .i64 a0_5]) (t := 83) ?hr ?_; (case hd => rfl); (case hg => rfl); (case hr => exact z_1); intro gb167 hg w14 hbox hb; have n0_ := Aside0.mk (below_step (z_2) hb); have n1_ := Aside0.mk (hbox); have n2_ := Aside0.mk ((z_3 : w.heap.size ≤ gb167)); have n3_ := Aside0.mk ((z_3 : w.heap.size ≤ gb167)); clear HB; have HB := n0_; have BK167 := n1_; have GW167 := n2_; have GE167 := n3_; clear n0_ n1_ n2_ n3_; clear hb hbox hg) | ((with_reducible refine gate_dst (N := 3) rfl ?_); refine box_event ?hg (N := 3) ?hd (cs := #[.string a1_0, .int .i64 a1_1, .int .i64 a1_2, .string a1_3, .int .i64 a1_4, .int .i64 a1_5]) (t := 83) ?hr ?_; (case hd => rfl); (case hg => rfl); (case hr => exact z_1); intro gb168 hg w15 hbox hb; have n0_ := Aside0.mk (blk_below (g := gb167) (o := .cells #[.string a0_0, .int .i64 a0_1, .int .i64 a0_2, .string a0_3, .int .i64 a0_4, .int .i64 a0_5] 83 (0, 0)) (z_49) hb); have n1_ := Aside0.mk (below_step (z_50) hb); have n2_ := Aside0.mk (hbox); have n3_ := Aside0.mk ((z_51 : w.heap.size ≤ gb168)); have n4_ := Aside0.mk ((z_51 : w.heap.size ≤ gb168)); have n5_ := Aside0.mk ((z_52 : gb167 ≠ gb168)); have n6_ := Aside0.mk ((z_53 : gb168 ≠ gb167)); clear BK167; clear HB; have BK167 := n0_; have HB := n1_; have BK168 := n2_; have GW168 := n3_; have GE168 := n4_; have NB167_168 := n5_; have NB168_167 := n6_; clear n0_ n1_ n2_ n3_ n4_ n5_ n6_; clear hb hbox hg; have hnb16 := NB167_168.out; have hnc16 := NB168_167.out; have hcz17_0 : w15.cell? ⟨gb167, 0, none⟩ = some (.string a0_0) := (blk_cell BK167.out 0).trans rfl; have hcz17_1 : w15.cell? ⟨gb167, 1, none⟩ = some (.int .i64 a0_1) := (blk_cell BK167.out 1).trans rfl; have hcz17_2 : w15.cell? ⟨gb167, 2, none⟩ = some (.int .i64 a0_2) := (blk_cell BK167.out 2).trans rfl; have hcz17_3 : w15.cell? ⟨gb167, 3, none⟩ = some (.string a0_3) := (blk_cell BK167.out 3).trans rfl; have hcz17_4 : w15.cell? ⟨gb167, 4, none⟩ = some (.int .i64 a0_4) := (blk_cell BK167.out 4).trans rfl; have hcz17_5 : w15.cell? ⟨gb167, 5, none⟩ = some (.int .i64 a0_5) := (blk_cell BK167.out 5).trans rfl; have hfz17_0 := blk_frozen BK167.out 0; have hfz17_1 := blk_frozen BK167.out 1; have hfz17_2 := blk_frozen BK167.out 2; have hfz17_3 := blk_frozen BK167.out 3; have hfz17_4 := blk_frozen BK167.out 4; have hfz17_5 := blk_frozen BK167.out 5; have hcz18_0 : w15.cell? ⟨gb168, 0, none⟩ = some (.string a1_0) := (blk_cell BK168.out 0).trans rfl; have hcz18_1 : w15.cell? ⟨gb168, 1, none⟩ = some (.int .i64 a1_1) := (blk_cell BK168.out 1).trans rfl; have hcz18_2 : w15.cell? ⟨gb168, 2, none⟩ = some (.int .i64 a1_2) := (blk_cell BK168.out 2).trans rfl; have hcz18_3 : w15.cell? ⟨gb168, 3, none⟩ = some (.string a1_3) := (blk_cell BK168.out 3).trans rfl; have hcz18_4 : w15.cell? ⟨gb168, 4, none⟩ = some (.int .i64 a1_4) := (blk_cell BK168.out 4).trans rfl; have hcz18_5 : w15.cell? ⟨gb168, 5, none⟩ = some (.int .i64 a1_5) := (blk_cell BK168.out 5).trans rfl; have hfz18_0 := blk_frozen BK168.out 0; have hfz18_1 := blk_frozen BK168.out 1; have hfz18_2 := blk_frozen BK168.out 2; have hfz18_3 := blk_frozen BK168.out 3; have hfz18_4 := blk_frozen BK168.out 4; have hfz18_5 := blk_frozen BK168.out 5) | ((with_reducible refine gate_callee (f := 32) rfl ?_); refine goesL_ (some 9) rfl rfl Try.func32 (z_0) rfl #[.agg #[.string a0_0, .int .i64 a0_1, .int .i64 a0_2, .string a0_3, .int .i64 a0_4], .agg #[.string a1_0, .int .i64 a1_1, .int .i64 a1_2, .string a1_3, .int .i64 a1_4]] rfl (z_6) ?_; (with_reducible refine (laws_eqName.calls a0_0 a0_1 a0_2 a0_3 a0_4 a1_0 a1_1 a1_2 a1_3 a1_4 true _ A3.out).mono ?_); rintro e w19 ⟨rfl, hb⟩; refine ⟨_, rfl, ?_⟩; have n0_ := Aside0.mk (blk_below (g := gb167) (o := .cells #[.string a0_0, .int .i64 a0_1, .int .i64 a0_2, .string a0_3, .int .i64 a0_4, .int .i64 a0_5] 83 (0, 0)) (z_49) hb); have n1_ := Aside0.mk (blk_below (g := gb168) (o := .cells #[.string a1_0, .int .i64 a1_1, .int .i64 a1_2, .string a1_3, .int .i64 a1_4, .int .i64 a1_5] 83 (0, 0)) (z_54) hb); have n2_ := Aside0.mk (below_step (z_55) hb); clear BK167; clear BK168; clear HB; have BK167 := n0_; have BK168 := n1_; have HB := n2_; clear n0_ n1_ n2_; (try clear hb); (try clear hb2); (try clear hk); (try clear hi); have hcz20_0 : w19.cell? ⟨gb167, 0, none⟩ = some (.string a0_0) := (blk_cell BK167.out 0).trans rfl; have hcz20_1 : w19.cell? ⟨gb167, 1, none⟩ = some (.int .i64 a0_1) := (blk_cell BK167.out 1).trans rfl; have hcz20_2 : w19.cell? ⟨gb167, 2, none⟩ = some (.int .i64 a0_2) := (blk_cell BK167.out 2).trans rfl; have hcz20_3 : w19.cell? ⟨gb167, 3, none⟩ = some (.string a0_3) := (blk_cell BK167.out 3).trans rfl; have hcz20_4 : w19.cell? ⟨gb167, 4, none⟩ = some (.int .i64 a0_4) := (blk_cell BK167.out 4).trans rfl; have hcz20_5 : w19.cell? ⟨gb167, 5, none⟩ = some (.int .i64 a0_5) := (blk_cell BK167.out 5).trans rfl; have hfz20_0 := blk_frozen BK167.out 0; have hfz20_1 := blk_frozen BK167.out 1; have hfz20_2 := blk_frozen BK167.out 2; have hfz20_3 := blk_frozen BK167.out 3; have hfz20_4 := blk_frozen BK167.out 4; have hfz20_5 := blk_frozen BK167.out 5; have hcz21_0 : w19.cell? ⟨gb168, 0, none⟩ = some (.string a1_0) := (blk_cell BK168.out 0).trans rfl; have hcz21_1 : w19.cell? ⟨gb168, 1, none⟩ = some (.int .i64 a1_1) := (blk_cell BK168.out 1).trans rfl; have hcz21_2 : w19.cell? ⟨gb168, 2, none⟩ = some (.int .i64 a1_2) := (blk_cell BK168.out 2).trans rfl; have hcz21_3 : w19.cell? ⟨gb168, 3, none⟩ = some (.string a1_3) := (blk_cell BK168.out 3).trans rfl; have hcz21_4 : w19.cell? ⟨gb168, 4, none⟩ = some (.int .i64 a1_4) := (blk_cell BK168.out 4).trans rfl; have hcz21_5 : w19.cell? ⟨gb168, 5, none⟩ = some (.int .i64 a1_5) := (blk_cell BK168.out 5).trans rfl; have hfz21_0 := blk_frozen BK168.out 0; have hfz21_1 := blk_frozen BK168.out 1; have hfz21_2 := blk_frozen BK168.out 2; have hfz21_3 := blk_frozen BK168.out 3; have hfz21_4 := blk_frozen BK168.out 4; have hfz21_5 := blk_frozen BK168.out 5))
      go_ret
      exact ⟨z_4, z_55⟩
  · replace c4 := Bool.eq_false_iff.mpr c4
    subst c4
    rw [if_neg (show ¬ (false = true) by decide)] at H
    obtain rfl := Option.some.inj H
    go_enter Try.func67, Try.ntmps67
    go_wp2_with (first | ((with_reducible refine gate_dst (N := 2) rfl ?_); refine box_event ?hg (N := 2) ?hd (cs := #[.string a0_0, .int .i64 a0_1, .int .i64 a0_2, .string a0_3, .int .i64 a0_4, .int .i64 a0_5]) (t := 83) ?hr ?_; (case hd => rfl); (case hg => rfl); (case hr => exact z_1); intro gb167 hg w22 hbox hb; have n0_ := Aside0.mk (below_step (z_2) hb); have n1_ := Aside0.mk (hbox); have n2_ := Aside0.mk ((z_3 : w.heap.size ≤ gb167)); have n3_ := Aside0.mk ((z_3 : w.heap.size ≤ gb167)); clear HB; have HB := n0_; have BK167 := n1_; have GW167 := n2_; have GE167 := n3_; clear n0_ n1_ n2_ n3_; clear hb hbox hg) | ((with_reducible refine gate_dst (N := 3) rfl ?_); refine box_event ?hg (N := 3) ?hd (cs := #[.string a1_0, .int .i64 a1_1, .int .i64 a1_2, .string a1_3, .int .i64 a1_4, .int .i64 a1_5]) (t := 83) ?hr ?_; (case hd => rfl); (case hg => rfl); (case hr => exact z_1); intro gb168 hg w23 hbox hb; have n0_ := Aside0.mk (blk_below (g := gb167) (o := .cells #[.string a0_0, .int .i64 a0_1, .int .i64 a0_2, .string a0_3, .int .i64 a0_4, .int .i64 a0_5] 83 (0, 0)) (z_49) hb); have n1_ := Aside0.mk (below_step (z_50) hb); have n2_ := Aside0.mk (hbox); have n3_ := Aside0.mk ((z_51 : w.heap.size ≤ gb168)); have n4_ := Aside0.mk ((z_51 : w.heap.size ≤ gb168)); have n5_ := Aside0.mk ((z_52 : gb167 ≠ gb168)); have n6_ := Aside0.mk ((z_53 : gb168 ≠ gb167)); clear BK167; clear HB; have BK167 := n0_; have HB := n1_; have BK168 := n2_; have GW168 := n3_; have GE168 := n4_; have NB167_168 := n5_; have NB168_167 := n6_; clear n0_ n1_ n2_ n3_ n4_ n5_ n6_; clear hb hbox hg; have hnb24 := NB167_168.out; have hnc24 := NB168_167.out; have hcz25_0 : w23.cell? ⟨gb167, 0, none⟩ = some (.string a0_0) := (blk_cell BK167.out 0).trans rfl; have hcz25_1 : w23.cell? ⟨gb167, 1, none⟩ = some (.int .i64 a0_1) := (blk_cell BK167.out 1).trans rfl; have hcz25_2 : w23.cell? ⟨gb167, 2, none⟩ = some (.int .i64 a0_2) := (blk_cell BK167.out 2).trans rfl; have hcz25_3 : w23.cell? ⟨gb167, 3, none⟩ = some (.string a0_3) := (blk_cell BK167.out 3).trans rfl; have hcz25_4 : w23.cell? ⟨gb167, 4, none⟩ = some (.int .i64 a0_4) := (blk_cell BK167.out 4).trans rfl; have hcz25_5 : w23.cell? ⟨gb167, 5, none⟩ = some (.int .i64 a0_5) := (blk_cell BK167.out 5).trans rfl; have hfz25_0 := blk_frozen BK167.out 0; have hfz25_1 := blk_frozen BK167.out 1; have hfz25_2 := blk_frozen BK167.out 2; have hfz25_3 := blk_frozen BK167.out 3; have hfz25_4 := blk_frozen BK167.out 4; have hfz25_5 := blk_frozen BK167.out 5; have hcz26_0 : w23.cell? ⟨gb168, 0, none⟩ = some (.string a1_0) := (blk_cell BK168.out 0).trans rfl; have hcz26_1 : w23.cell? ⟨gb168, 1, none⟩ = some (.int .i64 a1_1) := (blk_cell BK168.out 1).trans rfl; have hcz26_2 : w23.cell? ⟨gb168, 2, none⟩ = some (.int .i64 a1_2) := (blk_cell BK168.out 2).trans rfl; have hcz26_3 : w23.cell? ⟨gb168, 3, none⟩ = some (.string a1_3) := (blk_cell BK168.out 3).trans rfl; have hcz26_4 : w23.cell? ⟨gb168, 4, none⟩ = some (.int .i64 a1_4) := (blk_cell BK168.out 4).trans rfl; have hcz26_5 : w23.cell? ⟨gb168, 5, none⟩ = some (.int .i64 a1_5) := (blk_cell BK168.out 5).trans rfl; have hfz26_0 := blk_frozen BK168.out 0; have hfz26_1 := blk_frozen BK168.out 1; have hfz26_2 := blk_frozen BK168.out 2; have hfz26_3 := blk_frozen BK168.out 3; have hfz26_4 := blk_frozen BK168.out 4; have hfz26_5 := blk_frozen BK168.out 5) | ((with_reducible refine gate_callee (f := 32) rfl ?_); refine goesL_ (some 9) rfl rfl Try.func32 (z_0) rfl #[.agg #[.string a0_0, .int .i64 a0_1, .int .i64 a0_2, .string a0_3, .int .i64 a0_4], .agg #[.string a1_0, .int .i64 a1_1, .int .i64 a1_2, .string a1_3, .int .i64 a1_4]] rfl (z_6) ?_; (with_reducible refine (laws_eqName.calls a0_0 a0_1 a0_2 a0_3 a0_4 a1_0 a1_1 a1_2 a1_3 a1_4 false _ A3.out).mono ?_); rintro e w27 ⟨rfl, hb⟩; refine ⟨_, rfl, ?_⟩; have n0_ := Aside0.mk (blk_below (g := gb167) (o := .cells #[.string a0_0, .int .i64 a0_1, .int .i64 a0_2, .string a0_3, .int .i64 a0_4, .int .i64 a0_5] 83 (0, 0)) (z_49) hb); have n1_ := Aside0.mk (blk_below (g := gb168) (o := .cells #[.string a1_0, .int .i64 a1_1, .int .i64 a1_2, .string a1_3, .int .i64 a1_4, .int .i64 a1_5] 83 (0, 0)) (z_54) hb); have n2_ := Aside0.mk (below_step (z_55) hb); clear BK167; clear BK168; clear HB; have BK167 := n0_; have BK168 := n1_; have HB := n2_; clear n0_ n1_ n2_; (try clear hb); (try clear hb2); (try clear hk); (try clear hi)))
    go_ret
    exact ⟨z_4, z_55⟩

/-! ### laws_eqKeptS: function 37 -/
def laws_eqKeptS.l0 : Nat → List (S83) → List (S83) → Int → Option (Bool)
  | 0, _, _, _ => none
  | k + 1, x0, x1, x5 => if x5 < (x0.length : Int) then (if 0 ≤ x5 then (if x5 < (x1.length : Int) then ((laws_eqKept.f ((rd_T83 x0 x5).f0.f0) ((rd_T83 x0 x5).f0.f1) ((rd_T83 x0 x5).f0.f2) ((rd_T83 x0 x5).f0.f3) ((rd_T83 x0 x5).f0.f4) ((rd_T83 x0 x5).f1) ((rd_T83 x1 x5).f0.f0) ((rd_T83 x1 x5).f0.f1) ((rd_T83 x1 x5).f0.f2) ((rd_T83 x1 x5).f0.f3) ((rd_T83 x1 x5).f0.f4) ((rd_T83 x1 x5).f1)).bind fun t172 => (if t172 = true then (laws_eqKeptS.l0 k x0 x1 (wrap64 (x5 + 1))) else (some false))) else (none)) else (none)) else (some true)
def laws_eqKeptS.f (k : Nat) (l0 : List (S83)) (l1 : List (S83)) : Option (Bool) := if (l0.length : Int) = (l1.length : Int) then (laws_eqKeptS.l0 k l0 l1 0) else (some false)
theorem laws_eqKeptS.mono_l : ∀ k, (∀ y0 y1 y2, LeO (laws_eqKeptS.l0 k y0 y1 y2) (laws_eqKeptS.l0 (k + 1) y0 y1 y2))
  | 0 => fun _ _ _ r h => by simp [laws_eqKeptS.l0] at h
  | k + 1 => by
    have ih0 := laws_eqKeptS.mono_l k
    · intro y0 y1 y2
      unfold laws_eqKeptS.l0
      repeat' first
      | (with_reducible exact ih0 _ _ _)
      | (with_reducible exact LeO.refl _)
      | (with_reducible exact LeO.none _)
      | (with_reducible refine LeO.ite ?_ ?_)
      | (with_reducible refine LeO.bind ?_ (fun _ => ?_))
      | exact ih0 _ _ _
      | exact LeO.none _
      | refine LeO.ite ?_ ?_
      | refine LeO.bind ?_ (fun _ => ?_)
theorem laws_eqKeptS.mono : ∀ a0 a1 k, LeO (laws_eqKeptS.f k a0 a1) (laws_eqKeptS.f (k + 1) a0 a1) := by
  intro a0 a1 k
  have ih0 := laws_eqKeptS.mono_l k
  unfold laws_eqKeptS.f
  repeat' first
      | (with_reducible exact ih0 _ _ _)
      | (with_reducible exact LeO.refl _)
      | (with_reducible exact LeO.none _)
      | (with_reducible refine LeO.ite ?_ ?_)
      | (with_reducible refine LeO.bind ?_ (fun _ => ?_))
      | exact ih0 _ _ _
      | exact LeO.none _
      | refine LeO.ite ?_ ?_
      | refine LeO.bind ?_ (fun _ => ?_)
def laws_eqKeptS.T6 : Bool × List (List Nat × List Nat) := (true, [([], []), ([], []), ([0, 1], [0, 1]), ([2], [2]), ([], []), ([], []), ([4, 5], [4, 5]), ([6], [6]), ([3, 7], [3, 7]), ([8], [8])])
def laws_eqKeptS.B6 : List Nat := [0, 0, 3, 7, 0, 0, 48, 112, 255, 511]
theorem laws_eqKeptS.tab6 : rtab .any (opsOf Try.f37 6) = laws_eqKeptS.T6 := z_0
theorem laws_eqKeptS.bits6 : waitsOk laws_eqKeptS.T6.2 laws_eqKeptS.B6 = true := z_0
set_option maxHeartbeats 8000000 in
set_option maxRecDepth 100000 in
theorem laws_eqKeptS.calls (k : Nat) (A0 : Option Addr) (c0 : Nat) (l0 : List (S83)) (A1 : Option Addr) (c1 : Nat) (l1 : List (S83)) (r : Bool) (w : World) (hr0 : Kd.C k83 w A0 l0.length l0) (hc0 : l0.length ≤ c0) (hr1 : Kd.C k83 w A1 l1.length l1) (hc1 : l1.length ≤ c1) (h : laws_eqKeptS.f k l0 l1 = some r) :
    Calls Try.prog 37 #[.slice A0 l0.length c0, .slice A1 l1.length c1] w fun e w' => e = .returned (.bool r) ∧ Below w.heap.size w w' := by
  have hu83 := Try.underlying83
  have HR0 := Aside0.mk hr0
  have HC0 := Aside0.mk hc0
  clear hr0 hc0
  have HR1 := Aside0.mk hr1
  have HC1 := Aside0.mk hc1
  clear hr1 hc1
  have HB := Aside0.mk (Below.refl w.heap.size w)
  have H : (if (l0.length : Int) = (l1.length : Int) then (laws_eqKeptS.l0 k l0 l1 0) else (some false)) = some r := h
  clear h
  by_cases c3 : (l0.length : Int) = (l1.length : Int)
  · rw [if_pos c3] at H
    have c3b0 : ((l0.length : Int) == (l1.length : Int)) = true := beq_iff_eq.mpr c3
    have c3b1 : ((l0.length : Int) != (l1.length : Int)) = false := bne_eq_false_iff_eq.mpr c3
    have c3b2 : (l0.length == l1.length) = true := by first | simpa using c3 | (simp at c3 ⊢; omega)
    clear c3
    have H' := Aside0.mk H
    clear H
    go_enter Try.func37, Try.ntmps37
    go_wp2
    go_loopg [5] k (fun kq v5 w' => ∃ (x5_1 : Int), v5 = .int .i64 x5_1 ∧ Aside0 (laws_eqKeptS.l0 kq l0 l1 x5_1 = some r) ∧ Aside0 (kq ≤ k) ∧ Aside0 (Below w.heap.size w w'))
    case atStart => exact ⟨(0), (z_9), H', ⟨Nat.le_refl _⟩, ⟨z_2⟩⟩
    case round =>
      clear H'
      try clear c1
      try clear p2
      try clear c3
      try clear c3b0
      try clear c3b1
      try clear c3b2
      obtain ⟨x5_1, rfl, HA, HK1, HB⟩ := hrel
      cases gk with
      | zero => exact absurd HA.out (by simp [laws_eqKeptS.l0])
      | succ k1 =>
        have H := HA.out
        clear HA
        simp only [laws_eqKeptS.l0] at H
        by_cases c4 : x5_1 < (l0.length : Int)
        · rw [if_pos c4] at H
          have c4b0 : decide (x5_1 < (l0.length : Int)) = true := decide_eq_true c4
          clear c4
          by_cases c5 : 0 ≤ x5_1
          · rw [if_pos c5] at H
            have c5b0 : decide (0 ≤ x5_1) = true := decide_eq_true c5
            clear c5
            by_cases c6 : x5_1 < (l1.length : Int)
            · rw [if_pos c6] at H
              have c6b0 : decide (x5_1 < (l1.length : Int)) = true := decide_eq_true c6
              clear c6
              replace H := Option.bind_eq_some_iff.mp H
              obtain ⟨t172, A70, H⟩ := H
              have A7 := Aside0.mk A70
              clear A70
              by_cases c8 : t172 = true
              · subst c8
                rw [if_pos rfl] at H
                have H' := Aside0.mk H
                clear H
                try go_wp2
                have n0_ := Aside0.mk (below_drew1 HB.out)
                clear HB
                have HB := n0_
                clear n0_
                have p170 : 0 ≤ (x5_1 : Int) := of_decide_eq_true (z_10)
                have q170 : x5_1 < (l0.length : Int) := of_decide_eq_true (z_10)
                obtain ⟨ad170, e170, hx170_0, hx170_1, hx170_2, hx170_3, hx170_4, hx170_5⟩ := at_T83 HR0.out x5_1 p170 q170
                have hw170_5 := hx170_5
                have hw170_4 := hx170_4
                have hw170_3 := hx170_3
                have hw170_2 := hx170_2
                have hw170_1 := hx170_1
                have hw170_0 := hx170_0
                cases e170
                replace hx170_0 := (HB.out.cell (World.block_lt_of_cell? w _ hx170_0)).trans hx170_0
                replace hx170_1 := (HB.out.cell (World.block_lt_of_cell? w _ hx170_1)).trans hx170_1
                replace hx170_2 := (HB.out.cell (World.block_lt_of_cell? w _ hx170_2)).trans hx170_2
                replace hx170_3 := (HB.out.cell (World.block_lt_of_cell? w _ hx170_3)).trans hx170_3
                replace hx170_4 := (HB.out.cell (World.block_lt_of_cell? w _ hx170_4)).trans hx170_4
                replace hx170_5 := (HB.out.cell (World.block_lt_of_cell? w _ hx170_5)).trans hx170_5
                replace p170 := eq_true p170
                replace q170 := eq_true q170
                have p171 : 0 ≤ (x5_1 : Int) := of_decide_eq_true (z_10)
                have q171 : x5_1 < (l1.length : Int) := of_decide_eq_true (z_10)
                obtain ⟨ad171, e171, hx171_0, hx171_1, hx171_2, hx171_3, hx171_4, hx171_5⟩ := at_T83 HR1.out x5_1 p171 q171
                have hw171_5 := hx171_5
                have hw171_4 := hx171_4
                have hw171_3 := hx171_3
                have hw171_2 := hx171_2
                have hw171_1 := hx171_1
                have hw171_0 := hx171_0
                cases e171
                replace hx171_0 := (HB.out.cell (World.block_lt_of_cell? w _ hx171_0)).trans hx171_0
                replace hx171_1 := (HB.out.cell (World.block_lt_of_cell? w _ hx171_1)).trans hx171_1
                replace hx171_2 := (HB.out.cell (World.block_lt_of_cell? w _ hx171_2)).trans hx171_2
                replace hx171_3 := (HB.out.cell (World.block_lt_of_cell? w _ hx171_3)).trans hx171_3
                replace hx171_4 := (HB.out.cell (World.block_lt_of_cell? w _ hx171_4)).trans hx171_4
                replace hx171_5 := (HB.out.cell (World.block_lt_of_cell? w _ hx171_5)).trans hx171_5
                replace p171 := eq_true p171
                replace q171 := eq_true q171
                refine start_ (n := 10) (S := fun w' => w'.cell? (ad170.add ((x5_1).toNat * 6)) = some (.string ((rd_T83 l0 x5_1).f0.f0)) ∧ w'.cell? ⟨(ad170.add ((x5_1).toNat * 6)).block, (ad170.add ((x5_1).toNat * 6)).off + 1, none⟩ = some (.int .i64 ((rd_T83 l0 x5_1).f0.f1)) ∧ w'.cell? ⟨(ad170.add ((x5_1).toNat * 6)).block, (ad170.add ((x5_1).toNat * 6)).off + 2, none⟩ = some (.int .i64 ((rd_T83 l0 x5_1).f0.f2)) ∧ w'.cell? ⟨(ad170.add ((x5_1).toNat * 6)).block, (ad170.add ((x5_1).toNat * 6)).off + 3, none⟩ = some (.string ((rd_T83 l0 x5_1).f0.f3)) ∧ w'.cell? ⟨(ad170.add ((x5_1).toNat * 6)).block, (ad170.add ((x5_1).toNat * 6)).off + 4, none⟩ = some (.int .i64 ((rd_T83 l0 x5_1).f0.f4)) ∧ w'.cell? ⟨(ad170.add ((x5_1).toNat * 6)).block, (ad170.add ((x5_1).toNat * 6)).off + 5, none⟩ = some (.int .i64 ((rd_T83 l0 x5_1).f1)) ∧ w'.cell? (ad171.add ((x5_1).toNat * 6)) = some (.string ((rd_T83 l1 x5_1).f0.f0)) ∧ w'.cell? ⟨(ad171.add ((x5_1).toNat * 6)).block, (ad171.add ((x5_1).toNat * 6)).off + 1, none⟩ = some (.int .i64 ((rd_T83 l1 x5_1).f0.f1)) ∧ w'.cell? ⟨(ad171.add ((x5_1).toNat * 6)).block, (ad171.add ((x5_1).toNat * 6)).off + 2, none⟩ = some (.int .i64 ((rd_T83 l1 x5_1).f0.f2)) ∧ w'.cell? ⟨(ad171.add ((x5_1).toNat * 6)).block, (ad171.add ((x5_1).toNat * 6)).off + 3, none⟩ = some (.string ((rd_T83 l1 x5_1).f0.f3)) ∧ w'.cell? ⟨(ad171.add ((x5_1).toNat * 6)).block, (ad171.add ((x5_1).toNat * 6)).off + 4, none⟩ = some (.int .i64 ((rd_T83 l1 x5_1).f0.f4)) ∧ w'.cell? ⟨(ad171.add ((x5_1).toNat * 6)).block, (ad171.add ((x5_1).toNat * 6)).off + 5, none⟩ = some (.int .i64 ((rd_T83 l1 x5_1).f1))) (ds := []) #[F,F,F,F,F,F,F,F,F,F] (z_0) rfl rfl ⟨((HB.out.cell (World.block_lt_of_cell? w _ hw170_0)).trans hw170_0), ((HB.out.cell (World.block_lt_of_cell? w _ hw170_1)).trans hw170_1), ((HB.out.cell (World.block_lt_of_cell? w _ hw170_2)).trans hw170_2), ((HB.out.cell (World.block_lt_of_cell? w _ hw170_3)).trans hw170_3), ((HB.out.cell (World.block_lt_of_cell? w _ hw170_4)).trans hw170_4), ((HB.out.cell (World.block_lt_of_cell? w _ hw170_5)).trans hw170_5), ((HB.out.cell (World.block_lt_of_cell? w _ hw171_0)).trans hw171_0), ((HB.out.cell (World.block_lt_of_cell? w _ hw171_1)).trans hw171_1), ((HB.out.cell (World.block_lt_of_cell? w _ hw171_2)).trans hw171_2), ((HB.out.cell (World.block_lt_of_cell? w _ hw171_3)).trans hw171_3), ((HB.out.cell (World.block_lt_of_cell? w _ hw171_4)).trans hw171_4), ((HB.out.cell (World.block_lt_of_cell? w _ hw171_5)).trans hw171_5)⟩ (fun hHeld => ?_); refine with_tabW laws_eqKeptS.tab6 laws_eqKeptS.bits6 (fun HT_ HW_ => ?_)
                generalize wr.drew = w9 at HB hx170_0 hx170_1 hx170_2 hx170_3 hx170_4 hx170_5 hx171_0 hx171_1 hx171_2 hx171_3 hx171_4 hx171_5 hHeld ⊢
                refine pure_ (i := 0) (N := some 17) (v := ?_) (a' := ?_) #[T,F,F,F,F,F,F,F,F,F] rfl rfl (any_of HT_.out (z_0)) (fun _ _ _ h => h) (Or.inl ⟨z_40, ?_⟩) ?_ ?_
                rotate_left
                · intro w'
                  go_simp
                  with_reducible rfl
                rotate_left
                · simp only [Act.put, List.setIfInBounds_toArray, List.set_cons_zero, List.set_cons_succ, i64_w, i32_w]
                  rfl
                refine pure_ (i := 1) (N := some 18) (v := ?_) (a' := ?_) #[T,T,F,F,F,F,F,F,F,F] rfl rfl (any_of HT_.out (z_0)) (fun _ _ _ h => h) (Or.inl ⟨z_40, ?_⟩) ?_ ?_
                rotate_left
                · intro w'
                  go_simp
                  with_reducible rfl
                rotate_left
                · simp only [Act.put, List.setIfInBounds_toArray, List.set_cons_zero, List.set_cons_succ, i64_w, i32_w]
                  rfl
                refine pure_ (i := 2) (N := some 19) (v := ?_) (a' := ?_) #[T,T,T,F,F,F,F,F,F,F] rfl rfl (any_of HT_.out (z_0)) (fun _ _ _ h => h) (Or.inl ⟨z_40, ?_⟩) ?_ ?_
                rotate_left
                · intro w'
                  go_simp
                  with_reducible rfl
                rotate_left
                · simp only [Act.put, List.setIfInBounds_toArray, List.set_cons_zero, List.set_cons_succ, i64_w, i32_w]
                  rfl
                refine pure_ (i := 4) (N := some 21) (v := ?_) (a' := ?_) #[T,T,T,F,T,F,F,F,F,F] rfl rfl (any_of HT_.out (z_0)) (fun _ _ _ h => h) (Or.inl ⟨z_40, ?_⟩) ?_ ?_
                rotate_left
                · intro w'
                  go_simp
                  with_reducible rfl
                rotate_left
                · simp only [Act.put, List.setIfInBounds_toArray, List.set_cons_zero, List.set_cons_succ, i64_w, i32_w]
                  rfl
                refine pure_ (i := 5) (N := some 22) (v := ?_) (a' := ?_) #[T,T,T,F,T,T,F,F,F,F] rfl rfl (any_of HT_.out (z_0)) (fun _ _ _ h => h) (Or.inl ⟨z_40, ?_⟩) ?_ ?_
                rotate_left
                · intro w'
                  go_simp
                  with_reducible rfl
                rotate_left
                · simp only [Act.put, List.setIfInBounds_toArray, List.set_cons_zero, List.set_cons_succ, i64_w, i32_w]
                  rfl
                refine pure_ (i := 6) (N := some 23) (v := ?_) (a' := ?_) #[T,T,T,F,T,T,T,F,F,F] rfl rfl (any_of HT_.out (z_0)) (fun _ _ _ h => h) (Or.inl ⟨z_40, ?_⟩) ?_ ?_
                rotate_left
                · intro w'
                  go_simp
                  with_reducible rfl
                rotate_left
                · simp only [Act.put, List.setIfInBounds_toArray, List.set_cons_zero, List.set_cons_succ, i64_w, i32_w]
                  rfl
                refine take_ (i := 3) (N := some 20) (v := ?_) (a' := ?_) #[T,T,T,T,T,T,T,F,F,F] rfl rfl (take_ofW HT_.out HW_.out (z_0)) (fun _ _ _ h => h) (Or.inl ⟨z_40, ?_⟩) hHeld ?_ ?_
                rotate_left
                · rintro w' ⟨s0, s1, s2, s3, s4, s5, s6, s7, s8, s9, s10, s11⟩
                  go_simp
                  with_reducible rfl
                rotate_left
                · simp only [Act.put, List.setIfInBounds_toArray, List.set_cons_zero, List.set_cons_succ, i64_w, i32_w]
                  rfl
                refine take_ (i := 7) (N := some 24) (v := ?_) (a' := ?_) #[T,T,T,T,T,T,T,T,F,F] rfl rfl (take_ofW HT_.out HW_.out (z_0)) (fun _ _ _ h => h) (Or.inl ⟨z_40, ?_⟩) hHeld ?_ ?_
                rotate_left
                · rintro w' ⟨s0, s1, s2, s3, s4, s5, s6, s7, s8, s9, s10, s11⟩
                  go_simp
                  with_reducible rfl
                rotate_left
                · simp only [Act.put, List.setIfInBounds_toArray, List.set_cons_zero, List.set_cons_succ, i64_w, i32_w]
                  rfl
                refine one_ (i := 8) (N := some 25) #[T,T,T,T,T,T,T,T,T,F] rfl rfl (one_of HT_.out (z_0)) (z_33) (fun K hK => ?_)
                refine goes_ Try.func67 (z_0) rfl #[.agg #[.string ((rd_T83 l0 x5_1).f0.f0), .int .i64 ((rd_T83 l0 x5_1).f0.f1), .int .i64 ((rd_T83 l0 x5_1).f0.f2), .string ((rd_T83 l0 x5_1).f0.f3), .int .i64 ((rd_T83 l0 x5_1).f0.f4), .int .i64 ((rd_T83 l0 x5_1).f1)], .agg #[.string ((rd_T83 l1 x5_1).f0.f0), .int .i64 ((rd_T83 l1 x5_1).f0.f1), .int .i64 ((rd_T83 l1 x5_1).f0.f2), .string ((rd_T83 l1 x5_1).f0.f3), .int .i64 ((rd_T83 l1 x5_1).f0.f4), .int .i64 ((rd_T83 l1 x5_1).f1)]] (z_40) rfl rfl (z_6) ?_
                with_reducible refine (laws_eqKept.calls ((rd_T83 l0 x5_1).f0.f0) ((rd_T83 l0 x5_1).f0.f1) ((rd_T83 l0 x5_1).f0.f2) ((rd_T83 l0 x5_1).f0.f3) ((rd_T83 l0 x5_1).f0.f4) ((rd_T83 l0 x5_1).f1) ((rd_T83 l1 x5_1).f0.f0) ((rd_T83 l1 x5_1).f0.f1) ((rd_T83 l1 x5_1).f0.f2) ((rd_T83 l1 x5_1).f0.f3) ((rd_T83 l1 x5_1).f0.f4) ((rd_T83 l1 x5_1).f1) true _ A7.out).mono ?_
                rintro e w10 ⟨rfl, hb⟩
                refine ⟨_, rfl, ?_⟩
                have n0_ := Aside0.mk (below_step (z_2) hb)
                clear HB
                have HB := n0_
                clear n0_
                (try clear hb)
                (try clear hb2)
                (try clear hk)
                (try clear hi)
                refine hK.out _ _ ⟨((HB.out.cell (World.block_lt_of_cell? w _ hw170_0)).trans hw170_0), ((HB.out.cell (World.block_lt_of_cell? w _ hw170_1)).trans hw170_1), ((HB.out.cell (World.block_lt_of_cell? w _ hw170_2)).trans hw170_2), ((HB.out.cell (World.block_lt_of_cell? w _ hw170_3)).trans hw170_3), ((HB.out.cell (World.block_lt_of_cell? w _ hw170_4)).trans hw170_4), ((HB.out.cell (World.block_lt_of_cell? w _ hw170_5)).trans hw170_5), ((HB.out.cell (World.block_lt_of_cell? w _ hw171_0)).trans hw171_0), ((HB.out.cell (World.block_lt_of_cell? w _ hw171_1)).trans hw171_1), ((HB.out.cell (World.block_lt_of_cell? w _ hw171_2)).trans hw171_2), ((HB.out.cell (World.block_lt_of_cell? w _ hw171_3)).trans hw171_3), ((HB.out.cell (World.block_lt_of_cell? w _ hw171_4)).trans hw171_4), ((HB.out.cell (World.block_lt_of_cell? w _ hw171_5)).trans hw171_5)⟩ (fun hHeld => ?_)
                clear hK K
                refine norm_ (a' := ?_) ?_ ?_
                rotate_left
                · show Act.put _ (some 25) _ = _
                  simp only [Act.put, List.setIfInBounds_toArray, List.set_cons_zero, List.set_cons_succ, i64_w, i32_w]
                  rfl
                refine pure_ (i := 9) (N := some 26) (v := ?_) (a' := ?_) #[T,T,T,T,T,T,T,T,T,T] rfl rfl (any_of HT_.out (z_0)) (fun _ _ _ h => h) (Or.inl ⟨z_40, ?_⟩) ?_ ?_
                rotate_left
                · intro w'
                  go_simp
                  with_reducible rfl
                rotate_left
                · simp only [Act.put, List.setIfInBounds_toArray, List.set_cons_zero, List.set_cons_succ, i64_w, i32_w]
                  rfl
                refine done_ (done_of HT_.out (z_0)) ?_
                try go_wp2
                go_roundg k1
                case measure => have := HK1.out; omega
                case rel => exact ⟨(wrap64 (x5_1 + 1)), (z_9), H', ⟨z_11⟩, ⟨z_2⟩⟩
              · replace c8 := Bool.eq_false_iff.mpr c8
                subst c8
                rw [if_neg (show ¬ (false = true) by decide)] at H
                obtain rfl := Option.some.inj H
                try go_wp2
                have n0_ := Aside0.mk (below_drew1 HB.out)
                clear HB
                have HB := n0_
                clear n0_
                have p170 : 0 ≤ (x5_1 : Int) := of_decide_eq_true (z_10)
                have q170 : x5_1 < (l0.length : Int) := of_decide_eq_true (z_10)
                obtain ⟨ad170, e170, hx170_0, hx170_1, hx170_2, hx170_3, hx170_4, hx170_5⟩ := at_T83 HR0.out x5_1 p170 q170
                have hw170_5 := hx170_5
                have hw170_4 := hx170_4
                have hw170_3 := hx170_3
                have hw170_2 := hx170_2
                have hw170_1 := hx170_1
                have hw170_0 := hx170_0
                cases e170
                replace hx170_0 := (HB.out.cell (World.block_lt_of_cell? w _ hx170_0)).trans hx170_0
                replace hx170_1 := (HB.out.cell (World.block_lt_of_cell? w _ hx170_1)).trans hx170_1
                replace hx170_2 := (HB.out.cell (World.block_lt_of_cell? w _ hx170_2)).trans hx170_2
                replace hx170_3 := (HB.out.cell (World.block_lt_of_cell? w _ hx170_3)).trans hx170_3
                replace hx170_4 := (HB.out.cell (World.block_lt_of_cell? w _ hx170_4)).trans hx170_4
                replace hx170_5 := (HB.out.cell (World.block_lt_of_cell? w _ hx170_5)).trans hx170_5
                replace p170 := eq_true p170
                replace q170 := eq_true q170
                have p171 : 0 ≤ (x5_1 : Int) := of_decide_eq_true (z_10)
                have q171 : x5_1 < (l1.length : Int) := of_decide_eq_true (z_10)
                obtain ⟨ad171, e171, hx171_0, hx171_1, hx171_2, hx171_3, hx171_4, hx171_5⟩ := at_T83 HR1.out x5_1 p171 q171
                have hw171_5 := hx171_5
                have hw171_4 := hx171_4
                have hw171_3 := hx171_3
                have hw171_2 := hx171_2
                have hw171_1 := hx171_1
                have hw171_0 := hx171_0
                cases e171
                replace hx171_0 := (HB.out.cell (World.block_lt_of_cell? w _ hx171_0)).trans hx171_0
                replace hx171_1 := (HB.out.cell (World.block_lt_of_cell? w _ hx171_1)).trans hx171_1
                replace hx171_2 := (HB.out.cell (World.block_lt_of_cell? w _ hx171_2)).trans hx171_2
                replace hx171_3 := (HB.out.cell (World.block_lt_of_cell? w _ hx171_3)).trans hx171_3
                replace hx171_4 := (HB.out.cell (World.block_lt_of_cell? w _ hx171_4)).trans hx171_4
                replace hx171_5 := (HB.out.cell (World.block_lt_of_cell? w _ hx171_5)).trans hx171_5
                replace p171 := eq_true p171
                replace q171 := eq_true q171
                refine start_ (n := 10) (S := fun w' => w'.cell? (ad170.add ((x5_1).toNat * 6)) = some (.string ((rd_T83 l0 x5_1).f0.f0)) ∧ w'.cell? ⟨(ad170.add ((x5_1).toNat * 6)).block, (ad170.add ((x5_1).toNat * 6)).off + 1, none⟩ = some (.int .i64 ((rd_T83 l0 x5_1).f0.f1)) ∧ w'.cell? ⟨(ad170.add ((x5_1).toNat * 6)).block, (ad170.add ((x5_1).toNat * 6)).off + 2, none⟩ = some (.int .i64 ((rd_T83 l0 x5_1).f0.f2)) ∧ w'.cell? ⟨(ad170.add ((x5_1).toNat * 6)).block, (ad170.add ((x5_1).toNat * 6)).off + 3, none⟩ = some (.string ((rd_T83 l0 x5_1).f0.f3)) ∧ w'.cell? ⟨(ad170.add ((x5_1).toNat * 6)).block, (ad170.add ((x5_1).toNat * 6)).off + 4, none⟩ = some (.int .i64 ((rd_T83 l0 x5_1).f0.f4)) ∧ w'.cell? ⟨(ad170.add ((x5_1).toNat * 6)).block, (ad170.add ((x5_1).toNat * 6)).off + 5, none⟩ = some (.int .i64 ((rd_T83 l0 x5_1).f1)) ∧ w'.cell? (ad171.add ((x5_1).toNat * 6)) = some (.string ((rd_T83 l1 x5_1).f0.f0)) ∧ w'.cell? ⟨(ad171.add ((x5_1).toNat * 6)).block, (ad171.add ((x5_1).toNat * 6)).off + 1, none⟩ = some (.int .i64 ((rd_T83 l1 x5_1).f0.f1)) ∧ w'.cell? ⟨(ad171.add ((x5_1).toNat * 6)).block, (ad171.add ((x5_1).toNat * 6)).off + 2, none⟩ = some (.int .i64 ((rd_T83 l1 x5_1).f0.f2)) ∧ w'.cell? ⟨(ad171.add ((x5_1).toNat * 6)).block, (ad171.add ((x5_1).toNat * 6)).off + 3, none⟩ = some (.string ((rd_T83 l1 x5_1).f0.f3)) ∧ w'.cell? ⟨(ad171.add ((x5_1).toNat * 6)).block, (ad171.add ((x5_1).toNat * 6)).off + 4, none⟩ = some (.int .i64 ((rd_T83 l1 x5_1).f0.f4)) ∧ w'.cell? ⟨(ad171.add ((x5_1).toNat * 6)).block, (ad171.add ((x5_1).toNat * 6)).off + 5, none⟩ = some (.int .i64 ((rd_T83 l1 x5_1).f1))) (ds := []) #[F,F,F,F,F,F,F,F,F,F] (z_0) rfl rfl ⟨((HB.out.cell (World.block_lt_of_cell? w _ hw170_0)).trans hw170_0), ((HB.out.cell (World.block_lt_of_cell? w _ hw170_1)).trans hw170_1), ((HB.out.cell (World.block_lt_of_cell? w _ hw170_2)).trans hw170_2), ((HB.out.cell (World.block_lt_of_cell? w _ hw170_3)).trans hw170_3), ((HB.out.cell (World.block_lt_of_cell? w _ hw170_4)).trans hw170_4), ((HB.out.cell (World.block_lt_of_cell? w _ hw170_5)).trans hw170_5), ((HB.out.cell (World.block_lt_of_cell? w _ hw171_0)).trans hw171_0), ((HB.out.cell (World.block_lt_of_cell? w _ hw171_1)).trans hw171_1), ((HB.out.cell (World.block_lt_of_cell? w _ hw171_2)).trans hw171_2), ((HB.out.cell (World.block_lt_of_cell? w _ hw171_3)).trans hw171_3), ((HB.out.cell (World.block_lt_of_cell? w _ hw171_4)).trans hw171_4), ((HB.out.cell (World.block_lt_of_cell? w _ hw171_5)).trans hw171_5)⟩ (fun hHeld => ?_); refine with_tabW laws_eqKeptS.tab6 laws_eqKeptS.bits6 (fun HT_ HW_ => ?_)
                generalize wr.drew = w11 at HB hx170_0 hx170_1 hx170_2 hx170_3 hx170_4 hx170_5 hx171_0 hx171_1 hx171_2 hx171_3 hx171_4 hx171_5 hHeld ⊢
                refine pure_ (i := 0) (N := some 17) (v := ?_) (a' := ?_) #[T,F,F,F,F,F,F,F,F,F] rfl rfl (any_of HT_.out (z_0)) (fun _ _ _ h => h) (Or.inl ⟨z_40, ?_⟩) ?_ ?_
                rotate_left
                · intro w'
                  go_simp
                  with_reducible rfl
                rotate_left
                · simp only [Act.put, List.setIfInBounds_toArray, List.set_cons_zero, List.set_cons_succ, i64_w, i32_w]
                  rfl
                refine pure_ (i := 1) (N := some 18) (v := ?_) (a' := ?_) #[T,T,F,F,F,F,F,F,F,F] rfl rfl (any_of HT_.out (z_0)) (fun _ _ _ h => h) (Or.inl ⟨z_40, ?_⟩) ?_ ?_
                rotate_left
                · intro w'
                  go_simp
                  with_reducible rfl
                rotate_left
                · simp only [Act.put, List.setIfInBounds_toArray, List.set_cons_zero, List.set_cons_succ, i64_w, i32_w]
                  rfl
                refine pure_ (i := 2) (N := some 19) (v := ?_) (a' := ?_) #[T,T,T,F,F,F,F,F,F,F] rfl rfl (any_of HT_.out (z_0)) (fun _ _ _ h => h) (Or.inl ⟨z_40, ?_⟩) ?_ ?_
                rotate_left
                · intro w'
                  go_simp
                  with_reducible rfl
                rotate_left
                · simp only [Act.put, List.setIfInBounds_toArray, List.set_cons_zero, List.set_cons_succ, i64_w, i32_w]
                  rfl
                refine pure_ (i := 4) (N := some 21) (v := ?_) (a' := ?_) #[T,T,T,F,T,F,F,F,F,F] rfl rfl (any_of HT_.out (z_0)) (fun _ _ _ h => h) (Or.inl ⟨z_40, ?_⟩) ?_ ?_
                rotate_left
                · intro w'
                  go_simp
                  with_reducible rfl
                rotate_left
                · simp only [Act.put, List.setIfInBounds_toArray, List.set_cons_zero, List.set_cons_succ, i64_w, i32_w]
                  rfl
                refine pure_ (i := 5) (N := some 22) (v := ?_) (a' := ?_) #[T,T,T,F,T,T,F,F,F,F] rfl rfl (any_of HT_.out (z_0)) (fun _ _ _ h => h) (Or.inl ⟨z_40, ?_⟩) ?_ ?_
                rotate_left
                · intro w'
                  go_simp
                  with_reducible rfl
                rotate_left
                · simp only [Act.put, List.setIfInBounds_toArray, List.set_cons_zero, List.set_cons_succ, i64_w, i32_w]
                  rfl
                refine pure_ (i := 6) (N := some 23) (v := ?_) (a' := ?_) #[T,T,T,F,T,T,T,F,F,F] rfl rfl (any_of HT_.out (z_0)) (fun _ _ _ h => h) (Or.inl ⟨z_40, ?_⟩) ?_ ?_
                rotate_left
                · intro w'
                  go_simp
                  with_reducible rfl
                rotate_left
                · simp only [Act.put, List.setIfInBounds_toArray, List.set_cons_zero, List.set_cons_succ, i64_w, i32_w]
                  rfl
                refine take_ (i := 3) (N := some 20) (v := ?_) (a' := ?_) #[T,T,T,T,T,T,T,F,F,F] rfl rfl (take_ofW HT_.out HW_.out (z_0)) (fun _ _ _ h => h) (Or.inl ⟨z_40, ?_⟩) hHeld ?_ ?_
                rotate_left
                · rintro w' ⟨s0, s1, s2, s3, s4, s5, s6, s7, s8, s9, s10, s11⟩
                  go_simp
                  with_reducible rfl
                rotate_left
                · simp only [Act.put, List.setIfInBounds_toArray, List.set_cons_zero, List.set_cons_succ, i64_w, i32_w]
                  rfl
                refine take_ (i := 7) (N := some 24) (v := ?_) (a' := ?_) #[T,T,T,T,T,T,T,T,F,F] rfl rfl (take_ofW HT_.out HW_.out (z_0)) (fun _ _ _ h => h) (Or.inl ⟨z_40, ?_⟩) hHeld ?_ ?_
                rotate_left
                · rintro w' ⟨s0, s1, s2, s3, s4, s5, s6, s7, s8, s9, s10, s11⟩
                  go_simp
                  with_reducible rfl
                rotate_left
                · simp only [Act.put, List.setIfInBounds_toArray, List.set_cons_zero, List.set_cons_succ, i64_w, i32_w]
                  rfl
                refine one_ (i := 8) (N := some 25) #[T,T,T,T,T,T,T,T,T,F] rfl rfl (one_of HT_.out (z_0)) (z_33) (fun K hK => ?_)
                refine goes_ Try.func67 (z_0) rfl #[.agg #[.string ((rd_T83 l0 x5_1).f0.f0), .int .i64 ((rd_T83 l0 x5_1).f0.f1), .int .i64 ((rd_T83 l0 x5_1).f0.f2), .string ((rd_T83 l0 x5_1).f0.f3), .int .i64 ((rd_T83 l0 x5_1).f0.f4), .int .i64 ((rd_T83 l0 x5_1).f1)], .agg #[.string ((rd_T83 l1 x5_1).f0.f0), .int .i64 ((rd_T83 l1 x5_1).f0.f1), .int .i64 ((rd_T83 l1 x5_1).f0.f2), .string ((rd_T83 l1 x5_1).f0.f3), .int .i64 ((rd_T83 l1 x5_1).f0.f4), .int .i64 ((rd_T83 l1 x5_1).f1)]] (z_40) rfl rfl (z_6) ?_
                with_reducible refine (laws_eqKept.calls ((rd_T83 l0 x5_1).f0.f0) ((rd_T83 l0 x5_1).f0.f1) ((rd_T83 l0 x5_1).f0.f2) ((rd_T83 l0 x5_1).f0.f3) ((rd_T83 l0 x5_1).f0.f4) ((rd_T83 l0 x5_1).f1) ((rd_T83 l1 x5_1).f0.f0) ((rd_T83 l1 x5_1).f0.f1) ((rd_T83 l1 x5_1).f0.f2) ((rd_T83 l1 x5_1).f0.f3) ((rd_T83 l1 x5_1).f0.f4) ((rd_T83 l1 x5_1).f1) false _ A7.out).mono ?_
                rintro e w12 ⟨rfl, hb⟩
                refine ⟨_, rfl, ?_⟩
                have n0_ := Aside0.mk (below_step (z_2) hb)
                clear HB
                have HB := n0_
                clear n0_
                (try clear hb)
                (try clear hb2)
                (try clear hk)
                (try clear hi)
                refine hK.out _ _ ⟨((HB.out.cell (World.block_lt_of_cell? w _ hw170_0)).trans hw170_0), ((HB.out.cell (World.block_lt_of_cell? w _ hw170_1)).trans hw170_1), ((HB.out.cell (World.block_lt_of_cell? w _ hw170_2)).trans hw170_2), ((HB.out.cell (World.block_lt_of_cell? w _ hw170_3)).trans hw170_3), ((HB.out.cell (World.block_lt_of_cell? w _ hw170_4)).trans hw170_4), ((HB.out.cell (World.block_lt_of_cell? w _ hw170_5)).trans hw170_5), ((HB.out.cell (World.block_lt_of_cell? w _ hw171_0)).trans hw171_0), ((HB.out.cell (World.block_lt_of_cell? w _ hw171_1)).trans hw171_1), ((HB.out.cell (World.block_lt_of_cell? w _ hw171_2)).trans hw171_2), ((HB.out.cell (World.block_lt_of_cell? w _ hw171_3)).trans hw171_3), ((HB.out.cell (World.block_lt_of_cell? w _ hw171_4)).trans hw171_4), ((HB.out.cell (World.block_lt_of_cell? w _ hw171_5)).trans hw171_5)⟩ (fun hHeld => ?_)
                clear hK K
                refine norm_ (a' := ?_) ?_ ?_
                rotate_left
                · show Act.put _ (some 25) _ = _
                  simp only [Act.put, List.setIfInBounds_toArray, List.set_cons_zero, List.set_cons_succ, i64_w, i32_w]
                  rfl
                refine pure_ (i := 9) (N := some 26) (v := ?_) (a' := ?_) #[T,T,T,T,T,T,T,T,T,T] rfl rfl (any_of HT_.out (z_0)) (fun _ _ _ h => h) (Or.inl ⟨z_40, ?_⟩) ?_ ?_
                rotate_left
                · intro w'
                  go_simp
                  with_reducible rfl
                rotate_left
                · simp only [Act.put, List.setIfInBounds_toArray, List.set_cons_zero, List.set_cons_succ, i64_w, i32_w]
                  rfl
                refine done_ (done_of HT_.out (z_0)) ?_
                try go_wp2
                go_ret
                exact ⟨z_4, z_2⟩
            · rw [if_neg c6] at H
              exact absurd H (by simp)
          · rw [if_neg c5] at H
            exact absurd H (by simp)
        · rw [if_neg c4] at H
          have c4b0 : decide (x5_1 < (l0.length : Int)) = false := decide_eq_false c4
          clear c4
          obtain rfl := Option.some.inj H
          go_wp2
          go_ret
          exact ⟨z_4, z_2⟩
  · rw [if_neg c3] at H
    have c3b0 : ((l0.length : Int) == (l1.length : Int)) = false := beq_eq_false_iff_ne.mpr c3
    have c3b1 : ((l0.length : Int) != (l1.length : Int)) = true := bne_iff_ne.mpr c3
    have c3b2 : (l0.length == l1.length) = false := by first | simpa using c3 | (simp at c3 ⊢; omega)
    obtain rfl := Option.some.inj H
    go_enter Try.func37, Try.ntmps37
    go_wp2
    go_ret
    exact ⟨z_4, z_2⟩

/-! ### laws_FnExactKeptOk: function 8 -/
def laws_FnExactKeptOk.f (k : Nat) (l0 : List (S81)) : Option (Bool) := (laws_szKeptS.f k l0 1048576).bind fun t173 => (if t173 < 0 then (some true) else ((laws_toKeptS.f k l0).bind fun t174 => ((spec_KeptOk.f k t174).bind fun t177 => ((laws_toKeptS.f k l0).bind fun t178 => ((impl_KeptOk.f k t178).bind fun t181 => (if (t181 != t177) = true then (some false) else ((laws_toKeptS.f k l0).bind fun t182 => ((laws_eqKeptS.f k t178 t182).bind fun t185 => (if t185 = true then (some true) else (some false))))))))))
theorem laws_FnExactKeptOk.mono : ∀ a0 k, LeO (laws_FnExactKeptOk.f k a0) (laws_FnExactKeptOk.f (k + 1) a0) := by
  intro a0 k
  unfold laws_FnExactKeptOk.f
  repeat' first
      | (with_reducible exact impl_KeptOk.mono _ _)
      | (with_reducible exact laws_eqKeptS.mono _ _ _)
      | (with_reducible exact laws_szKeptS.mono _ _ _)
      | (with_reducible exact laws_toKeptS.mono _ _)
      | (with_reducible exact spec_KeptOk.mono _ _)
      | (with_reducible exact LeO.refl _)
      | (with_reducible exact LeO.none _)
      | (with_reducible refine LeO.ite ?_ ?_)
      | (with_reducible refine LeO.bind ?_ (fun _ => ?_))
      | exact impl_KeptOk.mono _ _
      | exact laws_eqKeptS.mono _ _ _
      | exact laws_szKeptS.mono _ _ _
      | exact laws_toKeptS.mono _ _
      | exact spec_KeptOk.mono _ _
      | exact LeO.none _
      | refine LeO.ite ?_ ?_
      | refine LeO.bind ?_ (fun _ => ?_)
set_option maxHeartbeats 8000000 in
set_option maxRecDepth 100000 in
theorem laws_FnExactKeptOk.calls (k : Nat) (A0 : Option Addr) (c0 : Nat) (l0 : List (S81)) (r : Bool) (w : World) (hr0 : Kd.C k81 w A0 l0.length l0) (hc0 : l0.length ≤ c0) (h : laws_FnExactKeptOk.f k l0 = some r) :
    Calls Try.prog 8 #[.slice A0 l0.length c0] w fun e w' => e = .returned (.bool r) ∧ Below w.heap.size w w' := by
  have HR0 := Aside0.mk hr0
  have HC0 := Aside0.mk hc0
  clear hr0 hc0
  have HB := Aside0.mk (Below.refl w.heap.size w)
  have H : ((laws_szKeptS.f k l0 1048576).bind fun t173 => (if t173 < 0 then (some true) else ((laws_toKeptS.f k l0).bind fun t174 => ((spec_KeptOk.f k t174).bind fun t177 => ((laws_toKeptS.f k l0).bind fun t178 => ((impl_KeptOk.f k t178).bind fun t181 => (if (t181 != t177) = true then (some false) else ((laws_toKeptS.f k l0).bind fun t182 => ((laws_eqKeptS.f k t178 t182).bind fun t185 => (if t185 = true then (some true) else (some false))))))))))) = some r := h
  clear h
  replace H := Option.bind_eq_some_iff.mp H
  obtain ⟨t173, A20, H⟩ := H
  have A2 := Aside0.mk A20
  clear A20
  by_cases c3 : t173 < 0
  · rw [if_pos c3] at H
    have c3b0 : decide (t173 < 0) = true := decide_eq_true c3
    clear c3
    obtain rfl := Option.some.inj H
    go_enter Try.func8, Try.ntmps8
    go_wp2_with (first | ((with_reducible refine gate_callee (f := 33) rfl ?_); refine goesL_ (some 9) rfl rfl Try.func33 (z_0) rfl #[.slice A0 l0.length c0, .int .i64 1048576] rfl (z_6) ?_; (with_reducible refine (laws_szKeptS.calls k _ _ l0 1048576 t173 _ ?side1 ?side2 A2.out).mono ?_); (case side1 => exact z_56); (case side2 => exact HC0.out); rintro e w4 ⟨rfl, hb⟩; refine ⟨_, rfl, ?_⟩; have n0_ := Aside0.mk (below_step (z_2) hb); clear HB; have HB := n0_; clear n0_; (try clear hb); (try clear hb2); (try clear hk); (try clear hi)))
    go_ret
    exact ⟨z_4, z_2⟩
  · rw [if_neg c3] at H
    have c3b0 : decide (t173 < 0) = false := decide_eq_false c3
    clear c3
    replace H := Option.bind_eq_some_iff.mp H
    obtain ⟨t174, A50, H⟩ := H
    have A5 := Aside0.mk A50
    clear A50
    replace H := Option.bind_eq_some_iff.mp H
    obtain ⟨t177, A60, H⟩ := H
    have A6 := Aside0.mk A60
    clear A60
    replace H := Option.bind_eq_some_iff.mp H
    obtain ⟨t178, A70, H⟩ := H
    have A7 := Aside0.mk A70
    clear A70
    replace H := Option.bind_eq_some_iff.mp H
    obtain ⟨t181, A80, H⟩ := H
    have A8 := Aside0.mk A80
    clear A80
    by_cases c9 : (t181 != t177) = true
    · rw [if_pos c9] at H
      have c9b0 : (t181 != t177) = true := c9
      (try (have c9b1 : decide (t181 = t177) = false := by simpa using c9))
      (try (have c9b2 : (t181 == t177) = false := by simpa using c9))
      (try (have c9b3 : ¬ (t181 = t177) := by simpa using c9))
      clear c9
      obtain rfl := Option.some.inj H
      go_enter Try.func8, Try.ntmps8
      go_wp2_with (first | ((with_reducible refine gate_callee (f := 33) rfl ?_); refine goesL_ (some 9) rfl rfl Try.func33 (z_0) rfl #[.slice A0 l0.length c0, .int .i64 1048576] rfl (z_6) ?_; (with_reducible refine (laws_szKeptS.calls k _ _ l0 1048576 t173 _ ?side1 ?side2 A2.out).mono ?_); (case side1 => exact z_56); (case side2 => exact HC0.out); rintro e w10 ⟨rfl, hb⟩; refine ⟨_, rfl, ?_⟩; have n0_ := Aside0.mk (below_step (z_2) hb); clear HB; have HB := n0_; clear n0_; (try clear hb); (try clear hb2); (try clear hk); (try clear hi)) | ((with_reducible refine gate_callee (f := 35) rfl ?_); refine goesL_ (some 13) rfl rfl Try.func35 (z_0) rfl #[.slice A0 l0.length c0] rfl (z_6) ?_; (with_reducible refine (laws_toKeptS.calls k _ _ l0 t174 _ ?side1 ?side2 A5.out).mono ?_); (case side1 => exact z_57); (case side2 => exact HC0.out); rintro e w11 ⟨v175, rfl, ho0, hb⟩; refine ⟨_, rfl, ?_⟩; have n0_ := Aside0.mk (Kd.R_lower ho0 (below_size (z_2))); have n1_ := Aside0.mk (below_step (z_2) hb); clear HB; have HO176 := n0_; have HB := n1_; clear n0_ n1_; (try clear hb); (try clear hb2); (try clear hk); (try clear hi); (try clear ho0); obtain ⟨Ao12, co12, eo12⟩ := Kd.R_slice HO176.out; subst eo12) | ((with_reducible refine gate_callee (f := 34) rfl ?_); refine goesL_ (some 14) rfl rfl Try.func34 (z_0) rfl #[.slice Ao12 t174.length co12] rfl (z_6) ?_; (with_reducible refine (spec_KeptOk.calls k _ _ t174 t177 _ ?side1 ?side2 A6.out).mono ?_); (case side1 => exact z_58); (case side2 => exact (Kd.R_reads' HO176.out).2.1); rintro e w13 ⟨rfl, hb⟩; refine ⟨_, rfl, ?_⟩; have n0_ := Aside0.mk (Kd.R_below (z_59) hb); have n1_ := Aside0.mk (below_step (z_2) hb); clear HO176; clear HB; have HO176 := n0_; have HB := n1_; clear n0_ n1_; (try clear hb); (try clear hb2); (try clear hk); (try clear hi)) | ((with_reducible refine gate_callee (f := 35) rfl ?_); refine goesL_ (some 16) rfl rfl Try.func35 (z_0) rfl #[.slice A0 l0.length c0] rfl (z_6) ?_; (with_reducible refine (laws_toKeptS.calls k _ _ l0 t178 _ ?side1 ?side2 A7.out).mono ?_); (case side1 => exact z_57); (case side2 => exact HC0.out); rintro e w14 ⟨v179, rfl, ho0, hb⟩; refine ⟨_, rfl, ?_⟩; have n0_ := Aside0.mk (Kd.R_elder' (z_59) (Kd.R_base ho0) hb); have n1_ := Aside0.mk (Kd.R_lower (Kd.R_new' ho0 (Kd.R_lt (z_59))) (below_size (z_2))); have n2_ := Aside0.mk (below_step (z_2) hb); clear HO176; clear HB; have HO176 := n0_; have HO180 := n1_; have HB := n2_; clear n0_ n1_ n2_; (try clear hb); (try clear hb2); (try clear hk); (try clear hi); (try clear ho0); obtain ⟨Ao15, co15, eo15⟩ := Kd.R_slice HO180.out; subst eo15) | ((with_reducible refine gate_callee (f := 36) rfl ?_); refine goesL_ (some 18) rfl rfl Try.func36 (z_0) rfl #[.slice Ao15 t178.length co15] rfl (z_6) ?_; (with_reducible refine (impl_KeptOk.calls k _ _ t178 t181 _ ?side1 ?side2 A8.out).mono ?_); (case side1 => exact z_60); (case side2 => exact z_61); rintro e w16 ⟨rfl, hb⟩; refine ⟨_, rfl, ?_⟩; have n0_ := Aside0.mk (Kd.R_below (z_59) hb); have n1_ := Aside0.mk (Kd.R_below (z_62) hb); have n2_ := Aside0.mk (below_step (z_2) hb); clear HO176; clear HO180; clear HB; have HO176 := n0_; have HO180 := n1_; have HB := n2_; clear n0_ n1_ n2_; (try clear hb); (try clear hb2); (try clear hk); (try clear hi)))
      go_ret
      exact ⟨z_4, z_2⟩
    · rw [if_neg c9] at H
      have c9b0 : (t181 != t177) = false := by simpa using c9
      (try (have c9b1 : decide (t181 = t177) = true := by simpa using c9))
      (try (have c9b2 : (t181 == t177) = true := by simpa using c9))
      clear c9
      replace H := Option.bind_eq_some_iff.mp H
      obtain ⟨t182, A170, H⟩ := H
      have A17 := Aside0.mk A170
      clear A170
      replace H := Option.bind_eq_some_iff.mp H
      obtain ⟨t185, A180, H⟩ := H
      have A18 := Aside0.mk A180
      clear A180
      by_cases c19 : t185 = true
      · subst c19
        rw [if_pos rfl] at H
        obtain rfl := Option.some.inj H
        go_enter Try.func8, Try.ntmps8
        go_wp2_with (first | ((with_reducible refine gate_callee (f := 33) rfl ?_); refine goesL_ (some 9) rfl rfl Try.func33 (z_0) rfl #[.slice A0 l0.length c0, .int .i64 1048576] rfl (z_6) ?_; (with_reducible refine (laws_szKeptS.calls k _ _ l0 1048576 t173 _ ?side1 ?side2 A2.out).mono ?_); (case side1 => exact z_56); (case side2 => exact HC0.out); rintro e w20 ⟨rfl, hb⟩; refine ⟨_, rfl, ?_⟩; have n0_ := Aside0.mk (below_step (z_2) hb); clear HB; have HB := n0_; clear n0_; (try clear hb); (try clear hb2); (try clear hk); (try clear hi)) | ((with_reducible refine gate_callee (f := 35) rfl ?_); refine goesL_ (some 13) rfl rfl Try.func35 (z_0) rfl #[.slice A0 l0.length c0] rfl (z_6) ?_; (with_reducible refine (laws_toKeptS.calls k _ _ l0 t174 _ ?side1 ?side2 A5.out).mono ?_); (case side1 => exact z_57); (case side2 => exact HC0.out); rintro e w21 ⟨v175, rfl, ho0, hb⟩; refine ⟨_, rfl, ?_⟩; have n0_ := Aside0.mk (Kd.R_lower ho0 (below_size (z_2))); have n1_ := Aside0.mk (below_step (z_2) hb); clear HB; have HO176 := n0_; have HB := n1_; clear n0_ n1_; (try clear hb); (try clear hb2); (try clear hk); (try clear hi); (try clear ho0); obtain ⟨Ao22, co22, eo22⟩ := Kd.R_slice HO176.out; subst eo22) | ((with_reducible refine gate_callee (f := 34) rfl ?_); refine goesL_ (some 14) rfl rfl Try.func34 (z_0) rfl #[.slice Ao22 t174.length co22] rfl (z_6) ?_; (with_reducible refine (spec_KeptOk.calls k _ _ t174 t177 _ ?side1 ?side2 A6.out).mono ?_); (case side1 => exact z_58); (case side2 => exact (Kd.R_reads' HO176.out).2.1); rintro e w23 ⟨rfl, hb⟩; refine ⟨_, rfl, ?_⟩; have n0_ := Aside0.mk (Kd.R_below (z_59) hb); have n1_ := Aside0.mk (below_step (z_2) hb); clear HO176; clear HB; have HO176 := n0_; have HB := n1_; clear n0_ n1_; (try clear hb); (try clear hb2); (try clear hk); (try clear hi)) | ((with_reducible refine gate_callee (f := 35) rfl ?_); refine goesL_ (some 16) rfl rfl Try.func35 (z_0) rfl #[.slice A0 l0.length c0] rfl (z_6) ?_; (with_reducible refine (laws_toKeptS.calls k _ _ l0 t178 _ ?side1 ?side2 A7.out).mono ?_); (case side1 => exact z_57); (case side2 => exact HC0.out); rintro e w24 ⟨v179, rfl, ho0, hb⟩; refine ⟨_, rfl, ?_⟩; have n0_ := Aside0.mk (Kd.R_elder' (z_59) (Kd.R_base ho0) hb); have n1_ := Aside0.mk (Kd.R_lower (Kd.R_new' ho0 (Kd.R_lt (z_59))) (below_size (z_2))); have n2_ := Aside0.mk (below_step (z_2) hb); clear HO176; clear HB; have HO176 := n0_; have HO180 := n1_; have HB := n2_; clear n0_ n1_ n2_; (try clear hb); (try clear hb2); (try clear hk); (try clear hi); (try clear ho0); obtain ⟨Ao25, co25, eo25⟩ := Kd.R_slice HO180.out; subst eo25) | ((with_reducible refine gate_callee (f := 36) rfl ?_); refine goesL_ (some 18) rfl rfl Try.func36 (z_0) rfl #[.slice Ao25 t178.length co25] rfl (z_6) ?_; (with_reducible refine (impl_KeptOk.calls k _ _ t178 t181 _ ?side1 ?side2 A8.out).mono ?_); (case side1 => exact z_60); (case side2 => exact z_61); rintro e w26 ⟨rfl, hb⟩; refine ⟨_, rfl, ?_⟩; have n0_ := Aside0.mk (Kd.R_below (z_59) hb); have n1_ := Aside0.mk (Kd.R_below (z_62) hb); have n2_ := Aside0.mk (below_step (z_2) hb); clear HO176; clear HO180; clear HB; have HO176 := n0_; have HO180 := n1_; have HB := n2_; clear n0_ n1_ n2_; (try clear hb); (try clear hb2); (try clear hk); (try clear hi)) | ((with_reducible refine gate_callee (f := 35) rfl ?_); refine goesL_ (some 24) rfl rfl Try.func35 (z_0) rfl #[.slice A0 l0.length c0] rfl (z_6) ?_; (with_reducible refine (laws_toKeptS.calls k _ _ l0 t182 _ ?side1 ?side2 A17.out).mono ?_); (case side1 => exact z_57); (case side2 => exact HC0.out); rintro e w27 ⟨v183, rfl, ho0, hb⟩; refine ⟨_, rfl, ?_⟩; have n0_ := Aside0.mk (Kd.R_elder' (z_59) (Kd.R_base ho0) hb); have n1_ := Aside0.mk (Kd.R_elder' (z_62) (Kd.R_base ho0) hb); have n2_ := Aside0.mk (Kd.R_lower (Kd.R_new' (Kd.R_new' ho0 (Kd.R_lt (z_59))) (Kd.R_lt (z_62))) (below_size (z_2))); have n3_ := Aside0.mk (below_step (z_2) hb); clear HO176; clear HO180; clear HB; have HO176 := n0_; have HO180 := n1_; have HO184 := n2_; have HB := n3_; clear n0_ n1_ n2_ n3_; (try clear hb); (try clear hb2); (try clear hk); (try clear hi); (try clear ho0); obtain ⟨Ao28, co28, eo28⟩ := Kd.R_slice HO184.out; subst eo28) | ((with_reducible refine gate_callee (f := 37) rfl ?_); refine goesL_ (some 25) rfl rfl Try.func37 (z_0) rfl #[.slice Ao25 t178.length co25, .slice Ao28 t182.length co28] rfl (z_6) ?_; (with_reducible refine (laws_eqKeptS.calls k _ _ t178 _ _ t182 true _ ?side1 ?side2 ?side3 ?side4 A18.out).mono ?_); (case side1 => exact z_60); (case side2 => exact z_61); (case side3 => exact z_63); (case side4 => exact (Kd.R_reads' HO184.out).2.1); rintro e w29 ⟨rfl, hb⟩; refine ⟨_, rfl, ?_⟩; have n0_ := Aside0.mk (Kd.R_below (z_59) hb); have n1_ := Aside0.mk (Kd.R_below (z_62) hb); have n2_ := Aside0.mk (Kd.R_below (z_64) hb); have n3_ := Aside0.mk (below_step (z_2) hb); clear HO176; clear HO180; clear HO184; clear HB; have HO176 := n0_; have HO180 := n1_; have HO184 := n2_; have HB := n3_; clear n0_ n1_ n2_ n3_; (try clear hb); (try clear hb2); (try clear hk); (try clear hi)))
        go_ret
        exact ⟨z_4, z_2⟩
      · replace c19 := Bool.eq_false_iff.mpr c19
        subst c19
        rw [if_neg (show ¬ (false = true) by decide)] at H
        obtain rfl := Option.some.inj H
        go_enter Try.func8, Try.ntmps8
        go_wp2_with (first | ((with_reducible refine gate_callee (f := 33) rfl ?_); refine goesL_ (some 9) rfl rfl Try.func33 (z_0) rfl #[.slice A0 l0.length c0, .int .i64 1048576] rfl (z_6) ?_; (with_reducible refine (laws_szKeptS.calls k _ _ l0 1048576 t173 _ ?side1 ?side2 A2.out).mono ?_); (case side1 => exact z_56); (case side2 => exact HC0.out); rintro e w30 ⟨rfl, hb⟩; refine ⟨_, rfl, ?_⟩; have n0_ := Aside0.mk (below_step (z_2) hb); clear HB; have HB := n0_; clear n0_; (try clear hb); (try clear hb2); (try clear hk); (try clear hi)) | ((with_reducible refine gate_callee (f := 35) rfl ?_); refine goesL_ (some 13) rfl rfl Try.func35 (z_0) rfl #[.slice A0 l0.length c0] rfl (z_6) ?_; (with_reducible refine (laws_toKeptS.calls k _ _ l0 t174 _ ?side1 ?side2 A5.out).mono ?_); (case side1 => exact z_57); (case side2 => exact HC0.out); rintro e w31 ⟨v175, rfl, ho0, hb⟩; refine ⟨_, rfl, ?_⟩; have n0_ := Aside0.mk (Kd.R_lower ho0 (below_size (z_2))); have n1_ := Aside0.mk (below_step (z_2) hb); clear HB; have HO176 := n0_; have HB := n1_; clear n0_ n1_; (try clear hb); (try clear hb2); (try clear hk); (try clear hi); (try clear ho0); obtain ⟨Ao32, co32, eo32⟩ := Kd.R_slice HO176.out; subst eo32) | ((with_reducible refine gate_callee (f := 34) rfl ?_); refine goesL_ (some 14) rfl rfl Try.func34 (z_0) rfl #[.slice Ao32 t174.length co32] rfl (z_6) ?_; (with_reducible refine (spec_KeptOk.calls k _ _ t174 t177 _ ?side1 ?side2 A6.out).mono ?_); (case side1 => exact z_58); (case side2 => exact (Kd.R_reads' HO176.out).2.1); rintro e w33 ⟨rfl, hb⟩; refine ⟨_, rfl, ?_⟩; have n0_ := Aside0.mk (Kd.R_below (z_59) hb); have n1_ := Aside0.mk (below_step (z_2) hb); clear HO176; clear HB; have HO176 := n0_; have HB := n1_; clear n0_ n1_; (try clear hb); (try clear hb2); (try clear hk); (try clear hi)) | ((with_reducible refine gate_callee (f := 35) rfl ?_); refine goesL_ (some 16) rfl rfl Try.func35 (z_0) rfl #[.slice A0 l0.length c0] rfl (z_6) ?_; (with_reducible refine (laws_toKeptS.calls k _ _ l0 t178 _ ?side1 ?side2 A7.out).mono ?_); (case side1 => exact z_57); (case side2 => exact HC0.out); rintro e w34 ⟨v179, rfl, ho0, hb⟩; refine ⟨_, rfl, ?_⟩; have n0_ := Aside0.mk (Kd.R_elder' (z_59) (Kd.R_base ho0) hb); have n1_ := Aside0.mk (Kd.R_lower (Kd.R_new' ho0 (Kd.R_lt (z_59))) (below_size (z_2))); have n2_ := Aside0.mk (below_step (z_2) hb); clear HO176; clear HB; have HO176 := n0_; have HO180 := n1_; have HB := n2_; clear n0_ n1_ n2_; (try clear hb); (try clear hb2); (try clear hk); (try clear hi); (try clear ho0); obtain ⟨Ao35, co35, eo35⟩ := Kd.R_slice HO180.out; subst eo35) | ((with_reducible refine gate_callee (f := 36) rfl ?_); refine goesL_ (some 18) rfl rfl Try.func36 (z_0) rfl #[.slice Ao35 t178.length co35] rfl (z_6) ?_; (with_reducible refine (impl_KeptOk.calls k _ _ t178 t181 _ ?side1 ?side2 A8.out).mono ?_); (case side1 => exact z_60); (case side2 => exact z_61); rintro e w36 ⟨rfl, hb⟩; refine ⟨_, rfl, ?_⟩; have n0_ := Aside0.mk (Kd.R_below (z_59) hb); have n1_ := Aside0.mk (Kd.R_below (z_62) hb); have n2_ := Aside0.mk (below_step (z_2) hb); clear HO176; clear HO180; clear HB; have HO176 := n0_; have HO180 := n1_; have HB := n2_; clear n0_ n1_ n2_; (try clear hb); (try clear hb2); (try clear hk); (try clear hi)) | ((with_reducible refine gate_callee (f := 35) rfl ?_); refine goesL_ (some 24) rfl rfl Try.func35 (z_0) rfl #[.slice A0 l0.length c0] rfl (z_6) ?_; (with_reducible refine (laws_toKeptS.calls k _ _ l0 t182 _ ?side1 ?side2 A17.out).mono ?_); (case side1 => exact z_57); (case side2 => exact HC0.out); rintro e w37 ⟨v183, rfl, ho0, hb⟩; refine ⟨_, rfl, ?_⟩; have n0_ := Aside0.mk (Kd.R_elder' (z_59) (Kd.R_base ho0) hb); have n1_ := Aside0.mk (Kd.R_elder' (z_62) (Kd.R_base ho0) hb); have n2_ := Aside0.mk (Kd.R_lower (Kd.R_new' (Kd.R_new' ho0 (Kd.R_lt (z_59))) (Kd.R_lt (z_62))) (below_size (z_2))); have n3_ := Aside0.mk (below_step (z_2) hb); clear HO176; clear HO180; clear HB; have HO176 := n0_; have HO180 := n1_; have HO184 := n2_; have HB := n3_; clear n0_ n1_ n2_ n3_; (try clear hb); (try clear hb2); (try clear hk); (try clear hi); (try clear ho0); obtain ⟨Ao38, co38, eo38⟩ := Kd.R_slice HO184.out; subst eo38) | ((with_reducible refine gate_callee (f := 37) rfl ?_); refine goesL_ (some 25) rfl rfl Try.func37 (z_0) rfl #[.slice Ao35 t178.length co35, .slice Ao38 t182.length co38] rfl (z_6) ?_; (with_reducible refine (laws_eqKeptS.calls k _ _ t178 _ _ t182 false _ ?side1 ?side2 ?side3 ?side4 A18.out).mono ?_); (case side1 => exact z_60); (case side2 => exact z_61); (case side3 => exact z_63); (case side4 => exact (Kd.R_reads' HO184.out).2.1); rintro e w39 ⟨rfl, hb⟩; refine ⟨_, rfl, ?_⟩; have n0_ := Aside0.mk (Kd.R_below (z_59) hb); have n1_ := Aside0.mk (Kd.R_below (z_62) hb); have n2_ := Aside0.mk (Kd.R_below (z_64) hb); have n3_ := Aside0.mk (below_step (z_2) hb); clear HO176; clear HO180; clear HO184; clear HB; have HO176 := n0_; have HO180 := n1_; have HO184 := n2_; have HB := n3_; clear n0_ n1_ n2_ n3_; (try clear hb); (try clear hb2); (try clear hk); (try clear hi)))
        go_ret
        exact ⟨z_4, z_2⟩

end Go.Proofs.Ytmgnmgobibpjjaa.GFnExactKeptOk
