/- What the Go functions that FnExactEndNew reaches come to, walked step by step; there is no condition beyond those each statement names. -/
import Derived.Test.YtpadgacbkkjjfaaGFnExactEndNewx4
namespace Go.Proofs.Ytpadgacbkkjjfaa.GFnExactEndNew
open Go.RowKit Go.Proofs.YtpadgacbkkjjfaaVExactEndNew.PrintWords Go.Proofs.YtpadgacbkkjjfaaVExactEndNew.PrintLast Go.Proofs.YtpadgacbkkjjfaaVExactEndNew.PrintMore
attribute [local go_sem] max2_int min2_int max_two min_two max_three min_three max_four min_four   -- for this text's walks alone
set_option linter.unusedVariables false
set_option linter.unusedSimpArgs false
set_option maxHeartbeats 8000000 in
set_option maxRecDepth 100000 in
def spec_EndOk.p1 (k : Nat) (a0_0 : Int) (a0_1 : Int) (a0_2 : Int) (a0_3 : Int) (a0_4 : Int) (a0_5 : Int) (a0_6 : Int) (A0_7 : Option Addr) (c0_7 : Nat) (l0_7 : List Int) (a0_8 : Int) (a0_9 : Int) (A0_10 : Option Addr) (c0_10 : Nat) (l0_10 : List (S69)) (a0_11 : Int) (a0_12 : Int) (A0_13 : Option Addr) (c0_13 : Nat) (l0_13 : List Int) (A0_14 : Option Addr) (c0_14 : Nat) (l0_14 : List (S59)) (a0_15 : Bool) (a0_16 : Bool) (a0_17 : Bool) (a0_18 : Int) (a0_19 : Int) (a0_20 : Int) (a0_21 : Int) (a0_22 : Int) (a0_23 : Int) (r : Bool) (w : World) : Cut_ ((spec_EndOk.p0 k a0_0 a0_1 a0_2 a0_3 a0_4 a0_5 a0_6 A0_7 c0_7 l0_7 a0_8 a0_9 A0_10 c0_10 l0_10 a0_11 a0_12 A0_13 c0_13 l0_13 A0_14 c0_14 l0_14 a0_15 a0_16 a0_17 a0_18 a0_19 a0_20 a0_21 a0_22 a0_23 r w).P) := by
  apply Cut_.mk
  · intro h_
    intro hu32 hu25 hu28 hu30 HR0_7 HC0_7 HR0_10 HC0_10 HR0_13 HC0_13 HR0_14 HC0_14 HC2 iq0_0 gb121 w3 HB BK121 GW121 GE121 iq0_1 iq0_2 iq0_3 iq0_4 wc u4_0 u5_0 u6_0 u7_0 u8_0 u9_0 u10_0 u11_0 u12_0 u13_0 u14_0 u15_0 u16_0 u17_0 u18_0 u19_0 u20_0 u21_0 u22_0 u23_0 u24_0 u25_0 u26_0 u27_0 u28_0 u29_0 u30_0 u31_0 u32_0 u33_0 u34_0 u35_0 u36_0 u37_0 u38_0 u39_0 u40_0 u41_0 u42_0 u43_0 u44_0 u45_0 u46_0 u47_0 u48_0 u49_0 u50_0 u51_0 u52_0 u53_0 u54_0 u55_0 u56_0 u57_0 u58_0 u59_0 u60_0 u61_0 u62_0 u63_0 u64_0 u65_0 u66_0 u67_0 u68_0 u69_0 u70_0 u71_0 u72_0 u73_0 u74_0 u75_0 u76_0 u77_0 u78_0 u79_0 u80_0 u81_0 u82_0 u83_0 u84_0 u85_0 u86_0 u87_0 u88_0 u89_0 u90_0 u91_0 u92_0 u93_0 u94_0 u95_0 u96_0 u97_0 u98_0 u99_0 u100_0 u101_0 u102_0 u103_0 u104_0 u105_0 u106_0 u107_0 u108_0 u109_0 u110_0 u111_0 u112_0 u113_0 u114_0 u115_0 u116_0 u117_0 u118_0 u119_0 u120_0 u121_0 u122_0 u123_0 u124_0 u125_0 u126_0 u127_0 u128_0 u129_0 u130_0 u131_0 u132_0 u133_0 u134_0 u135_0 u136_0 u137_0 u138_0 u139_0 u140_0 u141_0 u142_0 u143_0 u144_0 u145_0 u146_0 u147_0 u148_0 u149_0 u150_0 u151_0 u152_0 u153_0 u154_0 u155_0 u156_0 u157_0 u158_0 u159_0 u160_0 u161_0 u162_0 u163_0 u164_0 u165_0 u166_0 u167_0 u168_0 u169_0 u170_0 u171_0 u172_0 u173_0 u174_0 u175_0 u176_0 u177_0 u178_0 u179_0 u180_0 u181_0 u182_0 u183_0 u184_0 u185_0 u186_0 u187_0 u188_0 u189_0 hcut
    clear HC2
    obtain ⟨kq, x37_1, rfl, HA, HJ1, BK121, HB⟩ := hcut
    cases kq with
    | zero => exact absurd HA.out (by simp [spec_EndOk.j0])
    | succ kj1 =>
      have H := HA.out
      clear HA
      simp only [spec_EndOk.j0] at H
      by_cases c21 : x37_1 = true
      · subst c21
        rw [if_pos rfl] at H
        obtain rfl := Option.some.inj H
        go_wp2
        repeat (go_quiet (fail); try go_wp2)
        go_ret
        exact ⟨z_4, z_24⟩
      · replace c21 := Bool.eq_false_iff.mpr c21
        subst c21
        rw [if_neg (show ¬ (false = true) by decide)] at H
        have HC22 := Aside0.mk H
        clear H
        go_upto_region 3 with (fail)
        repeat (go_quiet (fail); go_upto_region 3 with (fail))
        go_cut [73] (fun v73 wc => ∃ (kq : Nat) (x73_21 : Bool), v73 = .bool x73_21 ∧ Aside0 (spec_EndOk.j1 kq x73_21 a0_0 a0_1 a0_2 a0_3 a0_4 a0_5 a0_6 l0_7 a0_8 a0_9 l0_10 a0_11 a0_12 l0_13 l0_14 a0_15 a0_16 a0_17 a0_18 a0_19 a0_20 a0_21 a0_22 a0_23 = some r) ∧ Aside0 (kq ≤ kj1) ∧ Aside0 (wc.heap[gb121]? = some (.cells #[.int .i64 a0_0, .int .i64 a0_1, .int .i64 a0_2, .int .i64 a0_3, .int .i64 a0_4, .int .i64 a0_5, .int .i64 a0_6, (.slice A0_7 l0_7.length c0_7), .int .i64 a0_8, .int .i64 a0_9, (.slice A0_10 l0_10.length c0_10), .int .i64 a0_11, .int .i64 a0_12, (.slice A0_13 l0_13.length c0_13), (.slice A0_14 l0_14.length c0_14), .bool a0_15, .bool a0_16, .bool a0_17, .int .i64 a0_18, .int .i64 a0_19, .int .i64 a0_20, .int .i64 a0_21, .int .i64 a0_22, .int .i64 a0_23] 32 (0, 0))) ∧ Aside0 (Below w.heap.size w wc))
        case first =>
          have H := HC22.out
          clear HC22
          replace H := Option.bind_eq_some_iff.mp H
          obtain ⟨t128, A230, H⟩ := H
          have A23 := Aside0.mk A230
          clear A230
          obtain ⟨hcz36_0, hcz36_1, hcz36_2, hcz36_3, hcz36_4, hcz36_5, hcz36_6, hcz36_7, hcz36_8, hcz36_9, hcz36_10, hcz36_11, hcz36_12, hcz36_13, hcz36_14, hcz36_15, hcz36_16, hcz36_17, hcz36_18, hcz36_19, hcz36_20, hcz36_21, hcz36_22, hcz36_23, hfz36_0, hfz36_1, hfz36_2, hfz36_3, hfz36_4, hfz36_5, hfz36_6, hfz36_7, hfz36_8, hfz36_9, hfz36_10, hfz36_11, hfz36_12, hfz36_13, hfz36_14, hfz36_15, hfz36_16, hfz36_17, hfz36_18, hfz36_19, hfz36_20, hfz36_21, hfz36_22, hfz36_23⟩ := cells_24 BK121.out
          by_cases c24 : t128 = true
          subst c24
          rw [if_pos rfl] at H
          by_cases c25 : a0_6 ≤ a0_5
          rw [if_pos c25] at H
          have c25b0 : decide (a0_6 ≤ a0_5) = true := decide_eq_true c25
          clear c25
          (first | rw [c25b0] | (simp only [i64_w, i32_w]; rw [c25b0]) | skip)
          have H' := Aside0.mk H
          clear H
          rotate_left
          rw [if_neg c25] at H
          have c25b0 : decide (a0_6 ≤ a0_5) = false := decide_eq_false c25
          clear c25
          (first | rw [c25b0] | (simp only [i64_w, i32_w]; rw [c25b0]) | skip)
          replace H := Option.bind_eq_some_iff.mp H
          obtain ⟨t129, A290, H⟩ := H
          have A29 := Aside0.mk A290
          clear A290
          by_cases c30 : t129 = true
          subst c30
          rw [if_pos rfl] at H
          replace H := Option.bind_eq_some_iff.mp H
          obtain ⟨t130, A310, H⟩ := H
          have A31 := Aside0.mk A310
          clear A310
          by_cases c32 : t130 = true
          subst c32
          rw [if_pos rfl] at H
          replace H := Option.bind_eq_some_iff.mp H
          obtain ⟨t131, A330, H⟩ := H
          have A33 := Aside0.mk A330
          clear A330
          by_cases c34 : t131 = true
          subst c34
          rw [if_pos rfl] at H
          replace H := Option.bind_eq_some_iff.mp H
          obtain ⟨t132, A350, H⟩ := H
          have A35 := Aside0.mk A350
          clear A350
          have H' := Aside0.mk H
          clear H
          rotate_left
          replace c34 := Bool.eq_false_iff.mpr c34
          subst c34
          rw [if_neg (show ¬ (false = true) by decide)] at H
          have H' := Aside0.mk H
          clear H
          rotate_left
          replace c32 := Bool.eq_false_iff.mpr c32
          subst c32
          rw [if_neg (show ¬ (false = true) by decide)] at H
          have H' := Aside0.mk H
          clear H
          rotate_left
          replace c30 := Bool.eq_false_iff.mpr c30
          subst c30
          rw [if_neg (show ¬ (false = true) by decide)] at H
          have H' := Aside0.mk H
          clear H
          rotate_left
          replace c24 := Bool.eq_false_iff.mpr c24
          subst c24
          rw [if_neg (show ¬ (false = true) by decide)] at H
          have H' := Aside0.mk H
          clear H
          rotate_left
          all_goals (
           go_wp2_with (first | (go_at_call 39; (with_reducible refine (spec_MouthOk.calls kj1 a0_6 _ _ l0_7 a0_8 a0_9 _ _ l0_10 _ _ ?side1 ?side2 ?side3 ?side4 A23.out).mono ?_); (case side1 => exact z_25); (case side2 => exact HC0_7.out); (case side3 => exact z_26); (case side4 => exact HC0_10.out); rintro e w37 ⟨rfl, hb⟩; have n0_ := Aside0.mk (blk_below (g := gb121) (o := .cells #[.int .i64 a0_0, .int .i64 a0_1, .int .i64 a0_2, .int .i64 a0_3, .int .i64 a0_4, .int .i64 a0_5, .int .i64 a0_6, .slice A0_7 l0_7.length c0_7, .int .i64 a0_8, .int .i64 a0_9, .slice A0_10 l0_10.length c0_10, .int .i64 a0_11, .int .i64 a0_12, .slice A0_13 l0_13.length c0_13, .slice A0_14 l0_14.length c0_14, .bool a0_15, .bool a0_16, .bool a0_17, .int .i64 a0_18, .int .i64 a0_19, .int .i64 a0_20, .int .i64 a0_21, .int .i64 a0_22, .int .i64 a0_23] 32 (0, 0)) (z_23) hb); have n1_ := Aside0.mk (below_step (z_24) hb); clear BK121; clear HB; have BK121 := n0_; have HB := n1_; clear n0_ n1_; (try clear hb); (try clear hb2); (try clear hk); (try clear hi); obtain ⟨hcz38_0, hcz38_1, hcz38_2, hcz38_3, hcz38_4, hcz38_5, hcz38_6, hcz38_7, hcz38_8, hcz38_9, hcz38_10, hcz38_11, hcz38_12, hcz38_13, hcz38_14, hcz38_15, hcz38_16, hcz38_17, hcz38_18, hcz38_19, hcz38_20, hcz38_21, hcz38_22, hcz38_23, hfz38_0, hfz38_1, hfz38_2, hfz38_3, hfz38_4, hfz38_5, hfz38_6, hfz38_7, hfz38_8, hfz38_9, hfz38_10, hfz38_11, hfz38_12, hfz38_13, hfz38_14, hfz38_15, hfz38_16, hfz38_17, hfz38_18, hfz38_19, hfz38_20, hfz38_21, hfz38_22, hfz38_23⟩ := cells_24 BK121.out) | (go_at_call 40; (with_reducible refine (spec_EarOk.calls kj1 a0_11 a0_12 _ _ l0_13 _ _ l0_14 _ _ ?side1 ?side2 ?side3 ?side4 A29.out).mono ?_); (case side1 => exact z_27); (case side2 => exact HC0_13.out); (case side3 => exact z_28); (case side4 => exact HC0_14.out); rintro e w39 ⟨rfl, hb⟩; have n0_ := Aside0.mk (blk_below (g := gb121) (o := .cells #[.int .i64 a0_0, .int .i64 a0_1, .int .i64 a0_2, .int .i64 a0_3, .int .i64 a0_4, .int .i64 a0_5, .int .i64 a0_6, .slice A0_7 l0_7.length c0_7, .int .i64 a0_8, .int .i64 a0_9, .slice A0_10 l0_10.length c0_10, .int .i64 a0_11, .int .i64 a0_12, .slice A0_13 l0_13.length c0_13, .slice A0_14 l0_14.length c0_14, .bool a0_15, .bool a0_16, .bool a0_17, .int .i64 a0_18, .int .i64 a0_19, .int .i64 a0_20, .int .i64 a0_21, .int .i64 a0_22, .int .i64 a0_23] 32 (0, 0)) (z_23) hb); have n1_ := Aside0.mk (below_step (z_24) hb); clear BK121; clear HB; have BK121 := n0_; have HB := n1_; clear n0_ n1_; (try clear hb); (try clear hb2); (try clear hk); (try clear hi); obtain ⟨hcz40_0, hcz40_1, hcz40_2, hcz40_3, hcz40_4, hcz40_5, hcz40_6, hcz40_7, hcz40_8, hcz40_9, hcz40_10, hcz40_11, hcz40_12, hcz40_13, hcz40_14, hcz40_15, hcz40_16, hcz40_17, hcz40_18, hcz40_19, hcz40_20, hcz40_21, hcz40_22, hcz40_23, hfz40_0, hfz40_1, hfz40_2, hfz40_3, hfz40_4, hfz40_5, hfz40_6, hfz40_7, hfz40_8, hfz40_9, hfz40_10, hfz40_11, hfz40_12, hfz40_13, hfz40_14, hfz40_15, hfz40_16, hfz40_17, hfz40_18, hfz40_19, hfz40_20, hfz40_21, hfz40_22, hfz40_23⟩ := cells_24 BK121.out) | (go_at_call 41; (with_reducible refine (spec_ClockOk.calls a0_21 a0_22 a0_23 _ _ A31.out).mono ?_); rintro e w41 ⟨rfl, hb⟩; have n0_ := Aside0.mk (blk_below (g := gb121) (o := .cells #[.int .i64 a0_0, .int .i64 a0_1, .int .i64 a0_2, .int .i64 a0_3, .int .i64 a0_4, .int .i64 a0_5, .int .i64 a0_6, .slice A0_7 l0_7.length c0_7, .int .i64 a0_8, .int .i64 a0_9, .slice A0_10 l0_10.length c0_10, .int .i64 a0_11, .int .i64 a0_12, .slice A0_13 l0_13.length c0_13, .slice A0_14 l0_14.length c0_14, .bool a0_15, .bool a0_16, .bool a0_17, .int .i64 a0_18, .int .i64 a0_19, .int .i64 a0_20, .int .i64 a0_21, .int .i64 a0_22, .int .i64 a0_23] 32 (0, 0)) (z_23) hb); have n1_ := Aside0.mk (below_step (z_24) hb); clear BK121; clear HB; have BK121 := n0_; have HB := n1_; clear n0_ n1_; (try clear hb); (try clear hb2); (try clear hk); (try clear hi); obtain ⟨hcz42_0, hcz42_1, hcz42_2, hcz42_3, hcz42_4, hcz42_5, hcz42_6, hcz42_7, hcz42_8, hcz42_9, hcz42_10, hcz42_11, hcz42_12, hcz42_13, hcz42_14, hcz42_15, hcz42_16, hcz42_17, hcz42_18, hcz42_19, hcz42_20, hcz42_21, hcz42_22, hcz42_23, hfz42_0, hfz42_1, hfz42_2, hfz42_3, hfz42_4, hfz42_5, hfz42_6, hfz42_7, hfz42_8, hfz42_9, hfz42_10, hfz42_11, hfz42_12, hfz42_13, hfz42_14, hfz42_15, hfz42_16, hfz42_17, hfz42_18, hfz42_19, hfz42_20, hfz42_21, hfz42_22, hfz42_23⟩ := cells_24 BK121.out) | (go_at_call 38; (with_reducible refine (spec_l1In.calls a0_19 0 1000000 _ _ A33.out).mono ?_); rintro e w' ⟨rfl, ⟨nd, rfl⟩⟩; (try first | exact ⟨rfl, _, World.drewN_drewN _ _ _⟩ | exact ⟨rfl, _, Eq.trans (World.drewN_drewN _ _ _) (congrArg (World.drewN _) (Nat.add_assoc _ _ _))⟩)) | (go_at_call 38; (with_reducible refine (spec_l1In.calls a0_20 0 8 t132 _ A35.out).mono ?_); rintro e w' ⟨rfl, ⟨nd, rfl⟩⟩; (try first | exact ⟨rfl, _, World.drewN_drewN _ _ _⟩ | exact ⟨rfl, _, Eq.trans (World.drewN_drewN _ _ _) (congrArg (World.drewN _) (Nat.add_assoc _ _ _))⟩)))
           repeat (go_quiet (first | (go_at_call 39; (with_reducible refine (spec_MouthOk.calls kj1 a0_6 _ _ l0_7 a0_8 a0_9 _ _ l0_10 _ _ ?side1 ?side2 ?side3 ?side4 A23.out).mono ?_); (case side1 => exact z_25); (case side2 => exact HC0_7.out); (case side3 => exact z_26); (case side4 => exact HC0_10.out); rintro e w37 ⟨rfl, hb⟩; have n0_ := Aside0.mk (blk_below (g := gb121) (o := .cells #[.int .i64 a0_0, .int .i64 a0_1, .int .i64 a0_2, .int .i64 a0_3, .int .i64 a0_4, .int .i64 a0_5, .int .i64 a0_6, .slice A0_7 l0_7.length c0_7, .int .i64 a0_8, .int .i64 a0_9, .slice A0_10 l0_10.length c0_10, .int .i64 a0_11, .int .i64 a0_12, .slice A0_13 l0_13.length c0_13, .slice A0_14 l0_14.length c0_14, .bool a0_15, .bool a0_16, .bool a0_17, .int .i64 a0_18, .int .i64 a0_19, .int .i64 a0_20, .int .i64 a0_21, .int .i64 a0_22, .int .i64 a0_23] 32 (0, 0)) (z_23) hb); have n1_ := Aside0.mk (below_step (z_24) hb); clear BK121; clear HB; have BK121 := n0_; have HB := n1_; clear n0_ n1_; (try clear hb); (try clear hb2); (try clear hk); (try clear hi); obtain ⟨hcz38_0, hcz38_1, hcz38_2, hcz38_3, hcz38_4, hcz38_5, hcz38_6, hcz38_7, hcz38_8, hcz38_9, hcz38_10, hcz38_11, hcz38_12, hcz38_13, hcz38_14, hcz38_15, hcz38_16, hcz38_17, hcz38_18, hcz38_19, hcz38_20, hcz38_21, hcz38_22, hcz38_23, hfz38_0, hfz38_1, hfz38_2, hfz38_3, hfz38_4, hfz38_5, hfz38_6, hfz38_7, hfz38_8, hfz38_9, hfz38_10, hfz38_11, hfz38_12, hfz38_13, hfz38_14, hfz38_15, hfz38_16, hfz38_17, hfz38_18, hfz38_19, hfz38_20, hfz38_21, hfz38_22, hfz38_23⟩ := cells_24 BK121.out) | (go_at_call 40; (with_reducible refine (spec_EarOk.calls kj1 a0_11 a0_12 _ _ l0_13 _ _ l0_14 _ _ ?side1 ?side2 ?side3 ?side4 A29.out).mono ?_); (case side1 => exact z_27); (case side2 => exact HC0_13.out); (case side3 => exact z_28); (case side4 => exact HC0_14.out); rintro e w39 ⟨rfl, hb⟩; have n0_ := Aside0.mk (blk_below (g := gb121) (o := .cells #[.int .i64 a0_0, .int .i64 a0_1, .int .i64 a0_2, .int .i64 a0_3, .int .i64 a0_4, .int .i64 a0_5, .int .i64 a0_6, .slice A0_7 l0_7.length c0_7, .int .i64 a0_8, .int .i64 a0_9, .slice A0_10 l0_10.length c0_10, .int .i64 a0_11, .int .i64 a0_12, .slice A0_13 l0_13.length c0_13, .slice A0_14 l0_14.length c0_14, .bool a0_15, .bool a0_16, .bool a0_17, .int .i64 a0_18, .int .i64 a0_19, .int .i64 a0_20, .int .i64 a0_21, .int .i64 a0_22, .int .i64 a0_23] 32 (0, 0)) (z_23) hb); have n1_ := Aside0.mk (below_step (z_24) hb); clear BK121; clear HB; have BK121 := n0_; have HB := n1_; clear n0_ n1_; (try clear hb); (try clear hb2); (try clear hk); (try clear hi); obtain ⟨hcz40_0, hcz40_1, hcz40_2, hcz40_3, hcz40_4, hcz40_5, hcz40_6, hcz40_7, hcz40_8, hcz40_9, hcz40_10, hcz40_11, hcz40_12, hcz40_13, hcz40_14, hcz40_15, hcz40_16, hcz40_17, hcz40_18, hcz40_19, hcz40_20, hcz40_21, hcz40_22, hcz40_23, hfz40_0, hfz40_1, hfz40_2, hfz40_3, hfz40_4, hfz40_5, hfz40_6, hfz40_7, hfz40_8, hfz40_9, hfz40_10, hfz40_11, hfz40_12, hfz40_13, hfz40_14, hfz40_15, hfz40_16, hfz40_17, hfz40_18, hfz40_19, hfz40_20, hfz40_21, hfz40_22, hfz40_23⟩ := cells_24 BK121.out) | (go_at_call 41; (with_reducible refine (spec_ClockOk.calls a0_21 a0_22 a0_23 _ _ A31.out).mono ?_); rintro e w41 ⟨rfl, hb⟩; have n0_ := Aside0.mk (blk_below (g := gb121) (o := .cells #[.int .i64 a0_0, .int .i64 a0_1, .int .i64 a0_2, .int .i64 a0_3, .int .i64 a0_4, .int .i64 a0_5, .int .i64 a0_6, .slice A0_7 l0_7.length c0_7, .int .i64 a0_8, .int .i64 a0_9, .slice A0_10 l0_10.length c0_10, .int .i64 a0_11, .int .i64 a0_12, .slice A0_13 l0_13.length c0_13, .slice A0_14 l0_14.length c0_14, .bool a0_15, .bool a0_16, .bool a0_17, .int .i64 a0_18, .int .i64 a0_19, .int .i64 a0_20, .int .i64 a0_21, .int .i64 a0_22, .int .i64 a0_23] 32 (0, 0)) (z_23) hb); have n1_ := Aside0.mk (below_step (z_24) hb); clear BK121; clear HB; have BK121 := n0_; have HB := n1_; clear n0_ n1_; (try clear hb); (try clear hb2); (try clear hk); (try clear hi); obtain ⟨hcz42_0, hcz42_1, hcz42_2, hcz42_3, hcz42_4, hcz42_5, hcz42_6, hcz42_7, hcz42_8, hcz42_9, hcz42_10, hcz42_11, hcz42_12, hcz42_13, hcz42_14, hcz42_15, hcz42_16, hcz42_17, hcz42_18, hcz42_19, hcz42_20, hcz42_21, hcz42_22, hcz42_23, hfz42_0, hfz42_1, hfz42_2, hfz42_3, hfz42_4, hfz42_5, hfz42_6, hfz42_7, hfz42_8, hfz42_9, hfz42_10, hfz42_11, hfz42_12, hfz42_13, hfz42_14, hfz42_15, hfz42_16, hfz42_17, hfz42_18, hfz42_19, hfz42_20, hfz42_21, hfz42_22, hfz42_23⟩ := cells_24 BK121.out) | (go_at_call 38; (with_reducible refine (spec_l1In.calls a0_19 0 1000000 _ _ A33.out).mono ?_); rintro e w' ⟨rfl, ⟨nd, rfl⟩⟩; (try first | exact ⟨rfl, _, World.drewN_drewN _ _ _⟩ | exact ⟨rfl, _, Eq.trans (World.drewN_drewN _ _ _) (congrArg (World.drewN _) (Nat.add_assoc _ _ _))⟩)) | (go_at_call 38; (with_reducible refine (spec_l1In.calls a0_20 0 8 t132 _ A35.out).mono ?_); rintro e w' ⟨rfl, ⟨nd, rfl⟩⟩; (try first | exact ⟨rfl, _, World.drewN_drewN _ _ _⟩ | exact ⟨rfl, _, Eq.trans (World.drewN_drewN _ _ _) (congrArg (World.drewN _) (Nat.add_assoc _ _ _))⟩))); try go_wp2_with (first | (go_at_call 39; (with_reducible refine (spec_MouthOk.calls kj1 a0_6 _ _ l0_7 a0_8 a0_9 _ _ l0_10 _ _ ?side1 ?side2 ?side3 ?side4 A23.out).mono ?_); (case side1 => exact z_25); (case side2 => exact HC0_7.out); (case side3 => exact z_26); (case side4 => exact HC0_10.out); rintro e w37 ⟨rfl, hb⟩; have n0_ := Aside0.mk (blk_below (g := gb121) (o := .cells #[.int .i64 a0_0, .int .i64 a0_1, .int .i64 a0_2, .int .i64 a0_3, .int .i64 a0_4, .int .i64 a0_5, .int .i64 a0_6, .slice A0_7 l0_7.length c0_7, .int .i64 a0_8, .int .i64 a0_9, .slice A0_10 l0_10.length c0_10, .int .i64 a0_11, .int .i64 a0_12, .slice A0_13 l0_13.length c0_13, .slice A0_14 l0_14.length c0_14, .bool a0_15, .bool a0_16, .bool a0_17, .int .i64 a0_18, .int .i64 a0_19, .int .i64 a0_20, .int .i64 a0_21, .int .i64 a0_22, .int .i64 a0_23] 32 (0, 0)) (z_23) hb); have n1_ := Aside0.mk (below_step (z_24) hb); clear BK121; clear HB; have BK121 := n0_; have HB := n1_; clear n0_ n1_; (try clear hb); (try clear hb2); (try clear hk); (try clear hi); obtain ⟨hcz38_0, hcz38_1, hcz38_2, hcz38_3, hcz38_4, hcz38_5, hcz38_6, hcz38_7, hcz38_8, hcz38_9, hcz38_10, hcz38_11, hcz38_12, hcz38_13, hcz38_14, hcz38_15, hcz38_16, hcz38_17, hcz38_18, hcz38_19, hcz38_20, hcz38_21, hcz38_22, hcz38_23, hfz38_0, hfz38_1, hfz38_2, hfz38_3, hfz38_4, hfz38_5, hfz38_6, hfz38_7, hfz38_8, hfz38_9, hfz38_10, hfz38_11, hfz38_12, hfz38_13, hfz38_14, hfz38_15, hfz38_16, hfz38_17, hfz38_18, hfz38_19, hfz38_20, hfz38_21, hfz38_22, hfz38_23⟩ := cells_24 BK121.out) | (go_at_call 40; (with_reducible refine (spec_EarOk.calls kj1 a0_11 a0_12 _ _ l0_13 _ _ l0_14 _ _ ?side1 ?side2 ?side3 ?side4 A29.out).mono ?_); (case side1 => exact z_27); (case side2 => exact HC0_13.out); (case side3 => exact z_28); (case side4 => exact HC0_14.out); rintro e w39 ⟨rfl, hb⟩; have n0_ := Aside0.mk (blk_below (g := gb121) (o := .cells #[.int .i64 a0_0, .int .i64 a0_1, .int .i64 a0_2, .int .i64 a0_3, .int .i64 a0_4, .int .i64 a0_5, .int .i64 a0_6, .slice A0_7 l0_7.length c0_7, .int .i64 a0_8, .int .i64 a0_9, .slice A0_10 l0_10.length c0_10, .int .i64 a0_11, .int .i64 a0_12, .slice A0_13 l0_13.length c0_13, .slice A0_14 l0_14.length c0_14, .bool a0_15, .bool a0_16, .bool a0_17, .int .i64 a0_18, .int .i64 a0_19, .int .i64 a0_20, .int .i64 a0_21, .int .i64 a0_22, .int .i64 a0_23] 32 (0, 0)) (z_23) hb); have n1_ := Aside0.mk (below_step (z_24) hb); clear BK121; clear HB; have BK121 := n0_; have HB := n1_; clear n0_ n1_; (try clear hb); (try clear hb2); (try clear hk); (try clear hi); obtain ⟨hcz40_0, hcz40_1, hcz40_2, hcz40_3, hcz40_4, hcz40_5, hcz40_6, hcz40_7, hcz40_8, hcz40_9, hcz40_10, hcz40_11, hcz40_12, hcz40_13, hcz40_14, hcz40_15, hcz40_16, hcz40_17, hcz40_18, hcz40_19, hcz40_20, hcz40_21, hcz40_22, hcz40_23, hfz40_0, hfz40_1, hfz40_2, hfz40_3, hfz40_4, hfz40_5, hfz40_6, hfz40_7, hfz40_8, hfz40_9, hfz40_10, hfz40_11, hfz40_12, hfz40_13, hfz40_14, hfz40_15, hfz40_16, hfz40_17, hfz40_18, hfz40_19, hfz40_20, hfz40_21, hfz40_22, hfz40_23⟩ := cells_24 BK121.out) | (go_at_call 41; (with_reducible refine (spec_ClockOk.calls a0_21 a0_22 a0_23 _ _ A31.out).mono ?_); rintro e w41 ⟨rfl, hb⟩; have n0_ := Aside0.mk (blk_below (g := gb121) (o := .cells #[.int .i64 a0_0, .int .i64 a0_1, .int .i64 a0_2, .int .i64 a0_3, .int .i64 a0_4, .int .i64 a0_5, .int .i64 a0_6, .slice A0_7 l0_7.length c0_7, .int .i64 a0_8, .int .i64 a0_9, .slice A0_10 l0_10.length c0_10, .int .i64 a0_11, .int .i64 a0_12, .slice A0_13 l0_13.length c0_13, .slice A0_14 l0_14.length c0_14, .bool a0_15, .bool a0_16, .bool a0_17, .int .i64 a0_18, .int .i64 a0_19, .int .i64 a0_20, .int .i64 a0_21, .int .i64 a0_22, .int .i64 a0_23] 32 (0, 0)) (z_23) hb); have n1_ := Aside0.mk (below_step (z_24) hb); clear BK121; clear HB; have BK121 := n0_; have HB := n1_; clear n0_ n1_; (try clear hb); (try clear hb2); (try clear hk); (try clear hi); obtain ⟨hcz42_0, hcz42_1, hcz42_2, hcz42_3, hcz42_4, hcz42_5, hcz42_6, hcz42_7, hcz42_8, hcz42_9, hcz42_10, hcz42_11, hcz42_12, hcz42_13, hcz42_14, hcz42_15, hcz42_16, hcz42_17, hcz42_18, hcz42_19, hcz42_20, hcz42_21, hcz42_22, hcz42_23, hfz42_0, hfz42_1, hfz42_2, hfz42_3, hfz42_4, hfz42_5, hfz42_6, hfz42_7, hfz42_8, hfz42_9, hfz42_10, hfz42_11, hfz42_12, hfz42_13, hfz42_14, hfz42_15, hfz42_16, hfz42_17, hfz42_18, hfz42_19, hfz42_20, hfz42_21, hfz42_22, hfz42_23⟩ := cells_24 BK121.out) | (go_at_call 38; (with_reducible refine (spec_l1In.calls a0_19 0 1000000 _ _ A33.out).mono ?_); rintro e w' ⟨rfl, ⟨nd, rfl⟩⟩; (try first | exact ⟨rfl, _, World.drewN_drewN _ _ _⟩ | exact ⟨rfl, _, Eq.trans (World.drewN_drewN _ _ _) (congrArg (World.drewN _) (Nat.add_assoc _ _ _))⟩)) | (go_at_call 38; (with_reducible refine (spec_l1In.calls a0_20 0 8 t132 _ A35.out).mono ?_); rintro e w' ⟨rfl, ⟨nd, rfl⟩⟩; (try first | exact ⟨rfl, _, World.drewN_drewN _ _ _⟩ | exact ⟨rfl, _, Eq.trans (World.drewN_drewN _ _ _) (congrArg (World.drewN _) (Nat.add_assoc _ _ _))⟩))))
           go_meet
           case rel => first | (exact ⟨_, (true), (z_5), H', ⟨by have := HJ1.out; first | omega | exact Nat.le_refl _⟩, ⟨z_23⟩, ⟨z_24⟩⟩) | (exact ⟨_, (!t132), (z_5), H', ⟨by have := HJ1.out; first | omega | exact Nat.le_refl _⟩, ⟨z_23⟩, ⟨z_24⟩⟩))
        case rest =>
         rename_i iq1_0 iq1_1 iq1_2 iq1_3 iq1_4 iq1_5 iq1_6
         revert hu32 hu25 hu28 hu30 HR0_7 HC0_7 HR0_10 HC0_10 HR0_13 HC0_13 HR0_14 HC0_14 iq0_0 gb121 w3 iq1_0 iq1_1 GW121 GE121 iq1_2 BK121 HB kj1 HJ1 HC22 iq1_3 iq1_4 iq1_5 iq1_6 wc u4 u5 u6 u7 u8 u9 u10 u11 u12 u13 u14 u15 u16 u17 u18 u19 u20 u21 u22 u23 u24 u25 u26 u27 u28 u29 u30 u31 u32 u33 u34 u35 u36 u37 u38 u39 u40 u41 u42 u43 u44 u45 u46 u47 u48 u49 u50 u51 u52 u53 u54 u55 u56 u57 u58 u59 u60 u61 u62 u63 u64 u65 u66 u67 u68 u69 u70 u71 u72 u73 u74 u75 u76 u77 u78 u79 u80 u81 u82 u83 u84 u85 u86 u87 u88 u89 u90 u91 u92 u93 u94 u95 u96 u97 u98 u99 u100 u101 u102 u103 u104 u105 u106 u107 u108 u109 u110 u111 u112 u113 u114 u115 u116 u117 u118 u119 u120 u121 u122 u123 u124 u125 u126 u127 u128 u129 u130 u131 u132 u133 u134 u135 u136 u137 u138 u139 u140 u141 u142 u143 u144 u145 u146 u147 u148 u149 u150 u151 u152 u153 u154 u155 u156 u157 u158 u159 u160 u161 u162 u163 u164 u165 u166 u167 u168 u169 u170 u171 u172 u173 u174 u175 u176 u177 u178 u179 u180 u181 u182 u183 u184 u185 u186 u187 u188 u189 hcut
         exact h_.o
end Go.Proofs.Ytpadgacbkkjjfaa.GFnExactEndNew
