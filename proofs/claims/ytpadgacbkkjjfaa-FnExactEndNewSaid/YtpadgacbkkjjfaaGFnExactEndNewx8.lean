/- What the Go functions that FnExactEndNew reaches come to, walked step by step; there is no condition beyond those each statement names. -/
import Derived.Test.YtpadgacbkkjjfaaGFnExactEndNewx7
namespace Go.Proofs.Ytpadgacbkkjjfaa.GFnExactEndNew
open Go.RowKit Go.Proofs.YtpadgacbkkjjfaaVExactEndNew.PrintWords Go.Proofs.YtpadgacbkkjjfaaVExactEndNew.PrintLast Go.Proofs.YtpadgacbkkjjfaaVExactEndNew.PrintMore
attribute [local go_sem] max2_int min2_int max_two min_two max_three min_three max_four min_four   -- for this text's walks alone
set_option linter.unusedVariables false
set_option linter.unusedSimpArgs false
section
variable {P : Program} {ops : Array Oper} {rest : List Oper} {o : Oper} {a : Act} {Q : Exit → Act → World → Prop} {W : World}
/-- The gate takes the guard off (hw: 'by rfl', 'by kernel_rfl': the guard's slot holds what is wanted). -/
theorem gate_guard (hw : Region.wanted o (yielded ops a.tmps) = true) (h : wpList P ops Q ({ o with guard := none } :: rest) a W) : wpList P ops Q (o :: rest) a W := by
  have h1 : Region.wanted { o with guard := none } (yielded ops a.tmps) = true := rfl
  unfold wpList at h ⊢
  rw [if_pos h1] at h
  rw [if_pos hw]
  exact h
/-- Its guard doesn't want it: it isn't carried out. -/
theorem skip_guard (hw : Region.wanted o (yielded ops a.tmps) = false) (h : wpList P ops Q rest (a.put o.dst undef) W) : wpList P ops Q (o :: rest) a W := by
  unfold wpList
  rw [hw]
  exact h
end
/-- The operation has no guard. -/
theorem gate_none {P : Program} {ops : Array Oper} {rest : List Oper} {o : Oper} {a : Act} {Q : Exit → Act → World → Prop} {W : World} (_h : o.guard = none) (h : wpList P ops Q (o :: rest) a W) : wpList P ops Q (o :: rest) a W := h
set_option maxHeartbeats 8000000 in
set_option maxRecDepth 100000 in
def spec_EndOk.p4 (k : Nat) (a0_0 : Int) (a0_1 : Int) (a0_2 : Int) (a0_3 : Int) (a0_4 : Int) (a0_5 : Int) (a0_6 : Int) (A0_7 : Option Addr) (c0_7 : Nat) (l0_7 : List Int) (a0_8 : Int) (a0_9 : Int) (A0_10 : Option Addr) (c0_10 : Nat) (l0_10 : List (S69)) (a0_11 : Int) (a0_12 : Int) (A0_13 : Option Addr) (c0_13 : Nat) (l0_13 : List Int) (A0_14 : Option Addr) (c0_14 : Nat) (l0_14 : List (S59)) (a0_15 : Bool) (a0_16 : Bool) (a0_17 : Bool) (a0_18 : Int) (a0_19 : Int) (a0_20 : Int) (a0_21 : Int) (a0_22 : Int) (a0_23 : Int) (r : Bool) (w : World) : Cut_ ((spec_EndOk.p3 k a0_0 a0_1 a0_2 a0_3 a0_4 a0_5 a0_6 A0_7 c0_7 l0_7 a0_8 a0_9 A0_10 c0_10 l0_10 a0_11 a0_12 A0_13 c0_13 l0_13 A0_14 c0_14 l0_14 a0_15 a0_16 a0_17 a0_18 a0_19 a0_20 a0_21 a0_22 a0_23 r w).P) := by
  apply Cut_.mk
  · intro h_
    intro hu32 hu25 hu28 hu30 HR0_7 HC0_7 HR0_10 HC0_10 HR0_13 HC0_13 HR0_14 HC0_14 iq0_0 gb121 w3 iq1_0 iq1_1 GW121 GE121 iq1_2 iq2_0 iq2_1 kj1 HJ1 iq2_2 iq3_0 iq3_1 kj21 HJ21 iq3_2 BK121 HB kj62 HJ62 HC80 iq3_3 iq3_4 iq3_5 iq3_6 wc u4_3 u5_3 u6_3 u7_3 u8_3 u9_3 u10_3 u11_3 u12_3 u13_3 u14_3 u15_3 u16_3 u17_3 u18_3 u19_3 u20_3 u21_3 u22_3 u23_3 u24_3 u25_3 u26_3 u27_3 u28_3 u29_3 u30_3 u31_3 u32_3 u33_3 u34_3 u35_3 u36_3 u37_3 u38_3 u39_3 u40_3 u41_3 u42_3 u43_3 u44_3 u45_3 u46_3 u47_3 u48_3 u49_3 u50_3 u51_3 u52_3 u53_3 u54_3 u55_3 u56_3 u57_3 u58_3 u59_3 u60_3 u61_3 u62_3 u63_3 u64_3 u65_3 u66_3 u67_3 u68_3 u69_3 u70_3 u71_3 u72_3 u73_3 u74_3 u75_3 u76_3 u77_3 u78_3 u79_3 u80_3 u81_3 u82_3 u83_3 u84_3 u85_3 u86_3 u87_3 u88_3 u89_3 u90_3 u91_3 u92_3 u93_3 u94_3 u95_3 u96_3 u97_3 u98_3 u99_3 u100_3 u101_3 u102_3 u103_3 u104_3 u105_3 u106_3 u107_3 u108_3 u109_3 u110_3 u111_3 u112_3 u113_3 u114_3 u115_3 u116_3 u117_3 u118_3 u119_3 u120_3 u121_3 u122_3 u123_3 u124_3 u125_3 u126_3 u127_3 u128_3 u129_3 u130_3 u131_3 u132_3 u133_3 u134_3 u135_3 u136_3 u137_3 u138_3 u139_3 u140_3 u141_3 u142_3 u143_3 u144_3 u145_3 u146_3 u147_3 u148_3 u149_3 u150_3 u151_3 u152_3 u153_3 u154_3 u155_3 u156_3 u157_3 u158_3 u159_3 u160_3 u161_3 u162_3 u163_3 u164_3 u165_3 u166_3 u167_3 u168_3 u169_3 u170_3 u171_3 u172_3 u173_3 u174_3 u175_3 u176_3 u177_3 u178_3 u179_3 u180_3 u181_3 u182_3 u183_3 u184_3 u185_3 u186_3 u187_3 u188_3 u189_3 hcut
    clear HC80
    try clear c79
    obtain ⟨kq, x127_79, rfl, HA, HJ79, BK121, HB⟩ := hcut
    cases kq with
    | zero => exact absurd HA.out (by simp [spec_EndOk.j3])
    | succ kj79 =>
      have H := HA.out
      clear HA
      simp only [spec_EndOk.j3] at H
      by_cases c88 : x127_79 = true
      · subst c88
        rw [if_pos rfl] at H
        obtain rfl := Option.some.inj H
        go_wp2
        repeat (go_quiet (fail); try go_wp2)
        go_ret
        exact ⟨z_4, z_24⟩
      · replace c88 := Bool.eq_false_iff.mpr c88
        subst c88
        rw [if_neg (show ¬ (false = true) by decide)] at H
        have HC89 := Aside0.mk H
        clear H
        go_upto_region 9 with (fail)
        repeat (go_quiet (fail); go_upto_region 9 with (fail))
        go_cut [154] (fun v154 wc => ∃ (kq : Nat) (x154_88 : Bool), v154 = .bool x154_88 ∧ Aside0 (spec_EndOk.j4 kq x154_88 a0_0 a0_1 a0_2 a0_3 a0_4 a0_5 a0_6 l0_7 a0_8 a0_9 l0_10 a0_11 a0_12 l0_13 l0_14 a0_15 a0_16 a0_17 a0_18 a0_19 a0_20 a0_21 a0_22 a0_23 = some r) ∧ Aside0 (kq ≤ kj79) ∧ Aside0 (wc.heap[gb121]? = some (.cells #[.int .i64 a0_0, .int .i64 a0_1, .int .i64 a0_2, .int .i64 a0_3, .int .i64 a0_4, .int .i64 a0_5, .int .i64 a0_6, (.slice A0_7 l0_7.length c0_7), .int .i64 a0_8, .int .i64 a0_9, (.slice A0_10 l0_10.length c0_10), .int .i64 a0_11, .int .i64 a0_12, (.slice A0_13 l0_13.length c0_13), (.slice A0_14 l0_14.length c0_14), .bool a0_15, .bool a0_16, .bool a0_17, .int .i64 a0_18, .int .i64 a0_19, .int .i64 a0_20, .int .i64 a0_21, .int .i64 a0_22, .int .i64 a0_23] 32 (0, 0))) ∧ Aside0 (Below w.heap.size w wc))
        case first =>
          have H := HC89.out
          clear HC89
          obtain ⟨hcz101_0, hcz101_1, hcz101_2, hcz101_3, hcz101_4, hcz101_5, hcz101_6, hcz101_7, hcz101_8, hcz101_9, hcz101_10, hcz101_11, hcz101_12, hcz101_13, hcz101_14, hcz101_15, hcz101_16, hcz101_17, hcz101_18, hcz101_19, hcz101_20, hcz101_21, hcz101_22, hcz101_23, hfz101_0, hfz101_1, hfz101_2, hfz101_3, hfz101_4, hfz101_5, hfz101_6, hfz101_7, hfz101_8, hfz101_9, hfz101_10, hfz101_11, hfz101_12, hfz101_13, hfz101_14, hfz101_15, hfz101_16, hfz101_17, hfz101_18, hfz101_19, hfz101_20, hfz101_21, hfz101_22, hfz101_23⟩ := cells_24 BK121.out
          by_cases c90 : ((decide (a0_4 > 0)) != (decide (a0_0 ≥ 2))) = true
          rw [if_pos c90] at H
          have c90b0 : ((decide (a0_4 > 0)) != (decide (a0_0 ≥ 2))) = true := c90
          (try (have c90b1 : decide ((decide (a0_4 > 0)) = (decide (a0_0 ≥ 2))) = false := by simpa using c90))
          (try (have c90b2 : ((decide (a0_4 > 0)) == (decide (a0_0 ≥ 2))) = false := by simpa using c90))
          (try (have c90b3 : ¬ ((decide (a0_4 > 0)) = (decide (a0_0 ≥ 2))) := by simpa using c90))
          clear c90
          (first | rw [c90b0] | (simp only [i64_w, i32_w]; rw [c90b0]) | skip)
          have H' := Aside0.mk H
          clear H
          rotate_left
          rw [if_neg c90] at H
          have c90b0 : ((decide (a0_4 > 0)) != (decide (a0_0 ≥ 2))) = false := by simpa using c90
          (try (have c90b1 : decide ((decide (a0_4 > 0)) = (decide (a0_0 ≥ 2))) = true := by simpa using c90))
          (try (have c90b2 : ((decide (a0_4 > 0)) == (decide (a0_0 ≥ 2))) = true := by simpa using c90))
          clear c90
          (first | rw [c90b0] | (simp only [i64_w, i32_w]; rw [c90b0]) | skip)
          replace H := Option.bind_eq_some_iff.mp H
          obtain ⟨t133, A920, H⟩ := H
          have A92 := Aside0.mk A920
          clear A920
          by_cases c93 : t133 = true
          subst c93
          rw [if_pos rfl] at H
          have H' := Aside0.mk H
          clear H
          rotate_left
          replace c93 := Bool.eq_false_iff.mpr c93
          subst c93
          rw [if_neg (show ¬ (false = true) by decide)] at H
          by_cases c96 : a0_19 > 0
          rw [if_pos c96] at H
          have c96b0 : decide (0 < a0_19) = true := decide_eq_true c96
          clear c96
          have H' := Aside0.mk H
          clear H
          rotate_left
          rw [if_neg c96] at H
          have c96b0 : decide (0 < a0_19) = false := decide_eq_false c96
          clear c96
          by_cases c100 : a0_20 > 0
          rw [if_pos c100] at H
          have c100b0 : decide (0 < a0_20) = true := decide_eq_true c100
          clear c100
          have H' := Aside0.mk H
          clear H
          rotate_left
          rw [if_neg c100] at H
          have c100b0 : decide (0 < a0_20) = false := decide_eq_false c100
          clear c100
          have H' := Aside0.mk H
          clear H
          rotate_left
          all_goals (
            first
             | (fail_if_success (have q_ := A92)
                try go_wp2_with (first | (go_at_call 42; (with_reducible refine (spec_l15Open.calls kj79 a0_0 a0_1 a0_2 a0_3 a0_4 a0_5 a0_6 _ _ l0_7 a0_8 a0_9 _ _ l0_10 a0_11 a0_12 _ _ l0_13 _ _ l0_14 a0_15 a0_16 a0_17 a0_18 a0_19 a0_20 a0_21 a0_22 a0_23 _ _ ?side1 ?side2 ?side3 ?side4 ?side5 ?side6 ?side7 ?side8 A92.out).mono ?_); (case side1 => exact z_25); (case side2 => exact HC0_7.out); (case side3 => exact z_26); (case side4 => exact HC0_10.out); (case side5 => exact z_27); (case side6 => exact HC0_13.out); (case side7 => exact z_28); (case side8 => exact HC0_14.out); rintro e w102 ⟨rfl, hb⟩; have n0_ := Aside0.mk (blk_below (g := gb121) (o := .cells #[.int .i64 a0_0, .int .i64 a0_1, .int .i64 a0_2, .int .i64 a0_3, .int .i64 a0_4, .int .i64 a0_5, .int .i64 a0_6, .slice A0_7 l0_7.length c0_7, .int .i64 a0_8, .int .i64 a0_9, .slice A0_10 l0_10.length c0_10, .int .i64 a0_11, .int .i64 a0_12, .slice A0_13 l0_13.length c0_13, .slice A0_14 l0_14.length c0_14, .bool a0_15, .bool a0_16, .bool a0_17, .int .i64 a0_18, .int .i64 a0_19, .int .i64 a0_20, .int .i64 a0_21, .int .i64 a0_22, .int .i64 a0_23] 32 (0, 0)) (z_23) hb); have n1_ := Aside0.mk (below_step (z_24) hb); clear BK121; clear HB; have BK121 := n0_; have HB := n1_; clear n0_ n1_; (try clear hb); (try clear hb2); (try clear hk); (try clear hi); obtain ⟨hcz103_0, hcz103_1, hcz103_2, hcz103_3, hcz103_4, hcz103_5, hcz103_6, hcz103_7, hcz103_8, hcz103_9, hcz103_10, hcz103_11, hcz103_12, hcz103_13, hcz103_14, hcz103_15, hcz103_16, hcz103_17, hcz103_18, hcz103_19, hcz103_20, hcz103_21, hcz103_22, hcz103_23, hfz103_0, hfz103_1, hfz103_2, hfz103_3, hfz103_4, hfz103_5, hfz103_6, hfz103_7, hfz103_8, hfz103_9, hfz103_10, hfz103_11, hfz103_12, hfz103_13, hfz103_14, hfz103_15, hfz103_16, hfz103_17, hfz103_18, hfz103_19, hfz103_20, hfz103_21, hfz103_22, hfz103_23⟩ := cells_24 BK121.out))
                repeat (go_quiet (first | (go_at_call 42; (with_reducible refine (spec_l15Open.calls kj79 a0_0 a0_1 a0_2 a0_3 a0_4 a0_5 a0_6 _ _ l0_7 a0_8 a0_9 _ _ l0_10 a0_11 a0_12 _ _ l0_13 _ _ l0_14 a0_15 a0_16 a0_17 a0_18 a0_19 a0_20 a0_21 a0_22 a0_23 _ _ ?side1 ?side2 ?side3 ?side4 ?side5 ?side6 ?side7 ?side8 A92.out).mono ?_); (case side1 => exact z_25); (case side2 => exact HC0_7.out); (case side3 => exact z_26); (case side4 => exact HC0_10.out); (case side5 => exact z_27); (case side6 => exact HC0_13.out); (case side7 => exact z_28); (case side8 => exact HC0_14.out); rintro e w102 ⟨rfl, hb⟩; have n0_ := Aside0.mk (blk_below (g := gb121) (o := .cells #[.int .i64 a0_0, .int .i64 a0_1, .int .i64 a0_2, .int .i64 a0_3, .int .i64 a0_4, .int .i64 a0_5, .int .i64 a0_6, .slice A0_7 l0_7.length c0_7, .int .i64 a0_8, .int .i64 a0_9, .slice A0_10 l0_10.length c0_10, .int .i64 a0_11, .int .i64 a0_12, .slice A0_13 l0_13.length c0_13, .slice A0_14 l0_14.length c0_14, .bool a0_15, .bool a0_16, .bool a0_17, .int .i64 a0_18, .int .i64 a0_19, .int .i64 a0_20, .int .i64 a0_21, .int .i64 a0_22, .int .i64 a0_23] 32 (0, 0)) (z_23) hb); have n1_ := Aside0.mk (below_step (z_24) hb); clear BK121; clear HB; have BK121 := n0_; have HB := n1_; clear n0_ n1_; (try clear hb); (try clear hb2); (try clear hk); (try clear hi); obtain ⟨hcz103_0, hcz103_1, hcz103_2, hcz103_3, hcz103_4, hcz103_5, hcz103_6, hcz103_7, hcz103_8, hcz103_9, hcz103_10, hcz103_11, hcz103_12, hcz103_13, hcz103_14, hcz103_15, hcz103_16, hcz103_17, hcz103_18, hcz103_19, hcz103_20, hcz103_21, hcz103_22, hcz103_23, hfz103_0, hfz103_1, hfz103_2, hfz103_3, hfz103_4, hfz103_5, hfz103_6, hfz103_7, hfz103_8, hfz103_9, hfz103_10, hfz103_11, hfz103_12, hfz103_13, hfz103_14, hfz103_15, hfz103_16, hfz103_17, hfz103_18, hfz103_19, hfz103_20, hfz103_21, hfz103_22, hfz103_23⟩ := cells_24 BK121.out)); try go_wp2_with (first | (go_at_call 42; (with_reducible refine (spec_l15Open.calls kj79 a0_0 a0_1 a0_2 a0_3 a0_4 a0_5 a0_6 _ _ l0_7 a0_8 a0_9 _ _ l0_10 a0_11 a0_12 _ _ l0_13 _ _ l0_14 a0_15 a0_16 a0_17 a0_18 a0_19 a0_20 a0_21 a0_22 a0_23 _ _ ?side1 ?side2 ?side3 ?side4 ?side5 ?side6 ?side7 ?side8 A92.out).mono ?_); (case side1 => exact z_25); (case side2 => exact HC0_7.out); (case side3 => exact z_26); (case side4 => exact HC0_10.out); (case side5 => exact z_27); (case side6 => exact HC0_13.out); (case side7 => exact z_28); (case side8 => exact HC0_14.out); rintro e w102 ⟨rfl, hb⟩; have n0_ := Aside0.mk (blk_below (g := gb121) (o := .cells #[.int .i64 a0_0, .int .i64 a0_1, .int .i64 a0_2, .int .i64 a0_3, .int .i64 a0_4, .int .i64 a0_5, .int .i64 a0_6, .slice A0_7 l0_7.length c0_7, .int .i64 a0_8, .int .i64 a0_9, .slice A0_10 l0_10.length c0_10, .int .i64 a0_11, .int .i64 a0_12, .slice A0_13 l0_13.length c0_13, .slice A0_14 l0_14.length c0_14, .bool a0_15, .bool a0_16, .bool a0_17, .int .i64 a0_18, .int .i64 a0_19, .int .i64 a0_20, .int .i64 a0_21, .int .i64 a0_22, .int .i64 a0_23] 32 (0, 0)) (z_23) hb); have n1_ := Aside0.mk (below_step (z_24) hb); clear BK121; clear HB; have BK121 := n0_; have HB := n1_; clear n0_ n1_; (try clear hb); (try clear hb2); (try clear hk); (try clear hi); obtain ⟨hcz103_0, hcz103_1, hcz103_2, hcz103_3, hcz103_4, hcz103_5, hcz103_6, hcz103_7, hcz103_8, hcz103_9, hcz103_10, hcz103_11, hcz103_12, hcz103_13, hcz103_14, hcz103_15, hcz103_16, hcz103_17, hcz103_18, hcz103_19, hcz103_20, hcz103_21, hcz103_22, hcz103_23, hfz103_0, hfz103_1, hfz103_2, hfz103_3, hfz103_4, hfz103_5, hfz103_6, hfz103_7, hfz103_8, hfz103_9, hfz103_10, hfz103_11, hfz103_12, hfz103_13, hfz103_14, hfz103_15, hfz103_16, hfz103_17, hfz103_18, hfz103_19, hfz103_20, hfz103_21, hfz103_22, hfz103_23⟩ := cells_24 BK121.out)))
                go_meet
                case rel => first | (exact ⟨_, (true), (z_5), H', ⟨z_31⟩, ⟨z_23⟩, ⟨z_24⟩⟩) | (exact ⟨_, (false), (z_5), H', ⟨z_31⟩, ⟨z_23⟩, ⟨z_24⟩⟩) | (exact ⟨_, ((a0_0 != 5)), (z_5), H', ⟨z_31⟩, ⟨z_23⟩, ⟨z_24⟩⟩))
             | (go_wp2_with (first | ((with_reducible refine gate_dst (N := 136) rfl ?_); refine gate_guard (by show (some _ == some _) = true; first | rfl | (simp only [c90b0]; rfl) | (simp [*]; done)) ?_; refine wpList_load_row rfl 32 _ rfl _ rfl 32 _ (0, 0) _ BK121.out hu32 rfl (by kernel_rfl) ?_) | ((with_reducible refine gate_callee (f := 42) rfl ?_); refine gate_guard (by show (some _ == some _) = true; first | rfl | (simp only [c90b0]; rfl) | (simp [*]; done)) ?_; refine goesL_ _ rfl rfl Try.func42 (by kernel_rfl) rfl #[.agg #[.int .i64 a0_0, .int .i64 a0_1, .int .i64 a0_2, .int .i64 a0_3, .int .i64 a0_4, .int .i64 a0_5, .int .i64 a0_6, .slice A0_7 l0_7.length c0_7, .int .i64 a0_8, .int .i64 a0_9, .slice A0_10 l0_10.length c0_10, .int .i64 a0_11, .int .i64 a0_12, .slice A0_13 l0_13.length c0_13, .slice A0_14 l0_14.length c0_14, .bool a0_15, .bool a0_16, .bool a0_17, .int .i64 a0_18, .int .i64 a0_19, .int .i64 a0_20, .int .i64 a0_21, .int .i64 a0_22, .int .i64 a0_23]] rfl (by kernel_rfl) ?_; (with_reducible refine (spec_l15Open.calls kj79 a0_0 a0_1 a0_2 a0_3 a0_4 a0_5 a0_6 _ _ l0_7 a0_8 a0_9 _ _ l0_10 a0_11 a0_12 _ _ l0_13 _ _ l0_14 a0_15 a0_16 a0_17 a0_18 a0_19 a0_20 a0_21 a0_22 a0_23 _ _ ?side1 ?side2 ?side3 ?side4 ?side5 ?side6 ?side7 ?side8 A92.out).mono ?_); (case side1 => exact z_25); (case side2 => exact HC0_7.out); (case side3 => exact z_26); (case side4 => exact HC0_10.out); (case side5 => exact z_27); (case side6 => exact HC0_13.out); (case side7 => exact z_28); (case side8 => exact HC0_14.out); rintro e w102 ⟨rfl, hb⟩; refine ⟨_, rfl, ?_⟩; have n0_ := Aside0.mk (blk_below (g := gb121) (o := .cells #[.int .i64 a0_0, .int .i64 a0_1, .int .i64 a0_2, .int .i64 a0_3, .int .i64 a0_4, .int .i64 a0_5, .int .i64 a0_6, .slice A0_7 l0_7.length c0_7, .int .i64 a0_8, .int .i64 a0_9, .slice A0_10 l0_10.length c0_10, .int .i64 a0_11, .int .i64 a0_12, .slice A0_13 l0_13.length c0_13, .slice A0_14 l0_14.length c0_14, .bool a0_15, .bool a0_16, .bool a0_17, .int .i64 a0_18, .int .i64 a0_19, .int .i64 a0_20, .int .i64 a0_21, .int .i64 a0_22, .int .i64 a0_23] 32 (0, 0)) (z_23) hb); have n1_ := Aside0.mk (below_step (z_24) hb); clear BK121; clear HB; have BK121 := n0_; have HB := n1_; clear n0_ n1_; (try clear hb); (try clear hb2); (try clear hk); (try clear hi); obtain ⟨hcz103_0, hcz103_1, hcz103_2, hcz103_3, hcz103_4, hcz103_5, hcz103_6, hcz103_7, hcz103_8, hcz103_9, hcz103_10, hcz103_11, hcz103_12, hcz103_13, hcz103_14, hcz103_15, hcz103_16, hcz103_17, hcz103_18, hcz103_19, hcz103_20, hcz103_21, hcz103_22, hcz103_23, hfz103_0, hfz103_1, hfz103_2, hfz103_3, hfz103_4, hfz103_5, hfz103_6, hfz103_7, hfz103_8, hfz103_9, hfz103_10, hfz103_11, hfz103_12, hfz103_13, hfz103_14, hfz103_15, hfz103_16, hfz103_17, hfz103_18, hfz103_19, hfz103_20, hfz103_21, hfz103_22, hfz103_23⟩ := cells_24 BK121.out))
                go_meet
                case rel => first | (exact ⟨_, (true), (z_5), H', ⟨z_31⟩, ⟨z_23⟩, ⟨z_24⟩⟩) | (exact ⟨_, (false), (z_5), H', ⟨z_31⟩, ⟨z_23⟩, ⟨z_24⟩⟩) | (exact ⟨_, ((a0_0 != 5)), (z_5), H', ⟨z_31⟩, ⟨z_23⟩, ⟨z_24⟩⟩)))
        case rest =>
         rename_i iq4_0 iq4_1 iq4_2 iq4_3 iq4_4 iq4_5 iq4_6
         revert hu32 hu25 hu28 hu30 HR0_7 HC0_7 HR0_10 HC0_10 HR0_13 HC0_13 HR0_14 HC0_14 iq0_0 gb121 w3 iq1_0 iq1_1 GW121 GE121 iq1_2 iq2_0 iq2_1 kj1 HJ1 iq2_2 iq3_0 iq3_1 kj21 HJ21 iq3_2 iq4_0 iq4_1 kj62 HJ62 iq4_2 BK121 HB kj79 HJ79 HC89 iq4_3 iq4_4 iq4_5 iq4_6 wc u4 u5 u6 u7 u8 u9 u10 u11 u12 u13 u14 u15 u16 u17 u18 u19 u20 u21 u22 u23 u24 u25 u26 u27 u28 u29 u30 u31 u32 u33 u34 u35 u36 u37 u38 u39 u40 u41 u42 u43 u44 u45 u46 u47 u48 u49 u50 u51 u52 u53 u54 u55 u56 u57 u58 u59 u60 u61 u62 u63 u64 u65 u66 u67 u68 u69 u70 u71 u72 u73 u74 u75 u76 u77 u78 u79 u80 u81 u82 u83 u84 u85 u86 u87 u88 u89 u90 u91 u92 u93 u94 u95 u96 u97 u98 u99 u100 u101 u102 u103 u104 u105 u106 u107 u108 u109 u110 u111 u112 u113 u114 u115 u116 u117 u118 u119 u120 u121 u122 u123 u124 u125 u126 u127 u128 u129 u130 u131 u132 u133 u134 u135 u136 u137 u138 u139 u140 u141 u142 u143 u144 u145 u146 u147 u148 u149 u150 u151 u152 u153 u154 u155 u156 u157 u158 u159 u160 u161 u162 u163 u164 u165 u166 u167 u168 u169 u170 u171 u172 u173 u174 u175 u176 u177 u178 u179 u180 u181 u182 u183 u184 u185 u186 u187 u188 u189 hcut
         exact h_.o
end Go.Proofs.Ytpadgacbkkjjfaa.GFnExactEndNew
