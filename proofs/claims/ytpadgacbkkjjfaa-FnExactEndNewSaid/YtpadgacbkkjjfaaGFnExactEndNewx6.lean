/- What the Go functions that FnExactEndNew reaches come to, walked step by step; there is no condition beyond those each statement names. -/
import Derived.Test.YtpadgacbkkjjfaaGFnExactEndNewx5
namespace Go.Proofs.Ytpadgacbkkjjfaa.GFnExactEndNew
open Go.RowKit Go.Proofs.YtpadgacbkkjjfaaVExactEndNew.PrintWords Go.Proofs.YtpadgacbkkjjfaaVExactEndNew.PrintLast Go.Proofs.YtpadgacbkkjjfaaVExactEndNew.PrintMore
attribute [local go_sem] max2_int min2_int max_two min_two max_three min_three max_four min_four   -- for this text's walks alone
set_option linter.unusedVariables false
set_option linter.unusedSimpArgs false
set_option maxHeartbeats 8000000 in
set_option maxRecDepth 100000 in
def spec_EndOk.p2 (k : Nat) (a0_0 : Int) (a0_1 : Int) (a0_2 : Int) (a0_3 : Int) (a0_4 : Int) (a0_5 : Int) (a0_6 : Int) (A0_7 : Option Addr) (c0_7 : Nat) (l0_7 : List Int) (a0_8 : Int) (a0_9 : Int) (A0_10 : Option Addr) (c0_10 : Nat) (l0_10 : List (S69)) (a0_11 : Int) (a0_12 : Int) (A0_13 : Option Addr) (c0_13 : Nat) (l0_13 : List Int) (A0_14 : Option Addr) (c0_14 : Nat) (l0_14 : List (S59)) (a0_15 : Bool) (a0_16 : Bool) (a0_17 : Bool) (a0_18 : Int) (a0_19 : Int) (a0_20 : Int) (a0_21 : Int) (a0_22 : Int) (a0_23 : Int) (r : Bool) (w : World) : Cut_ ((spec_EndOk.p1 k a0_0 a0_1 a0_2 a0_3 a0_4 a0_5 a0_6 A0_7 c0_7 l0_7 a0_8 a0_9 A0_10 c0_10 l0_10 a0_11 a0_12 A0_13 c0_13 l0_13 A0_14 c0_14 l0_14 a0_15 a0_16 a0_17 a0_18 a0_19 a0_20 a0_21 a0_22 a0_23 r w).P) := by
  apply Cut_.mk
  · intro h_
    intro hu32 hu25 hu28 hu30 HR0_7 HC0_7 HR0_10 HC0_10 HR0_13 HC0_13 HR0_14 HC0_14 iq0_0 gb121 w3 iq1_0 iq1_1 GW121 GE121 iq1_2 BK121 HB kj1 HJ1 HC22 iq1_3 iq1_4 iq1_5 iq1_6 wc u4_1 u5_1 u6_1 u7_1 u8_1 u9_1 u10_1 u11_1 u12_1 u13_1 u14_1 u15_1 u16_1 u17_1 u18_1 u19_1 u20_1 u21_1 u22_1 u23_1 u24_1 u25_1 u26_1 u27_1 u28_1 u29_1 u30_1 u31_1 u32_1 u33_1 u34_1 u35_1 u36_1 u37_1 u38_1 u39_1 u40_1 u41_1 u42_1 u43_1 u44_1 u45_1 u46_1 u47_1 u48_1 u49_1 u50_1 u51_1 u52_1 u53_1 u54_1 u55_1 u56_1 u57_1 u58_1 u59_1 u60_1 u61_1 u62_1 u63_1 u64_1 u65_1 u66_1 u67_1 u68_1 u69_1 u70_1 u71_1 u72_1 u73_1 u74_1 u75_1 u76_1 u77_1 u78_1 u79_1 u80_1 u81_1 u82_1 u83_1 u84_1 u85_1 u86_1 u87_1 u88_1 u89_1 u90_1 u91_1 u92_1 u93_1 u94_1 u95_1 u96_1 u97_1 u98_1 u99_1 u100_1 u101_1 u102_1 u103_1 u104_1 u105_1 u106_1 u107_1 u108_1 u109_1 u110_1 u111_1 u112_1 u113_1 u114_1 u115_1 u116_1 u117_1 u118_1 u119_1 u120_1 u121_1 u122_1 u123_1 u124_1 u125_1 u126_1 u127_1 u128_1 u129_1 u130_1 u131_1 u132_1 u133_1 u134_1 u135_1 u136_1 u137_1 u138_1 u139_1 u140_1 u141_1 u142_1 u143_1 u144_1 u145_1 u146_1 u147_1 u148_1 u149_1 u150_1 u151_1 u152_1 u153_1 u154_1 u155_1 u156_1 u157_1 u158_1 u159_1 u160_1 u161_1 u162_1 u163_1 u164_1 u165_1 u166_1 u167_1 u168_1 u169_1 u170_1 u171_1 u172_1 u173_1 u174_1 u175_1 u176_1 u177_1 u178_1 u179_1 u180_1 u181_1 u182_1 u183_1 u184_1 u185_1 u186_1 u187_1 u188_1 u189_1 hcut
    clear HC22
    try clear c21
    obtain ⟨kq, x73_21, rfl, HA, HJ21, BK121, HB⟩ := hcut
    cases kq with
    | zero => exact absurd HA.out (by simp [spec_EndOk.j1])
    | succ kj21 =>
      have H := HA.out
      clear HA
      simp only [spec_EndOk.j1] at H
      by_cases c62 : x73_21 = true
      · subst c62
        rw [if_pos rfl] at H
        obtain rfl := Option.some.inj H
        go_wp2
        repeat (go_quiet (fail); try go_wp2)
        go_ret
        exact ⟨z_4, z_24⟩
      · replace c62 := Bool.eq_false_iff.mpr c62
        subst c62
        rw [if_neg (show ¬ (false = true) by decide)] at H
        have HC63 := Aside0.mk H
        clear H
        go_upto_region 5 with (fail)
        repeat (go_quiet (fail); go_upto_region 5 with (fail))
        go_cut [104] (fun v104 wc => ∃ (kq : Nat) (x104_62 : Bool), v104 = .bool x104_62 ∧ Aside0 (spec_EndOk.j2 kq x104_62 a0_0 a0_1 a0_2 a0_3 a0_4 a0_5 a0_6 l0_7 a0_8 a0_9 l0_10 a0_11 a0_12 l0_13 l0_14 a0_15 a0_16 a0_17 a0_18 a0_19 a0_20 a0_21 a0_22 a0_23 = some r) ∧ Aside0 (kq ≤ kj21) ∧ Aside0 (wc.heap[gb121]? = some (.cells #[.int .i64 a0_0, .int .i64 a0_1, .int .i64 a0_2, .int .i64 a0_3, .int .i64 a0_4, .int .i64 a0_5, .int .i64 a0_6, (.slice A0_7 l0_7.length c0_7), .int .i64 a0_8, .int .i64 a0_9, (.slice A0_10 l0_10.length c0_10), .int .i64 a0_11, .int .i64 a0_12, (.slice A0_13 l0_13.length c0_13), (.slice A0_14 l0_14.length c0_14), .bool a0_15, .bool a0_16, .bool a0_17, .int .i64 a0_18, .int .i64 a0_19, .int .i64 a0_20, .int .i64 a0_21, .int .i64 a0_22, .int .i64 a0_23] 32 (0, 0))) ∧ Aside0 (Below w.heap.size w wc))
        case first =>
          have H := HC63.out
          clear HC63
          by_cases c64 : a0_17 = true
          subst c64
          rw [if_pos rfl] at H
          by_cases c65 : a0_16 = true
          subst c65
          rw [if_pos rfl] at H
          by_cases c66 : a0_15 = true
          subst c66
          rw [if_pos rfl] at H
          by_cases c67 : a0_8 < (l0_7.length : Int)
          rw [if_pos c67] at H
          have c67b0 : decide (a0_8 < (l0_7.length : Int)) = true := decide_eq_true c67
          clear c67
          (first | rw [c67b0] | (simp only [i64_w, i32_w]; rw [c67b0]) | skip)
          have H' := Aside0.mk H
          clear H
          obtain ⟨hcz68_0, hcz68_1, hcz68_2, hcz68_3, hcz68_4, hcz68_5, hcz68_6, hcz68_7, hcz68_8, hcz68_9, hcz68_10, hcz68_11, hcz68_12, hcz68_13, hcz68_14, hcz68_15, hcz68_16, hcz68_17, hcz68_18, hcz68_19, hcz68_20, hcz68_21, hcz68_22, hcz68_23, hfz68_0, hfz68_1, hfz68_2, hfz68_3, hfz68_4, hfz68_5, hfz68_6, hfz68_7, hfz68_8, hfz68_9, hfz68_10, hfz68_11, hfz68_12, hfz68_13, hfz68_14, hfz68_15, hfz68_16, hfz68_17, hfz68_18, hfz68_19, hfz68_20, hfz68_21, hfz68_22, hfz68_23⟩ := cells_24 BK121.out
          rotate_left
          rw [if_neg c67] at H
          have c67b0 : decide (a0_8 < (l0_7.length : Int)) = false := decide_eq_false c67
          clear c67
          (first | rw [c67b0] | (simp only [i64_w, i32_w]; rw [c67b0]) | skip)
          have H' := Aside0.mk H
          clear H
          obtain ⟨hcz69_0, hcz69_1, hcz69_2, hcz69_3, hcz69_4, hcz69_5, hcz69_6, hcz69_7, hcz69_8, hcz69_9, hcz69_10, hcz69_11, hcz69_12, hcz69_13, hcz69_14, hcz69_15, hcz69_16, hcz69_17, hcz69_18, hcz69_19, hcz69_20, hcz69_21, hcz69_22, hcz69_23, hfz69_0, hfz69_1, hfz69_2, hfz69_3, hfz69_4, hfz69_5, hfz69_6, hfz69_7, hfz69_8, hfz69_9, hfz69_10, hfz69_11, hfz69_12, hfz69_13, hfz69_14, hfz69_15, hfz69_16, hfz69_17, hfz69_18, hfz69_19, hfz69_20, hfz69_21, hfz69_22, hfz69_23⟩ := cells_24 BK121.out
          rotate_left
          replace c66 := Bool.eq_false_iff.mpr c66
          subst c66
          rw [if_neg (show ¬ (false = true) by decide)] at H
          have H' := Aside0.mk H
          clear H
          obtain ⟨hcz70_0, hcz70_1, hcz70_2, hcz70_3, hcz70_4, hcz70_5, hcz70_6, hcz70_7, hcz70_8, hcz70_9, hcz70_10, hcz70_11, hcz70_12, hcz70_13, hcz70_14, hcz70_15, hcz70_16, hcz70_17, hcz70_18, hcz70_19, hcz70_20, hcz70_21, hcz70_22, hcz70_23, hfz70_0, hfz70_1, hfz70_2, hfz70_3, hfz70_4, hfz70_5, hfz70_6, hfz70_7, hfz70_8, hfz70_9, hfz70_10, hfz70_11, hfz70_12, hfz70_13, hfz70_14, hfz70_15, hfz70_16, hfz70_17, hfz70_18, hfz70_19, hfz70_20, hfz70_21, hfz70_22, hfz70_23⟩ := cells_24 BK121.out
          rotate_left
          replace c65 := Bool.eq_false_iff.mpr c65
          subst c65
          rw [if_neg (show ¬ (false = true) by decide)] at H
          have H' := Aside0.mk H
          clear H
          obtain ⟨hcz71_0, hcz71_1, hcz71_2, hcz71_3, hcz71_4, hcz71_5, hcz71_6, hcz71_7, hcz71_8, hcz71_9, hcz71_10, hcz71_11, hcz71_12, hcz71_13, hcz71_14, hcz71_15, hcz71_16, hcz71_17, hcz71_18, hcz71_19, hcz71_20, hcz71_21, hcz71_22, hcz71_23, hfz71_0, hfz71_1, hfz71_2, hfz71_3, hfz71_4, hfz71_5, hfz71_6, hfz71_7, hfz71_8, hfz71_9, hfz71_10, hfz71_11, hfz71_12, hfz71_13, hfz71_14, hfz71_15, hfz71_16, hfz71_17, hfz71_18, hfz71_19, hfz71_20, hfz71_21, hfz71_22, hfz71_23⟩ := cells_24 BK121.out
          rotate_left
          replace c64 := Bool.eq_false_iff.mpr c64
          subst c64
          rw [if_neg (show ¬ (false = true) by decide)] at H
          by_cases c72 : a0_16 = true
          subst c72
          rw [if_pos rfl] at H
          by_cases c73 : a0_15 = true
          subst c73
          rw [if_pos rfl] at H
          by_cases c74 : a0_8 < (l0_7.length : Int)
          rw [if_pos c74] at H
          have c74b0 : decide (a0_8 < (l0_7.length : Int)) = true := decide_eq_true c74
          clear c74
          have H' := Aside0.mk H
          clear H
          obtain ⟨hcz75_0, hcz75_1, hcz75_2, hcz75_3, hcz75_4, hcz75_5, hcz75_6, hcz75_7, hcz75_8, hcz75_9, hcz75_10, hcz75_11, hcz75_12, hcz75_13, hcz75_14, hcz75_15, hcz75_16, hcz75_17, hcz75_18, hcz75_19, hcz75_20, hcz75_21, hcz75_22, hcz75_23, hfz75_0, hfz75_1, hfz75_2, hfz75_3, hfz75_4, hfz75_5, hfz75_6, hfz75_7, hfz75_8, hfz75_9, hfz75_10, hfz75_11, hfz75_12, hfz75_13, hfz75_14, hfz75_15, hfz75_16, hfz75_17, hfz75_18, hfz75_19, hfz75_20, hfz75_21, hfz75_22, hfz75_23⟩ := cells_24 BK121.out
          rotate_left
          rw [if_neg c74] at H
          have c74b0 : decide (a0_8 < (l0_7.length : Int)) = false := decide_eq_false c74
          clear c74
          have H' := Aside0.mk H
          clear H
          obtain ⟨hcz76_0, hcz76_1, hcz76_2, hcz76_3, hcz76_4, hcz76_5, hcz76_6, hcz76_7, hcz76_8, hcz76_9, hcz76_10, hcz76_11, hcz76_12, hcz76_13, hcz76_14, hcz76_15, hcz76_16, hcz76_17, hcz76_18, hcz76_19, hcz76_20, hcz76_21, hcz76_22, hcz76_23, hfz76_0, hfz76_1, hfz76_2, hfz76_3, hfz76_4, hfz76_5, hfz76_6, hfz76_7, hfz76_8, hfz76_9, hfz76_10, hfz76_11, hfz76_12, hfz76_13, hfz76_14, hfz76_15, hfz76_16, hfz76_17, hfz76_18, hfz76_19, hfz76_20, hfz76_21, hfz76_22, hfz76_23⟩ := cells_24 BK121.out
          rotate_left
          replace c73 := Bool.eq_false_iff.mpr c73
          subst c73
          rw [if_neg (show ¬ (false = true) by decide)] at H
          have H' := Aside0.mk H
          clear H
          obtain ⟨hcz77_0, hcz77_1, hcz77_2, hcz77_3, hcz77_4, hcz77_5, hcz77_6, hcz77_7, hcz77_8, hcz77_9, hcz77_10, hcz77_11, hcz77_12, hcz77_13, hcz77_14, hcz77_15, hcz77_16, hcz77_17, hcz77_18, hcz77_19, hcz77_20, hcz77_21, hcz77_22, hcz77_23, hfz77_0, hfz77_1, hfz77_2, hfz77_3, hfz77_4, hfz77_5, hfz77_6, hfz77_7, hfz77_8, hfz77_9, hfz77_10, hfz77_11, hfz77_12, hfz77_13, hfz77_14, hfz77_15, hfz77_16, hfz77_17, hfz77_18, hfz77_19, hfz77_20, hfz77_21, hfz77_22, hfz77_23⟩ := cells_24 BK121.out
          rotate_left
          replace c72 := Bool.eq_false_iff.mpr c72
          subst c72
          rw [if_neg (show ¬ (false = true) by decide)] at H
          have H' := Aside0.mk H
          clear H
          obtain ⟨hcz78_0, hcz78_1, hcz78_2, hcz78_3, hcz78_4, hcz78_5, hcz78_6, hcz78_7, hcz78_8, hcz78_9, hcz78_10, hcz78_11, hcz78_12, hcz78_13, hcz78_14, hcz78_15, hcz78_16, hcz78_17, hcz78_18, hcz78_19, hcz78_20, hcz78_21, hcz78_22, hcz78_23, hfz78_0, hfz78_1, hfz78_2, hfz78_3, hfz78_4, hfz78_5, hfz78_6, hfz78_7, hfz78_8, hfz78_9, hfz78_10, hfz78_11, hfz78_12, hfz78_13, hfz78_14, hfz78_15, hfz78_16, hfz78_17, hfz78_18, hfz78_19, hfz78_20, hfz78_21, hfz78_22, hfz78_23⟩ := cells_24 BK121.out
          rotate_left
          all_goals (
           go_wp2
           repeat (go_quiet (fail); try go_wp2)
           go_meet
           case rel => first | (exact ⟨_, (true), (z_5), H', ⟨z_29⟩, ⟨z_23⟩, ⟨z_24⟩⟩) | (exact ⟨_, (decide (a0_0 < 4)), (z_5), H', ⟨z_29⟩, ⟨z_23⟩, ⟨z_24⟩⟩) | (exact ⟨_, (false), (z_5), H', ⟨z_29⟩, ⟨z_23⟩, ⟨z_24⟩⟩))
        case rest =>
         rename_i iq2_0 iq2_1 iq2_2 iq2_3 iq2_4 iq2_5 iq2_6
         revert hu32 hu25 hu28 hu30 HR0_7 HC0_7 HR0_10 HC0_10 HR0_13 HC0_13 HR0_14 HC0_14 iq0_0 gb121 w3 iq1_0 iq1_1 GW121 GE121 iq1_2 iq2_0 iq2_1 kj1 HJ1 iq2_2 BK121 HB kj21 HJ21 HC63 iq2_3 iq2_4 iq2_5 iq2_6 wc u4 u5 u6 u7 u8 u9 u10 u11 u12 u13 u14 u15 u16 u17 u18 u19 u20 u21 u22 u23 u24 u25 u26 u27 u28 u29 u30 u31 u32 u33 u34 u35 u36 u37 u38 u39 u40 u41 u42 u43 u44 u45 u46 u47 u48 u49 u50 u51 u52 u53 u54 u55 u56 u57 u58 u59 u60 u61 u62 u63 u64 u65 u66 u67 u68 u69 u70 u71 u72 u73 u74 u75 u76 u77 u78 u79 u80 u81 u82 u83 u84 u85 u86 u87 u88 u89 u90 u91 u92 u93 u94 u95 u96 u97 u98 u99 u100 u101 u102 u103 u104 u105 u106 u107 u108 u109 u110 u111 u112 u113 u114 u115 u116 u117 u118 u119 u120 u121 u122 u123 u124 u125 u126 u127 u128 u129 u130 u131 u132 u133 u134 u135 u136 u137 u138 u139 u140 u141 u142 u143 u144 u145 u146 u147 u148 u149 u150 u151 u152 u153 u154 u155 u156 u157 u158 u159 u160 u161 u162 u163 u164 u165 u166 u167 u168 u169 u170 u171 u172 u173 u174 u175 u176 u177 u178 u179 u180 u181 u182 u183 u184 u185 u186 u187 u188 u189 hcut
         exact h_.o
end Go.Proofs.Ytpadgacbkkjjfaa.GFnExactEndNew
