/- What the Go functions that FnExactEndNew reaches come to, walked step by step; there is no condition beyond those each statement names. -/
import Derived.Test.YtpadgacbkkjjfaaGFnExactEndNewx6
namespace Go.Proofs.Ytpadgacbkkjjfaa.GFnExactEndNew
open Go.RowKit Go.Proofs.YtpadgacbkkjjfaaVExactEndNew.PrintWords Go.Proofs.YtpadgacbkkjjfaaVExactEndNew.PrintLast Go.Proofs.YtpadgacbkkjjfaaVExactEndNew.PrintMore
attribute [local go_sem] max2_int min2_int max_two min_two max_three min_three max_four min_four   -- for this text's walks alone
set_option linter.unusedVariables false
set_option linter.unusedSimpArgs false
set_option maxHeartbeats 8000000 in
set_option maxRecDepth 100000 in
def spec_EndOk.p3 (k : Nat) (a0_0 : Int) (a0_1 : Int) (a0_2 : Int) (a0_3 : Int) (a0_4 : Int) (a0_5 : Int) (a0_6 : Int) (A0_7 : Option Addr) (c0_7 : Nat) (l0_7 : List Int) (a0_8 : Int) (a0_9 : Int) (A0_10 : Option Addr) (c0_10 : Nat) (l0_10 : List (S69)) (a0_11 : Int) (a0_12 : Int) (A0_13 : Option Addr) (c0_13 : Nat) (l0_13 : List Int) (A0_14 : Option Addr) (c0_14 : Nat) (l0_14 : List (S59)) (a0_15 : Bool) (a0_16 : Bool) (a0_17 : Bool) (a0_18 : Int) (a0_19 : Int) (a0_20 : Int) (a0_21 : Int) (a0_22 : Int) (a0_23 : Int) (r : Bool) (w : World) : Cut_ ((spec_EndOk.p2 k a0_0 a0_1 a0_2 a0_3 a0_4 a0_5 a0_6 A0_7 c0_7 l0_7 a0_8 a0_9 A0_10 c0_10 l0_10 a0_11 a0_12 A0_13 c0_13 l0_13 A0_14 c0_14 l0_14 a0_15 a0_16 a0_17 a0_18 a0_19 a0_20 a0_21 a0_22 a0_23 r w).P) := by
  apply Cut_.mk
  · intro h_
    intro hu32 hu25 hu28 hu30 HR0_7 HC0_7 HR0_10 HC0_10 HR0_13 HC0_13 HR0_14 HC0_14 iq0_0 gb121 w3 iq1_0 iq1_1 GW121 GE121 iq1_2 iq2_0 iq2_1 kj1 HJ1 iq2_2 BK121 HB kj21 HJ21 HC63 iq2_3 iq2_4 iq2_5 iq2_6 wc u4_2 u5_2 u6_2 u7_2 u8_2 u9_2 u10_2 u11_2 u12_2 u13_2 u14_2 u15_2 u16_2 u17_2 u18_2 u19_2 u20_2 u21_2 u22_2 u23_2 u24_2 u25_2 u26_2 u27_2 u28_2 u29_2 u30_2 u31_2 u32_2 u33_2 u34_2 u35_2 u36_2 u37_2 u38_2 u39_2 u40_2 u41_2 u42_2 u43_2 u44_2 u45_2 u46_2 u47_2 u48_2 u49_2 u50_2 u51_2 u52_2 u53_2 u54_2 u55_2 u56_2 u57_2 u58_2 u59_2 u60_2 u61_2 u62_2 u63_2 u64_2 u65_2 u66_2 u67_2 u68_2 u69_2 u70_2 u71_2 u72_2 u73_2 u74_2 u75_2 u76_2 u77_2 u78_2 u79_2 u80_2 u81_2 u82_2 u83_2 u84_2 u85_2 u86_2 u87_2 u88_2 u89_2 u90_2 u91_2 u92_2 u93_2 u94_2 u95_2 u96_2 u97_2 u98_2 u99_2 u100_2 u101_2 u102_2 u103_2 u104_2 u105_2 u106_2 u107_2 u108_2 u109_2 u110_2 u111_2 u112_2 u113_2 u114_2 u115_2 u116_2 u117_2 u118_2 u119_2 u120_2 u121_2 u122_2 u123_2 u124_2 u125_2 u126_2 u127_2 u128_2 u129_2 u130_2 u131_2 u132_2 u133_2 u134_2 u135_2 u136_2 u137_2 u138_2 u139_2 u140_2 u141_2 u142_2 u143_2 u144_2 u145_2 u146_2 u147_2 u148_2 u149_2 u150_2 u151_2 u152_2 u153_2 u154_2 u155_2 u156_2 u157_2 u158_2 u159_2 u160_2 u161_2 u162_2 u163_2 u164_2 u165_2 u166_2 u167_2 u168_2 u169_2 u170_2 u171_2 u172_2 u173_2 u174_2 u175_2 u176_2 u177_2 u178_2 u179_2 u180_2 u181_2 u182_2 u183_2 u184_2 u185_2 u186_2 u187_2 u188_2 u189_2 hcut
    clear HC63
    try clear c62
    obtain ⟨kq, x104_62, rfl, HA, HJ62, BK121, HB⟩ := hcut
    cases kq with
    | zero => exact absurd HA.out (by simp [spec_EndOk.j2])
    | succ kj62 =>
      have H := HA.out
      clear HA
      simp only [spec_EndOk.j2] at H
      by_cases c79 : x104_62 = true
      · subst c79
        rw [if_pos rfl] at H
        obtain rfl := Option.some.inj H
        go_wp2
        repeat (go_quiet (fail); try go_wp2)
        go_ret
        exact ⟨z_4, z_24⟩
      · replace c79 := Bool.eq_false_iff.mpr c79
        subst c79
        rw [if_neg (show ¬ (false = true) by decide)] at H
        have HC80 := Aside0.mk H
        clear H
        go_upto_region 7 with (fail)
        repeat (go_quiet (fail); go_upto_region 7 with (fail))
        go_cut [127] (fun v127 wc => ∃ (kq : Nat) (x127_79 : Bool), v127 = .bool x127_79 ∧ Aside0 (spec_EndOk.j3 kq x127_79 a0_0 a0_1 a0_2 a0_3 a0_4 a0_5 a0_6 l0_7 a0_8 a0_9 l0_10 a0_11 a0_12 l0_13 l0_14 a0_15 a0_16 a0_17 a0_18 a0_19 a0_20 a0_21 a0_22 a0_23 = some r) ∧ Aside0 (kq ≤ kj62) ∧ Aside0 (wc.heap[gb121]? = some (.cells #[.int .i64 a0_0, .int .i64 a0_1, .int .i64 a0_2, .int .i64 a0_3, .int .i64 a0_4, .int .i64 a0_5, .int .i64 a0_6, (.slice A0_7 l0_7.length c0_7), .int .i64 a0_8, .int .i64 a0_9, (.slice A0_10 l0_10.length c0_10), .int .i64 a0_11, .int .i64 a0_12, (.slice A0_13 l0_13.length c0_13), (.slice A0_14 l0_14.length c0_14), .bool a0_15, .bool a0_16, .bool a0_17, .int .i64 a0_18, .int .i64 a0_19, .int .i64 a0_20, .int .i64 a0_21, .int .i64 a0_22, .int .i64 a0_23] 32 (0, 0))) ∧ Aside0 (Below w.heap.size w wc))
        case first =>
          have H := HC80.out
          clear HC80
          obtain ⟨hcz83_0, hcz83_1, hcz83_2, hcz83_3, hcz83_4, hcz83_5, hcz83_6, hcz83_7, hcz83_8, hcz83_9, hcz83_10, hcz83_11, hcz83_12, hcz83_13, hcz83_14, hcz83_15, hcz83_16, hcz83_17, hcz83_18, hcz83_19, hcz83_20, hcz83_21, hcz83_22, hcz83_23, hfz83_0, hfz83_1, hfz83_2, hfz83_3, hfz83_4, hfz83_5, hfz83_6, hfz83_7, hfz83_8, hfz83_9, hfz83_10, hfz83_11, hfz83_12, hfz83_13, hfz83_14, hfz83_15, hfz83_16, hfz83_17, hfz83_18, hfz83_19, hfz83_20, hfz83_21, hfz83_22, hfz83_23⟩ := cells_24 BK121.out
          by_cases c81 : a0_0 < 4
          rw [if_pos c81] at H
          have c81b0 : decide (a0_0 < 4) = true := decide_eq_true c81
          clear c81
          (first | rw [c81b0] | (simp only [i64_w, i32_w]; rw [c81b0]) | skip)
          by_cases c82 : a0_8 > 0
          rw [if_pos c82] at H
          have c82b0 : decide (0 < a0_8) = true := decide_eq_true c82
          clear c82
          have H' := Aside0.mk H
          clear H
          rotate_left
          rw [if_neg c82] at H
          have c82b0 : decide (0 < a0_8) = false := decide_eq_false c82
          clear c82
          by_cases c84 : a0_6 = (wrap64 (a0_5 + 1))
          rw [if_pos c84] at H
          have c84b0 : (a0_6 == (wrap64 (a0_5 + 1))) = true := beq_iff_eq.mpr c84
          have c84b1 : (a0_6 != (wrap64 (a0_5 + 1))) = false := bne_eq_false_iff_eq.mpr c84
          clear c84
          have H' := Aside0.mk H
          clear H
          rotate_left
          rw [if_neg c84] at H
          have c84b0 : (a0_6 == (wrap64 (a0_5 + 1))) = false := beq_eq_false_iff_ne.mpr c84
          have c84b1 : (a0_6 != (wrap64 (a0_5 + 1))) = true := bne_iff_ne.mpr c84
          have H' := Aside0.mk H
          clear H
          rotate_left
          rw [if_neg c81] at H
          have c81b0 : decide (a0_0 < 4) = false := decide_eq_false c81
          clear c81
          (first | rw [c81b0] | (simp only [i64_w, i32_w]; rw [c81b0]) | skip)
          have H' := Aside0.mk H
          clear H
          rotate_left
          all_goals (
           go_wp2
           repeat (go_quiet (fail); try go_wp2)
           go_meet
           case rel => first | (exact ⟨_, (true), (z_5), H', ⟨z_30⟩, ⟨z_23⟩, ⟨z_24⟩⟩) | (exact ⟨_, ((a0_18 != (-1))), (z_5), H', ⟨z_30⟩, ⟨z_23⟩, ⟨z_24⟩⟩) | (exact ⟨_, (false), (z_5), H', ⟨z_30⟩, ⟨z_23⟩, ⟨z_24⟩⟩))
        case rest =>
         rename_i iq3_0 iq3_1 iq3_2 iq3_3 iq3_4 iq3_5 iq3_6
         revert hu32 hu25 hu28 hu30 HR0_7 HC0_7 HR0_10 HC0_10 HR0_13 HC0_13 HR0_14 HC0_14 iq0_0 gb121 w3 iq1_0 iq1_1 GW121 GE121 iq1_2 iq2_0 iq2_1 kj1 HJ1 iq2_2 iq3_0 iq3_1 kj21 HJ21 iq3_2 BK121 HB kj62 HJ62 HC80 iq3_3 iq3_4 iq3_5 iq3_6 wc u4 u5 u6 u7 u8 u9 u10 u11 u12 u13 u14 u15 u16 u17 u18 u19 u20 u21 u22 u23 u24 u25 u26 u27 u28 u29 u30 u31 u32 u33 u34 u35 u36 u37 u38 u39 u40 u41 u42 u43 u44 u45 u46 u47 u48 u49 u50 u51 u52 u53 u54 u55 u56 u57 u58 u59 u60 u61 u62 u63 u64 u65 u66 u67 u68 u69 u70 u71 u72 u73 u74 u75 u76 u77 u78 u79 u80 u81 u82 u83 u84 u85 u86 u87 u88 u89 u90 u91 u92 u93 u94 u95 u96 u97 u98 u99 u100 u101 u102 u103 u104 u105 u106 u107 u108 u109 u110 u111 u112 u113 u114 u115 u116 u117 u118 u119 u120 u121 u122 u123 u124 u125 u126 u127 u128 u129 u130 u131 u132 u133 u134 u135 u136 u137 u138 u139 u140 u141 u142 u143 u144 u145 u146 u147 u148 u149 u150 u151 u152 u153 u154 u155 u156 u157 u158 u159 u160 u161 u162 u163 u164 u165 u166 u167 u168 u169 u170 u171 u172 u173 u174 u175 u176 u177 u178 u179 u180 u181 u182 u183 u184 u185 u186 u187 u188 u189 hcut
         exact h_.o
end Go.Proofs.Ytpadgacbkkjjfaa.GFnExactEndNew
