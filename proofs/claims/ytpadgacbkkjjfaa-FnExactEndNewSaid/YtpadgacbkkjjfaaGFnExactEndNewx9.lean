/- What the Go functions that FnExactEndNew reaches come to, walked step by step; there is no condition beyond those each statement names. -/
import Derived.Test.YtpadgacbkkjjfaaGFnExactEndNewx8
namespace Go.Proofs.Ytpadgacbkkjjfaa.GFnExactEndNew
open Go.RowKit Go.Proofs.YtpadgacbkkjjfaaVExactEndNew.PrintWords Go.Proofs.YtpadgacbkkjjfaaVExactEndNew.PrintLast Go.Proofs.YtpadgacbkkjjfaaVExactEndNew.PrintMore
attribute [local go_sem] max2_int min2_int max_two min_two max_three min_three max_four min_four   -- for this text's walks alone
set_option linter.unusedVariables false
set_option linter.unusedSimpArgs false
set_option maxHeartbeats 8000000 in
set_option maxRecDepth 100000 in
theorem spec_EndOk.r5 (k : Nat) (a0_0 : Int) (a0_1 : Int) (a0_2 : Int) (a0_3 : Int) (a0_4 : Int) (a0_5 : Int) (a0_6 : Int) (A0_7 : Option Addr) (c0_7 : Nat) (l0_7 : List Int) (a0_8 : Int) (a0_9 : Int) (A0_10 : Option Addr) (c0_10 : Nat) (l0_10 : List (S69)) (a0_11 : Int) (a0_12 : Int) (A0_13 : Option Addr) (c0_13 : Nat) (l0_13 : List Int) (A0_14 : Option Addr) (c0_14 : Nat) (l0_14 : List (S59)) (a0_15 : Bool) (a0_16 : Bool) (a0_17 : Bool) (a0_18 : Int) (a0_19 : Int) (a0_20 : Int) (a0_21 : Int) (a0_22 : Int) (a0_23 : Int) (r : Bool) (w : World) : (spec_EndOk.p4 k a0_0 a0_1 a0_2 a0_3 a0_4 a0_5 a0_6 A0_7 c0_7 l0_7 a0_8 a0_9 A0_10 c0_10 l0_10 a0_11 a0_12 A0_13 c0_13 l0_13 A0_14 c0_14 l0_14 a0_15 a0_16 a0_17 a0_18 a0_19 a0_20 a0_21 a0_22 a0_23 r w).P := by
  intro hu32 hu25 hu28 hu30 HR0_7 HC0_7 HR0_10 HC0_10 HR0_13 HC0_13 HR0_14 HC0_14 iq0_0 gb121 w3 iq1_0 iq1_1 GW121 GE121 iq1_2 iq2_0 iq2_1 kj1 HJ1 iq2_2 iq3_0 iq3_1 kj21 HJ21 iq3_2 iq4_0 iq4_1 kj62 HJ62 iq4_2 BK121 HB kj79 HJ79 HC89 iq4_3 iq4_4 iq4_5 iq4_6 wc u4_4 u5_4 u6_4 u7_4 u8_4 u9_4 u10_4 u11_4 u12_4 u13_4 u14_4 u15_4 u16_4 u17_4 u18_4 u19_4 u20_4 u21_4 u22_4 u23_4 u24_4 u25_4 u26_4 u27_4 u28_4 u29_4 u30_4 u31_4 u32_4 u33_4 u34_4 u35_4 u36_4 u37_4 u38_4 u39_4 u40_4 u41_4 u42_4 u43_4 u44_4 u45_4 u46_4 u47_4 u48_4 u49_4 u50_4 u51_4 u52_4 u53_4 u54_4 u55_4 u56_4 u57_4 u58_4 u59_4 u60_4 u61_4 u62_4 u63_4 u64_4 u65_4 u66_4 u67_4 u68_4 u69_4 u70_4 u71_4 u72_4 u73_4 u74_4 u75_4 u76_4 u77_4 u78_4 u79_4 u80_4 u81_4 u82_4 u83_4 u84_4 u85_4 u86_4 u87_4 u88_4 u89_4 u90_4 u91_4 u92_4 u93_4 u94_4 u95_4 u96_4 u97_4 u98_4 u99_4 u100_4 u101_4 u102_4 u103_4 u104_4 u105_4 u106_4 u107_4 u108_4 u109_4 u110_4 u111_4 u112_4 u113_4 u114_4 u115_4 u116_4 u117_4 u118_4 u119_4 u120_4 u121_4 u122_4 u123_4 u124_4 u125_4 u126_4 u127_4 u128_4 u129_4 u130_4 u131_4 u132_4 u133_4 u134_4 u135_4 u136_4 u137_4 u138_4 u139_4 u140_4 u141_4 u142_4 u143_4 u144_4 u145_4 u146_4 u147_4 u148_4 u149_4 u150_4 u151_4 u152_4 u153_4 u154_4 u155_4 u156_4 u157_4 u158_4 u159_4 u160_4 u161_4 u162_4 u163_4 u164_4 u165_4 u166_4 u167_4 u168_4 u169_4 u170_4 u171_4 u172_4 u173_4 u174_4 u175_4 u176_4 u177_4 u178_4 u179_4 u180_4 u181_4 u182_4 u183_4 u184_4 u185_4 u186_4 u187_4 u188_4 u189_4 hcut
  clear HC89
  try clear c88
  obtain ⟨kq, x154_88, rfl, HA, HJ88, BK121, HB⟩ := hcut
  cases kq with
  | zero => exact absurd HA.out (by simp [spec_EndOk.j4])
  | succ kj88 =>
    have H := HA.out
    clear HA
    simp only [spec_EndOk.j4] at H
    by_cases c107 : x154_88 = true
    subst c107
    rw [if_pos rfl] at H
    obtain rfl := Option.some.inj H
    rotate_left
    replace c107 := Bool.eq_false_iff.mpr c107
    subst c107
    rw [if_neg (show ¬ (false = true) by decide)] at H
    by_cases c108 : (l0_14.length : Int) > 0
    rw [if_pos c108] at H
    have c108b0 : decide (0 < (l0_14.length : Int)) = true := decide_eq_true c108
    have c108b1 : decide (0 < l0_14.length) = true := decide_eq_true (by omega)
    clear c108
    by_cases c109 : a0_18 = (-1)
    rw [if_pos c109] at H
    have c109b0 : (a0_18 == (-1)) = true := beq_iff_eq.mpr c109
    have c109b1 : (a0_18 != (-1)) = false := bne_eq_false_iff_eq.mpr c109
    clear c109
    obtain rfl := Option.some.inj H
    obtain ⟨hcz110_0, hcz110_1, hcz110_2, hcz110_3, hcz110_4, hcz110_5, hcz110_6, hcz110_7, hcz110_8, hcz110_9, hcz110_10, hcz110_11, hcz110_12, hcz110_13, hcz110_14, hcz110_15, hcz110_16, hcz110_17, hcz110_18, hcz110_19, hcz110_20, hcz110_21, hcz110_22, hcz110_23, hfz110_0, hfz110_1, hfz110_2, hfz110_3, hfz110_4, hfz110_5, hfz110_6, hfz110_7, hfz110_8, hfz110_9, hfz110_10, hfz110_11, hfz110_12, hfz110_13, hfz110_14, hfz110_15, hfz110_16, hfz110_17, hfz110_18, hfz110_19, hfz110_20, hfz110_21, hfz110_22, hfz110_23⟩ := cells_24 BK121.out
    rotate_left
    rw [if_neg c109] at H
    have c109b0 : (a0_18 == (-1)) = false := beq_eq_false_iff_ne.mpr c109
    have c109b1 : (a0_18 != (-1)) = true := bne_iff_ne.mpr c109
    obtain ⟨ji111, hji111⟩ : ∃ j_ : Int, (wrap64 ((l0_14.length : Int) - 1)) = j_ := ⟨_, rfl⟩
    replace H : (if 0 ≤ (ji111) then (if (ji111) < (l0_14.length : Int) then (if ((rd_T59 l0_14 (ji111)).f0) ≥ a0_18 then (some false) else ((spec_l1In.f a0_18 a0_11 1000000).bind fun t135 => (some t135))) else (none)) else (none)) = some r := by first | (rw [hji111] at H; exact H) | (simp only [hji111] at H ⊢; exact H)
    have hji111w : (IntKind.i64.wrap ((l0_14.length : Int) - 1)) = ji111 := (i64_w _).trans hji111
    by_cases c112 : 0 ≤ (ji111)
    rw [if_pos c112] at H
    have c112b0 : decide (0 ≤ (ji111)) = true := decide_eq_true c112
    clear c112
    by_cases c113 : (ji111) < (l0_14.length : Int)
    rw [if_pos c113] at H
    have c113b0 : decide ((ji111) < (l0_14.length : Int)) = true := decide_eq_true c113
    clear c113
    by_cases c114 : ((rd_T59 l0_14 (ji111)).f0) ≥ a0_18
    rw [if_pos c114] at H
    have c114b0 : decide (a0_18 ≤ ((rd_T59 l0_14 (ji111)).f0)) = true := decide_eq_true c114
    clear c114
    obtain rfl := Option.some.inj H
    have p134 : 0 ≤ ((ji111) : Int) := of_decide_eq_true (z_10)
    have q134 : (ji111) < (l0_14.length : Int) := of_decide_eq_true (z_10)
    obtain ⟨ad134, e134, hx134_0, hx134_1⟩ := at_T59 HR0_14.out (ji111) p134 q134
    cases e134
    replace hx134_0 := pw_cell_below HB.out hx134_0
    replace hx134_1 := pw_cell_below HB.out hx134_1
    replace p134 := eq_true p134
    replace q134 := eq_true q134
    obtain ⟨hcz115_0, hcz115_1, hcz115_2, hcz115_3, hcz115_4, hcz115_5, hcz115_6, hcz115_7, hcz115_8, hcz115_9, hcz115_10, hcz115_11, hcz115_12, hcz115_13, hcz115_14, hcz115_15, hcz115_16, hcz115_17, hcz115_18, hcz115_19, hcz115_20, hcz115_21, hcz115_22, hcz115_23, hfz115_0, hfz115_1, hfz115_2, hfz115_3, hfz115_4, hfz115_5, hfz115_6, hfz115_7, hfz115_8, hfz115_9, hfz115_10, hfz115_11, hfz115_12, hfz115_13, hfz115_14, hfz115_15, hfz115_16, hfz115_17, hfz115_18, hfz115_19, hfz115_20, hfz115_21, hfz115_22, hfz115_23⟩ := cells_24 BK121.out
    rotate_left
    rw [if_neg c114] at H
    have c114b0 : decide (a0_18 ≤ ((rd_T59 l0_14 (ji111)).f0)) = false := decide_eq_false c114
    clear c114
    replace H := Option.bind_eq_some_iff.mp H
    obtain ⟨t135, A1160, H⟩ := H
    have A116 := Aside0.mk A1160
    clear A1160
    obtain rfl := Option.some.inj H
    have p134 : 0 ≤ ((ji111) : Int) := of_decide_eq_true (z_10)
    have q134 : (ji111) < (l0_14.length : Int) := of_decide_eq_true (z_10)
    obtain ⟨ad134, e134, hx134_0, hx134_1⟩ := at_T59 HR0_14.out (ji111) p134 q134
    cases e134
    replace hx134_0 := pw_cell_below HB.out hx134_0
    replace hx134_1 := pw_cell_below HB.out hx134_1
    replace p134 := eq_true p134
    replace q134 := eq_true q134
    obtain ⟨hcz117_0, hcz117_1, hcz117_2, hcz117_3, hcz117_4, hcz117_5, hcz117_6, hcz117_7, hcz117_8, hcz117_9, hcz117_10, hcz117_11, hcz117_12, hcz117_13, hcz117_14, hcz117_15, hcz117_16, hcz117_17, hcz117_18, hcz117_19, hcz117_20, hcz117_21, hcz117_22, hcz117_23, hfz117_0, hfz117_1, hfz117_2, hfz117_3, hfz117_4, hfz117_5, hfz117_6, hfz117_7, hfz117_8, hfz117_9, hfz117_10, hfz117_11, hfz117_12, hfz117_13, hfz117_14, hfz117_15, hfz117_16, hfz117_17, hfz117_18, hfz117_19, hfz117_20, hfz117_21, hfz117_22, hfz117_23⟩ := cells_24 BK121.out
    rotate_left
    rw [if_neg c113] at H
    exact absurd H (by simp)
    rw [if_neg c112] at H
    exact absurd H (by simp)
    rw [if_neg c108] at H
    have c108b0 : decide (0 < (l0_14.length : Int)) = false := decide_eq_false c108
    have c108b1 : decide (0 < l0_14.length) = false := decide_eq_false (by omega)
    clear c108
    by_cases c118 : a0_18 = (-1)
    rw [if_pos c118] at H
    have c118b0 : (a0_18 == (-1)) = true := beq_iff_eq.mpr c118
    have c118b1 : (a0_18 != (-1)) = false := bne_eq_false_iff_eq.mpr c118
    clear c118
    obtain rfl := Option.some.inj H
    obtain ⟨hcz119_0, hcz119_1, hcz119_2, hcz119_3, hcz119_4, hcz119_5, hcz119_6, hcz119_7, hcz119_8, hcz119_9, hcz119_10, hcz119_11, hcz119_12, hcz119_13, hcz119_14, hcz119_15, hcz119_16, hcz119_17, hcz119_18, hcz119_19, hcz119_20, hcz119_21, hcz119_22, hcz119_23, hfz119_0, hfz119_1, hfz119_2, hfz119_3, hfz119_4, hfz119_5, hfz119_6, hfz119_7, hfz119_8, hfz119_9, hfz119_10, hfz119_11, hfz119_12, hfz119_13, hfz119_14, hfz119_15, hfz119_16, hfz119_17, hfz119_18, hfz119_19, hfz119_20, hfz119_21, hfz119_22, hfz119_23⟩ := cells_24 BK121.out
    rotate_left
    rw [if_neg c118] at H
    have c118b0 : (a0_18 == (-1)) = false := beq_eq_false_iff_ne.mpr c118
    have c118b1 : (a0_18 != (-1)) = true := bne_iff_ne.mpr c118
    replace H := Option.bind_eq_some_iff.mp H
    obtain ⟨t136, A1200, H⟩ := H
    have A120 := Aside0.mk A1200
    clear A1200
    obtain rfl := Option.some.inj H
    obtain ⟨hcz121_0, hcz121_1, hcz121_2, hcz121_3, hcz121_4, hcz121_5, hcz121_6, hcz121_7, hcz121_8, hcz121_9, hcz121_10, hcz121_11, hcz121_12, hcz121_13, hcz121_14, hcz121_15, hcz121_16, hcz121_17, hcz121_18, hcz121_19, hcz121_20, hcz121_21, hcz121_22, hcz121_23, hfz121_0, hfz121_1, hfz121_2, hfz121_3, hfz121_4, hfz121_5, hfz121_6, hfz121_7, hfz121_8, hfz121_9, hfz121_10, hfz121_11, hfz121_12, hfz121_13, hfz121_14, hfz121_15, hfz121_16, hfz121_17, hfz121_18, hfz121_19, hfz121_20, hfz121_21, hfz121_22, hfz121_23⟩ := cells_24 BK121.out
    rotate_left
    all_goals (
     try go_wp2_with (first | (go_at_call 38; (with_reducible refine (spec_l1In.calls a0_18 a0_11 1000000 t135 _ A116.out).mono ?_); rintro e w' ⟨rfl, ⟨nd, rfl⟩⟩; (try first | exact ⟨rfl, _, World.drewN_drewN _ _ _⟩ | exact ⟨rfl, _, Eq.trans (World.drewN_drewN _ _ _) (congrArg (World.drewN _) (Nat.add_assoc _ _ _))⟩)) | (go_at_call 38; (with_reducible refine (spec_l1In.calls a0_18 a0_11 1000000 t136 _ A120.out).mono ?_); rintro e w' ⟨rfl, ⟨nd, rfl⟩⟩; (try first | exact ⟨rfl, _, World.drewN_drewN _ _ _⟩ | exact ⟨rfl, _, Eq.trans (World.drewN_drewN _ _ _) (congrArg (World.drewN _) (Nat.add_assoc _ _ _))⟩)))
     repeat (go_quiet (first | (go_at_call 38; (with_reducible refine (spec_l1In.calls a0_18 a0_11 1000000 t135 _ A116.out).mono ?_); rintro e w' ⟨rfl, ⟨nd, rfl⟩⟩; (try first | exact ⟨rfl, _, World.drewN_drewN _ _ _⟩ | exact ⟨rfl, _, Eq.trans (World.drewN_drewN _ _ _) (congrArg (World.drewN _) (Nat.add_assoc _ _ _))⟩)) | (go_at_call 38; (with_reducible refine (spec_l1In.calls a0_18 a0_11 1000000 t136 _ A120.out).mono ?_); rintro e w' ⟨rfl, ⟨nd, rfl⟩⟩; (try first | exact ⟨rfl, _, World.drewN_drewN _ _ _⟩ | exact ⟨rfl, _, Eq.trans (World.drewN_drewN _ _ _) (congrArg (World.drewN _) (Nat.add_assoc _ _ _))⟩))); try go_wp2_with (first | (go_at_call 38; (with_reducible refine (spec_l1In.calls a0_18 a0_11 1000000 t135 _ A116.out).mono ?_); rintro e w' ⟨rfl, ⟨nd, rfl⟩⟩; (try first | exact ⟨rfl, _, World.drewN_drewN _ _ _⟩ | exact ⟨rfl, _, Eq.trans (World.drewN_drewN _ _ _) (congrArg (World.drewN _) (Nat.add_assoc _ _ _))⟩)) | (go_at_call 38; (with_reducible refine (spec_l1In.calls a0_18 a0_11 1000000 t136 _ A120.out).mono ?_); rintro e w' ⟨rfl, ⟨nd, rfl⟩⟩; (try first | exact ⟨rfl, _, World.drewN_drewN _ _ _⟩ | exact ⟨rfl, _, Eq.trans (World.drewN_drewN _ _ _) (congrArg (World.drewN _) (Nat.add_assoc _ _ _))⟩))))
     go_ret
     first | (exact ⟨z_4, z_24⟩) | (exact ⟨by first | rfl | (simp [errW_none, errW_some] <;> rfl) | (simp only [← hji111]; first | rfl | (simp [errW_none, errW_some] <;> rfl)) | (simp [*, errW_none, errW_some] <;> rfl), z_24⟩))
theorem spec_EndOk.calls (k : Nat) (a0_0 : Int) (a0_1 : Int) (a0_2 : Int) (a0_3 : Int) (a0_4 : Int) (a0_5 : Int) (a0_6 : Int) (A0_7 : Option Addr) (c0_7 : Nat) (l0_7 : List Int) (a0_8 : Int) (a0_9 : Int) (A0_10 : Option Addr) (c0_10 : Nat) (l0_10 : List (S69)) (a0_11 : Int) (a0_12 : Int) (A0_13 : Option Addr) (c0_13 : Nat) (l0_13 : List Int) (A0_14 : Option Addr) (c0_14 : Nat) (l0_14 : List (S59)) (a0_15 : Bool) (a0_16 : Bool) (a0_17 : Bool) (a0_18 : Int) (a0_19 : Int) (a0_20 : Int) (a0_21 : Int) (a0_22 : Int) (a0_23 : Int) (r : Bool) (w : World) (hr0_7 : Kd.C (Kd.int .u8) w A0_7 l0_7.length l0_7) (hc0_7 : l0_7.length ≤ c0_7) (hr0_10 : Kd.C k69 w A0_10 l0_10.length l0_10) (hc0_10 : l0_10.length ≤ c0_10) (hr0_13 : Kd.C (Kd.int .u8) w A0_13 l0_13.length l0_13) (hc0_13 : l0_13.length ≤ c0_13) (hr0_14 : Kd.C k59 w A0_14 l0_14.length l0_14) (hc0_14 : l0_14.length ≤ c0_14) (h : spec_EndOk.f k a0_0 a0_1 a0_2 a0_3 a0_4 a0_5 a0_6 l0_7 a0_8 a0_9 l0_10 a0_11 a0_12 l0_13 l0_14 a0_15 a0_16 a0_17 a0_18 a0_19 a0_20 a0_21 a0_22 a0_23 = some r) :
    Calls Try.prog 15 #[.agg #[.int .i64 a0_0, .int .i64 a0_1, .int .i64 a0_2, .int .i64 a0_3, .int .i64 a0_4, .int .i64 a0_5, .int .i64 a0_6, .slice A0_7 l0_7.length c0_7, .int .i64 a0_8, .int .i64 a0_9, .slice A0_10 l0_10.length c0_10, .int .i64 a0_11, .int .i64 a0_12, .slice A0_13 l0_13.length c0_13, .slice A0_14 l0_14.length c0_14, .bool a0_15, .bool a0_16, .bool a0_17, .int .i64 a0_18, .int .i64 a0_19, .int .i64 a0_20, .int .i64 a0_21, .int .i64 a0_22, .int .i64 a0_23]] w fun e w' => e = .returned (.bool r) ∧ Below w.heap.size w w' := ((spec_EndOk.p0 k a0_0 a0_1 a0_2 a0_3 a0_4 a0_5 a0_6 A0_7 c0_7 l0_7 a0_8 a0_9 A0_10 c0_10 l0_10 a0_11 a0_12 A0_13 c0_13 l0_13 A0_14 c0_14 l0_14 a0_15 a0_16 a0_17 a0_18 a0_19 a0_20 a0_21 a0_22 a0_23 r w).h ⟨((spec_EndOk.p1 k a0_0 a0_1 a0_2 a0_3 a0_4 a0_5 a0_6 A0_7 c0_7 l0_7 a0_8 a0_9 A0_10 c0_10 l0_10 a0_11 a0_12 A0_13 c0_13 l0_13 A0_14 c0_14 l0_14 a0_15 a0_16 a0_17 a0_18 a0_19 a0_20 a0_21 a0_22 a0_23 r w).h ⟨((spec_EndOk.p2 k a0_0 a0_1 a0_2 a0_3 a0_4 a0_5 a0_6 A0_7 c0_7 l0_7 a0_8 a0_9 A0_10 c0_10 l0_10 a0_11 a0_12 A0_13 c0_13 l0_13 A0_14 c0_14 l0_14 a0_15 a0_16 a0_17 a0_18 a0_19 a0_20 a0_21 a0_22 a0_23 r w).h ⟨((spec_EndOk.p3 k a0_0 a0_1 a0_2 a0_3 a0_4 a0_5 a0_6 A0_7 c0_7 l0_7 a0_8 a0_9 A0_10 c0_10 l0_10 a0_11 a0_12 A0_13 c0_13 l0_13 A0_14 c0_14 l0_14 a0_15 a0_16 a0_17 a0_18 a0_19 a0_20 a0_21 a0_22 a0_23 r w).h ⟨((spec_EndOk.p4 k a0_0 a0_1 a0_2 a0_3 a0_4 a0_5 a0_6 A0_7 c0_7 l0_7 a0_8 a0_9 A0_10 c0_10 l0_10 a0_11 a0_12 A0_13 c0_13 l0_13 A0_14 c0_14 l0_14 a0_15 a0_16 a0_17 a0_18 a0_19 a0_20 a0_21 a0_22 a0_23 r w).h ⟨(spec_EndOk.r5 k a0_0 a0_1 a0_2 a0_3 a0_4 a0_5 a0_6 A0_7 c0_7 l0_7 a0_8 a0_9 A0_10 c0_10 l0_10 a0_11 a0_12 A0_13 c0_13 l0_13 A0_14 c0_14 l0_14 a0_15 a0_16 a0_17 a0_18 a0_19 a0_20 a0_21 a0_22 a0_23 r w)⟩)⟩)⟩)⟩)⟩) hr0_7 hc0_7 hr0_10 hc0_10 hr0_13 hc0_13 hr0_14 hc0_14 h

end Go.Proofs.Ytpadgacbkkjjfaa.GFnExactEndNew
