/- What the Go functions that FnExactEndNew reaches come to, walked step by step; there is no condition beyond those each statement names. -/
import Derived.Test.YtpadgacbkkjjfaaGFnExactEndNewx0
import Derived.Test.YtpadgacbkkjjfaaGFnExactEndNewx11
namespace Go.Proofs.Ytpadgacbkkjjfaa.GFnExactEndNew
open Go.RowKit Go.Proofs.YtpadgacbkkjjfaaVExactEndNew.PrintWords Go.Proofs.YtpadgacbkkjjfaaVExactEndNew.PrintLast Go.Proofs.YtpadgacbkkjjfaaVExactEndNew.PrintMore
attribute [local go_sem] max2_int min2_int max_two min_two max_three min_three max_four min_four   -- for this text's walks alone
set_option linter.unusedVariables false
set_option linter.unusedSimpArgs false

/-! ### laws_eqEnd: function 7 -/
def laws_eqEnd.f (k : Nat) (a0_0 : Int) (a0_1 : Int) (a0_2 : Int) (a0_3 : Int) (a0_4 : Int) (a0_5 : Int) (a0_6 : Int) (l0_7 : List Int) (a0_8 : Int) (a0_9 : Int) (l0_10 : List (S69)) (a0_11 : Int) (a0_12 : Int) (l0_13 : List Int) (l0_14 : List (S59)) (a0_15 : Bool) (a0_16 : Bool) (a0_17 : Bool) (a0_18 : Int) (a0_19 : Int) (a0_20 : Int) (a0_21 : Int) (a0_22 : Int) (a0_23 : Int) (a1_0 : Int) (a1_1 : Int) (a1_2 : Int) (a1_3 : Int) (a1_4 : Int) (a1_5 : Int) (a1_6 : Int) (l1_7 : List Int) (a1_8 : Int) (a1_9 : Int) (l1_10 : List (S69)) (a1_11 : Int) (a1_12 : Int) (l1_13 : List Int) (l1_14 : List (S59)) (a1_15 : Bool) (a1_16 : Bool) (a1_17 : Bool) (a1_18 : Int) (a1_19 : Int) (a1_20 : Int) (a1_21 : Int) (a1_22 : Int) (a1_23 : Int) : Option (Bool) := if a0_0 = a1_0 then (if a0_1 = a1_1 then (if a0_2 = a1_2 then (if a0_3 = a1_3 then (if a0_4 = a1_4 then (if a0_5 = a1_5 then ((laws_eqMouth.f k a0_6 l0_7 a0_8 a0_9 l0_10 a1_6 l1_7 a1_8 a1_9 l1_10).bind fun t178 => (if t178 = true then ((laws_eqEar.f k a0_11 a0_12 l0_13 l0_14 a1_11 a1_12 l1_13 l1_14).bind fun t179 => (if t179 = true then (if (a0_15 != a1_15) = true then (some false) else (if (a0_16 != a1_16) = true then (some false) else (if (a0_17 != a1_17) = true then (some false) else (if a0_18 = a1_18 then (if a0_19 = a1_19 then (if a0_20 = a1_20 then ((laws_eqClock.f a0_21 a0_22 a0_23 a1_21 a1_22 a1_23).bind fun t180 => (if t180 = true then (some true) else (some false))) else (some false)) else (some false)) else (some false))))) else (some false))) else (some false))) else (some false)) else (some false)) else (some false)) else (some false)) else (some false)) else (some false)
theorem laws_eqEnd.mono : ∀ a0 a1 a2 a3 a4 a5 a6 a7 a8 a9 a10 a11 a12 a13 a14 a15 a16 a17 a18 a19 a20 a21 a22 a23 a24 a25 a26 a27 a28 a29 a30 a31 a32 a33 a34 a35 a36 a37 a38 a39 a40 a41 a42 a43 a44 a45 a46 a47 k, LeO (laws_eqEnd.f k a0 a1 a2 a3 a4 a5 a6 a7 a8 a9 a10 a11 a12 a13 a14 a15 a16 a17 a18 a19 a20 a21 a22 a23 a24 a25 a26 a27 a28 a29 a30 a31 a32 a33 a34 a35 a36 a37 a38 a39 a40 a41 a42 a43 a44 a45 a46 a47) (laws_eqEnd.f (k + 1) a0 a1 a2 a3 a4 a5 a6 a7 a8 a9 a10 a11 a12 a13 a14 a15 a16 a17 a18 a19 a20 a21 a22 a23 a24 a25 a26 a27 a28 a29 a30 a31 a32 a33 a34 a35 a36 a37 a38 a39 a40 a41 a42 a43 a44 a45 a46 a47) := by
  intro a0 a1 a2 a3 a4 a5 a6 a7 a8 a9 a10 a11 a12 a13 a14 a15 a16 a17 a18 a19 a20 a21 a22 a23 a24 a25 a26 a27 a28 a29 a30 a31 a32 a33 a34 a35 a36 a37 a38 a39 a40 a41 a42 a43 a44 a45 a46 a47 k
  unfold laws_eqEnd.f
  repeat' first
      | (with_reducible exact laws_eqEar.mono _ _ _ _ _ _ _ _ _)
      | (with_reducible exact laws_eqMouth.mono _ _ _ _ _ _ _ _ _ _ _)
      | (with_reducible exact LeO.refl _)
      | (with_reducible exact LeO.none _)
      | (with_reducible refine LeO.ite ?_ ?_)
      | (with_reducible refine LeO.bind ?_ (fun _ => ?_))
      | exact laws_eqEar.mono _ _ _ _ _ _ _ _ _
      | exact laws_eqMouth.mono _ _ _ _ _ _ _ _ _ _ _
      | exact LeO.none _
      | refine LeO.ite ?_ ?_
      | refine LeO.bind ?_ (fun _ => ?_)
set_option maxHeartbeats 8000000 in
set_option maxRecDepth 100000 in
theorem laws_eqEnd.calls (k : Nat) (a0_0 : Int) (a0_1 : Int) (a0_2 : Int) (a0_3 : Int) (a0_4 : Int) (a0_5 : Int) (a0_6 : Int) (A0_7 : Option Addr) (c0_7 : Nat) (l0_7 : List Int) (a0_8 : Int) (a0_9 : Int) (A0_10 : Option Addr) (c0_10 : Nat) (l0_10 : List (S69)) (a0_11 : Int) (a0_12 : Int) (A0_13 : Option Addr) (c0_13 : Nat) (l0_13 : List Int) (A0_14 : Option Addr) (c0_14 : Nat) (l0_14 : List (S59)) (a0_15 : Bool) (a0_16 : Bool) (a0_17 : Bool) (a0_18 : Int) (a0_19 : Int) (a0_20 : Int) (a0_21 : Int) (a0_22 : Int) (a0_23 : Int) (a1_0 : Int) (a1_1 : Int) (a1_2 : Int) (a1_3 : Int) (a1_4 : Int) (a1_5 : Int) (a1_6 : Int) (A1_7 : Option Addr) (c1_7 : Nat) (l1_7 : List Int) (a1_8 : Int) (a1_9 : Int) (A1_10 : Option Addr) (c1_10 : Nat) (l1_10 : List (S69)) (a1_11 : Int) (a1_12 : Int) (A1_13 : Option Addr) (c1_13 : Nat) (l1_13 : List Int) (A1_14 : Option Addr) (c1_14 : Nat) (l1_14 : List (S59)) (a1_15 : Bool) (a1_16 : Bool) (a1_17 : Bool) (a1_18 : Int) (a1_19 : Int) (a1_20 : Int) (a1_21 : Int) (a1_22 : Int) (a1_23 : Int) (r : Bool) (w : World) (hr0_7 : Kd.C (Kd.int .u8) w A0_7 l0_7.length l0_7) (hc0_7 : l0_7.length ≤ c0_7) (hr0_10 : Kd.C k69 w A0_10 l0_10.length l0_10) (hc0_10 : l0_10.length ≤ c0_10) (hr0_13 : Kd.C (Kd.int .u8) w A0_13 l0_13.length l0_13) (hc0_13 : l0_13.length ≤ c0_13) (hr0_14 : Kd.C k59 w A0_14 l0_14.length l0_14) (hc0_14 : l0_14.length ≤ c0_14) (hr1_7 : Kd.C (Kd.int .u8) w A1_7 l1_7.length l1_7) (hc1_7 : l1_7.length ≤ c1_7) (hr1_10 : Kd.C k69 w A1_10 l1_10.length l1_10) (hc1_10 : l1_10.length ≤ c1_10) (hr1_13 : Kd.C (Kd.int .u8) w A1_13 l1_13.length l1_13) (hc1_13 : l1_13.length ≤ c1_13) (hr1_14 : Kd.C k59 w A1_14 l1_14.length l1_14) (hc1_14 : l1_14.length ≤ c1_14) (h : laws_eqEnd.f k a0_0 a0_1 a0_2 a0_3 a0_4 a0_5 a0_6 l0_7 a0_8 a0_9 l0_10 a0_11 a0_12 l0_13 l0_14 a0_15 a0_16 a0_17 a0_18 a0_19 a0_20 a0_21 a0_22 a0_23 a1_0 a1_1 a1_2 a1_3 a1_4 a1_5 a1_6 l1_7 a1_8 a1_9 l1_10 a1_11 a1_12 l1_13 l1_14 a1_15 a1_16 a1_17 a1_18 a1_19 a1_20 a1_21 a1_22 a1_23 = some r) :
    Calls Try.prog 7 #[.agg #[.int .i64 a0_0, .int .i64 a0_1, .int .i64 a0_2, .int .i64 a0_3, .int .i64 a0_4, .int .i64 a0_5, .int .i64 a0_6, .slice A0_7 l0_7.length c0_7, .int .i64 a0_8, .int .i64 a0_9, .slice A0_10 l0_10.length c0_10, .int .i64 a0_11, .int .i64 a0_12, .slice A0_13 l0_13.length c0_13, .slice A0_14 l0_14.length c0_14, .bool a0_15, .bool a0_16, .bool a0_17, .int .i64 a0_18, .int .i64 a0_19, .int .i64 a0_20, .int .i64 a0_21, .int .i64 a0_22, .int .i64 a0_23], .agg #[.int .i64 a1_0, .int .i64 a1_1, .int .i64 a1_2, .int .i64 a1_3, .int .i64 a1_4, .int .i64 a1_5, .int .i64 a1_6, .slice A1_7 l1_7.length c1_7, .int .i64 a1_8, .int .i64 a1_9, .slice A1_10 l1_10.length c1_10, .int .i64 a1_11, .int .i64 a1_12, .slice A1_13 l1_13.length c1_13, .slice A1_14 l1_14.length c1_14, .bool a1_15, .bool a1_16, .bool a1_17, .int .i64 a1_18, .int .i64 a1_19, .int .i64 a1_20, .int .i64 a1_21, .int .i64 a1_22, .int .i64 a1_23]] w fun e w' => e = .returned (.bool r) ∧ Below w.heap.size w w' := by
  have hu32 := Try.underlying32
  have hu25 := Try.underlying25
  have hu28 := Try.underlying28
  have hu30 := Try.underlying30
  have HR0_7 := Aside0.mk hr0_7
  have HC0_7 := Aside0.mk hc0_7
  clear hr0_7 hc0_7
  have HR0_10 := Aside0.mk hr0_10
  have HC0_10 := Aside0.mk hc0_10
  clear hr0_10 hc0_10
  have HR0_13 := Aside0.mk hr0_13
  have HC0_13 := Aside0.mk hc0_13
  clear hr0_13 hc0_13
  have HR0_14 := Aside0.mk hr0_14
  have HC0_14 := Aside0.mk hc0_14
  clear hr0_14 hc0_14
  have HR1_7 := Aside0.mk hr1_7
  have HC1_7 := Aside0.mk hc1_7
  clear hr1_7 hc1_7
  have HR1_10 := Aside0.mk hr1_10
  have HC1_10 := Aside0.mk hc1_10
  clear hr1_10 hc1_10
  have HR1_13 := Aside0.mk hr1_13
  have HC1_13 := Aside0.mk hc1_13
  clear hr1_13 hc1_13
  have HR1_14 := Aside0.mk hr1_14
  have HC1_14 := Aside0.mk hc1_14
  clear hr1_14 hc1_14
  have HB := Aside0.mk (Below.refl w.heap.size w)
  have H : (if a0_0 = a1_0 then (if a0_1 = a1_1 then (if a0_2 = a1_2 then (if a0_3 = a1_3 then (if a0_4 = a1_4 then (if a0_5 = a1_5 then ((laws_eqMouth.f k a0_6 l0_7 a0_8 a0_9 l0_10 a1_6 l1_7 a1_8 a1_9 l1_10).bind fun t178 => (if t178 = true then ((laws_eqEar.f k a0_11 a0_12 l0_13 l0_14 a1_11 a1_12 l1_13 l1_14).bind fun t179 => (if t179 = true then (if (a0_15 != a1_15) = true then (some false) else (if (a0_16 != a1_16) = true then (some false) else (if (a0_17 != a1_17) = true then (some false) else (if a0_18 = a1_18 then (if a0_19 = a1_19 then (if a0_20 = a1_20 then ((laws_eqClock.f a0_21 a0_22 a0_23 a1_21 a1_22 a1_23).bind fun t180 => (if t180 = true then (some true) else (some false))) else (some false)) else (some false)) else (some false))))) else (some false))) else (some false))) else (some false)) else (some false)) else (some false)) else (some false)) else (some false)) else (some false)) = some r := h
  clear h
  by_cases c3 : a0_0 = a1_0
  rw [if_pos c3] at H
  have c3b0 : (a0_0 == a1_0) = true := beq_iff_eq.mpr c3
  have c3b1 : (a0_0 != a1_0) = false := bne_eq_false_iff_eq.mpr c3
  clear c3
  by_cases c4 : a0_1 = a1_1
  rw [if_pos c4] at H
  have c4b0 : (a0_1 == a1_1) = true := beq_iff_eq.mpr c4
  have c4b1 : (a0_1 != a1_1) = false := bne_eq_false_iff_eq.mpr c4
  clear c4
  by_cases c5 : a0_2 = a1_2
  rw [if_pos c5] at H
  have c5b0 : (a0_2 == a1_2) = true := beq_iff_eq.mpr c5
  have c5b1 : (a0_2 != a1_2) = false := bne_eq_false_iff_eq.mpr c5
  clear c5
  by_cases c6 : a0_3 = a1_3
  rw [if_pos c6] at H
  have c6b0 : (a0_3 == a1_3) = true := beq_iff_eq.mpr c6
  have c6b1 : (a0_3 != a1_3) = false := bne_eq_false_iff_eq.mpr c6
  clear c6
  by_cases c7 : a0_4 = a1_4
  rw [if_pos c7] at H
  have c7b0 : (a0_4 == a1_4) = true := beq_iff_eq.mpr c7
  have c7b1 : (a0_4 != a1_4) = false := bne_eq_false_iff_eq.mpr c7
  clear c7
  by_cases c8 : a0_5 = a1_5
  rw [if_pos c8] at H
  have c8b0 : (a0_5 == a1_5) = true := beq_iff_eq.mpr c8
  have c8b1 : (a0_5 != a1_5) = false := bne_eq_false_iff_eq.mpr c8
  clear c8
  replace H := Option.bind_eq_some_iff.mp H
  obtain ⟨t178, A90, H⟩ := H
  have A9 := Aside0.mk A90
  clear A90
  by_cases c10 : t178 = true
  subst c10
  rw [if_pos rfl] at H
  replace H := Option.bind_eq_some_iff.mp H
  obtain ⟨t179, A110, H⟩ := H
  have A11 := Aside0.mk A110
  clear A110
  by_cases c12 : t179 = true
  subst c12
  rw [if_pos rfl] at H
  by_cases c13 : (a0_15 != a1_15) = true
  rw [if_pos c13] at H
  have c13b0 : (a0_15 != a1_15) = true := c13
  (try (have c13b1 : decide (a0_15 = a1_15) = false := by simpa using c13))
  (try (have c13b2 : (a0_15 == a1_15) = false := by simpa using c13))
  (try (have c13b3 : ¬ (a0_15 = a1_15) := by simpa using c13))
  clear c13
  obtain rfl := Option.some.inj H
  rotate_left
  rw [if_neg c13] at H
  have c13b0 : (a0_15 != a1_15) = false := by simpa using c13
  (try (have c13b1 : decide (a0_15 = a1_15) = true := by simpa using c13))
  (try (have c13b2 : (a0_15 == a1_15) = true := by simpa using c13))
  clear c13
  by_cases c25 : (a0_16 != a1_16) = true
  rw [if_pos c25] at H
  have c25b0 : (a0_16 != a1_16) = true := c25
  (try (have c25b1 : decide (a0_16 = a1_16) = false := by simpa using c25))
  (try (have c25b2 : (a0_16 == a1_16) = false := by simpa using c25))
  (try (have c25b3 : ¬ (a0_16 = a1_16) := by simpa using c25))
  clear c25
  obtain rfl := Option.some.inj H
  rotate_left
  rw [if_neg c25] at H
  have c25b0 : (a0_16 != a1_16) = false := by simpa using c25
  (try (have c25b1 : decide (a0_16 = a1_16) = true := by simpa using c25))
  (try (have c25b2 : (a0_16 == a1_16) = true := by simpa using c25))
  clear c25
  by_cases c37 : (a0_17 != a1_17) = true
  rw [if_pos c37] at H
  have c37b0 : (a0_17 != a1_17) = true := c37
  (try (have c37b1 : decide (a0_17 = a1_17) = false := by simpa using c37))
  (try (have c37b2 : (a0_17 == a1_17) = false := by simpa using c37))
  (try (have c37b3 : ¬ (a0_17 = a1_17) := by simpa using c37))
  clear c37
  obtain rfl := Option.some.inj H
  rotate_left
  rw [if_neg c37] at H
  have c37b0 : (a0_17 != a1_17) = false := by simpa using c37
  (try (have c37b1 : decide (a0_17 = a1_17) = true := by simpa using c37))
  (try (have c37b2 : (a0_17 == a1_17) = true := by simpa using c37))
  clear c37
  by_cases c49 : a0_18 = a1_18
  rw [if_pos c49] at H
  have c49b0 : (a0_18 == a1_18) = true := beq_iff_eq.mpr c49
  have c49b1 : (a0_18 != a1_18) = false := bne_eq_false_iff_eq.mpr c49
  clear c49
  by_cases c50 : a0_19 = a1_19
  rw [if_pos c50] at H
  have c50b0 : (a0_19 == a1_19) = true := beq_iff_eq.mpr c50
  have c50b1 : (a0_19 != a1_19) = false := bne_eq_false_iff_eq.mpr c50
  clear c50
  by_cases c51 : a0_20 = a1_20
  rw [if_pos c51] at H
  have c51b0 : (a0_20 == a1_20) = true := beq_iff_eq.mpr c51
  have c51b1 : (a0_20 != a1_20) = false := bne_eq_false_iff_eq.mpr c51
  clear c51
  replace H := Option.bind_eq_some_iff.mp H
  obtain ⟨t180, A520, H⟩ := H
  have A52 := Aside0.mk A520
  clear A520
  by_cases c53 : t180 = true
  subst c53
  rw [if_pos rfl] at H
  obtain rfl := Option.some.inj H
  rotate_left
  replace c53 := Bool.eq_false_iff.mpr c53
  subst c53
  rw [if_neg (show ¬ (false = true) by decide)] at H
  obtain rfl := Option.some.inj H
  rotate_left
  rw [if_neg c51] at H
  have c51b0 : (a0_20 == a1_20) = false := beq_eq_false_iff_ne.mpr c51
  have c51b1 : (a0_20 != a1_20) = true := bne_iff_ne.mpr c51
  obtain rfl := Option.some.inj H
  rotate_left
  rw [if_neg c50] at H
  have c50b0 : (a0_19 == a1_19) = false := beq_eq_false_iff_ne.mpr c50
  have c50b1 : (a0_19 != a1_19) = true := bne_iff_ne.mpr c50
  obtain rfl := Option.some.inj H
  rotate_left
  rw [if_neg c49] at H
  have c49b0 : (a0_18 == a1_18) = false := beq_eq_false_iff_ne.mpr c49
  have c49b1 : (a0_18 != a1_18) = true := bne_iff_ne.mpr c49
  obtain rfl := Option.some.inj H
  rotate_left
  replace c12 := Bool.eq_false_iff.mpr c12
  subst c12
  rw [if_neg (show ¬ (false = true) by decide)] at H
  obtain rfl := Option.some.inj H
  rotate_left
  replace c10 := Bool.eq_false_iff.mpr c10
  subst c10
  rw [if_neg (show ¬ (false = true) by decide)] at H
  obtain rfl := Option.some.inj H
  rotate_left
  rw [if_neg c8] at H
  have c8b0 : (a0_5 == a1_5) = false := beq_eq_false_iff_ne.mpr c8
  have c8b1 : (a0_5 != a1_5) = true := bne_iff_ne.mpr c8
  obtain rfl := Option.some.inj H
  rotate_left
  rw [if_neg c7] at H
  have c7b0 : (a0_4 == a1_4) = false := beq_eq_false_iff_ne.mpr c7
  have c7b1 : (a0_4 != a1_4) = true := bne_iff_ne.mpr c7
  obtain rfl := Option.some.inj H
  rotate_left
  rw [if_neg c6] at H
  have c6b0 : (a0_3 == a1_3) = false := beq_eq_false_iff_ne.mpr c6
  have c6b1 : (a0_3 != a1_3) = true := bne_iff_ne.mpr c6
  obtain rfl := Option.some.inj H
  rotate_left
  rw [if_neg c5] at H
  have c5b0 : (a0_2 == a1_2) = false := beq_eq_false_iff_ne.mpr c5
  have c5b1 : (a0_2 != a1_2) = true := bne_iff_ne.mpr c5
  obtain rfl := Option.some.inj H
  rotate_left
  rw [if_neg c4] at H
  have c4b0 : (a0_1 == a1_1) = false := beq_eq_false_iff_ne.mpr c4
  have c4b1 : (a0_1 != a1_1) = true := bne_iff_ne.mpr c4
  obtain rfl := Option.some.inj H
  rotate_left
  rw [if_neg c3] at H
  have c3b0 : (a0_0 == a1_0) = false := beq_eq_false_iff_ne.mpr c3
  have c3b1 : (a0_0 != a1_0) = true := bne_iff_ne.mpr c3
  obtain rfl := Option.some.inj H
  rotate_left
  all_goals (as_aux_lemma =>
   go_enter Try.func7, Try.ntmps7
   go_wp2_with (first | ((with_reducible refine gate_dst (N := 2) rfl ?_); refine box_event ?hg (N := 2) ?hd (cs := #[.int .i64 a0_0, .int .i64 a0_1, .int .i64 a0_2, .int .i64 a0_3, .int .i64 a0_4, .int .i64 a0_5, .int .i64 a0_6, .slice A0_7 l0_7.length c0_7, .int .i64 a0_8, .int .i64 a0_9, .slice A0_10 l0_10.length c0_10, .int .i64 a0_11, .int .i64 a0_12, .slice A0_13 l0_13.length c0_13, .slice A0_14 l0_14.length c0_14, .bool a0_15, .bool a0_16, .bool a0_17, .int .i64 a0_18, .int .i64 a0_19, .int .i64 a0_20, .int .i64 a0_21, .int .i64 a0_22, .int .i64 a0_23]) (t := 32) ?hr ?_; (case hd => rfl); (case hg => rfl); (case hr => exact z_0); intro gb176 hg w66 hbox hb; have n0_ := Aside0.mk (below_step (z_1) hb); have n1_ := Aside0.mk (hbox); have n2_ := Aside0.mk ((z_2 : w.heap.size ≤ gb176)); have n3_ := Aside0.mk ((z_2 : w.heap.size ≤ gb176)); clear HB; have HB := n0_; have BK176 := n1_; have GW176 := n2_; have GE176 := n3_; clear n0_ n1_ n2_ n3_; clear hb hbox hg) | ((with_reducible refine gate_dst (N := 3) rfl ?_); refine box_event ?hg (N := 3) ?hd (cs := #[.int .i64 a1_0, .int .i64 a1_1, .int .i64 a1_2, .int .i64 a1_3, .int .i64 a1_4, .int .i64 a1_5, .int .i64 a1_6, .slice A1_7 l1_7.length c1_7, .int .i64 a1_8, .int .i64 a1_9, .slice A1_10 l1_10.length c1_10, .int .i64 a1_11, .int .i64 a1_12, .slice A1_13 l1_13.length c1_13, .slice A1_14 l1_14.length c1_14, .bool a1_15, .bool a1_16, .bool a1_17, .int .i64 a1_18, .int .i64 a1_19, .int .i64 a1_20, .int .i64 a1_21, .int .i64 a1_22, .int .i64 a1_23]) (t := 32) ?hr ?_; (case hd => rfl); (case hg => rfl); (case hr => exact z_0); intro gb177 hg w67 hbox hb; have n0_ := Aside0.mk (blk_below (g := gb176) (o := .cells #[.int .i64 a0_0, .int .i64 a0_1, .int .i64 a0_2, .int .i64 a0_3, .int .i64 a0_4, .int .i64 a0_5, .int .i64 a0_6, .slice A0_7 l0_7.length c0_7, .int .i64 a0_8, .int .i64 a0_9, .slice A0_10 l0_10.length c0_10, .int .i64 a0_11, .int .i64 a0_12, .slice A0_13 l0_13.length c0_13, .slice A0_14 l0_14.length c0_14, .bool a0_15, .bool a0_16, .bool a0_17, .int .i64 a0_18, .int .i64 a0_19, .int .i64 a0_20, .int .i64 a0_21, .int .i64 a0_22, .int .i64 a0_23] 32 (0, 0)) (z_70) hb); have n1_ := Aside0.mk (below_step (z_71) hb); have n2_ := Aside0.mk (hbox); have n3_ := Aside0.mk ((z_72 : w.heap.size ≤ gb177)); have n4_ := Aside0.mk ((z_72 : w.heap.size ≤ gb177)); have n5_ := Aside0.mk ((by rw [hg]; exact Nat.ne_of_lt (blk_lt (g := gb176) (o := .cells #[.int .i64 a0_0, .int .i64 a0_1, .int .i64 a0_2, .int .i64 a0_3, .int .i64 a0_4, .int .i64 a0_5, .int .i64 a0_6, .slice A0_7 l0_7.length c0_7, .int .i64 a0_8, .int .i64 a0_9, .slice A0_10 l0_10.length c0_10, .int .i64 a0_11, .int .i64 a0_12, .slice A0_13 l0_13.length c0_13, .slice A0_14 l0_14.length c0_14, .bool a0_15, .bool a0_16, .bool a0_17, .int .i64 a0_18, .int .i64 a0_19, .int .i64 a0_20, .int .i64 a0_21, .int .i64 a0_22, .int .i64 a0_23] 32 (0, 0)) (z_70)) : gb176 ≠ gb177)); have n6_ := Aside0.mk ((by rw [hg]; exact Nat.ne_of_gt (blk_lt (g := gb176) (o := .cells #[.int .i64 a0_0, .int .i64 a0_1, .int .i64 a0_2, .int .i64 a0_3, .int .i64 a0_4, .int .i64 a0_5, .int .i64 a0_6, .slice A0_7 l0_7.length c0_7, .int .i64 a0_8, .int .i64 a0_9, .slice A0_10 l0_10.length c0_10, .int .i64 a0_11, .int .i64 a0_12, .slice A0_13 l0_13.length c0_13, .slice A0_14 l0_14.length c0_14, .bool a0_15, .bool a0_16, .bool a0_17, .int .i64 a0_18, .int .i64 a0_19, .int .i64 a0_20, .int .i64 a0_21, .int .i64 a0_22, .int .i64 a0_23] 32 (0, 0)) (z_70)) : gb177 ≠ gb176)); clear BK176; clear HB; have BK176 := n0_; have HB := n1_; have BK177 := n2_; have GW177 := n3_; have GE177 := n4_; have NB176_177 := n5_; have NB177_176 := n6_; clear n0_ n1_ n2_ n3_ n4_ n5_ n6_; clear hb hbox hg; have hnb68 := NB176_177.out; have hnc68 := NB177_176.out; obtain ⟨hcz69_0, hcz69_1, hcz69_2, hcz69_3, hcz69_4, hcz69_5, hcz69_6, hcz69_7, hcz69_8, hcz69_9, hcz69_10, hcz69_11, hcz69_12, hcz69_13, hcz69_14, hcz69_15, hcz69_16, hcz69_17, hcz69_18, hcz69_19, hcz69_20, hcz69_21, hcz69_22, hcz69_23, hfz69_0, hfz69_1, hfz69_2, hfz69_3, hfz69_4, hfz69_5, hfz69_6, hfz69_7, hfz69_8, hfz69_9, hfz69_10, hfz69_11, hfz69_12, hfz69_13, hfz69_14, hfz69_15, hfz69_16, hfz69_17, hfz69_18, hfz69_19, hfz69_20, hfz69_21, hfz69_22, hfz69_23⟩ := cells_24 BK176.out; obtain ⟨hcz70_0, hcz70_1, hcz70_2, hcz70_3, hcz70_4, hcz70_5, hcz70_6, hcz70_7, hcz70_8, hcz70_9, hcz70_10, hcz70_11, hcz70_12, hcz70_13, hcz70_14, hcz70_15, hcz70_16, hcz70_17, hcz70_18, hcz70_19, hcz70_20, hcz70_21, hcz70_22, hcz70_23, hfz70_0, hfz70_1, hfz70_2, hfz70_3, hfz70_4, hfz70_5, hfz70_6, hfz70_7, hfz70_8, hfz70_9, hfz70_10, hfz70_11, hfz70_12, hfz70_13, hfz70_14, hfz70_15, hfz70_16, hfz70_17, hfz70_18, hfz70_19, hfz70_20, hfz70_21, hfz70_22, hfz70_23⟩ := cells_24 BK177.out) | ((with_reducible refine gate_callee (f := 20) rfl ?_); refine goesL_ (some 39) rfl rfl Try.func20 (z_3) rfl #[.agg #[.int .i64 a0_6, .slice A0_7 l0_7.length c0_7, .int .i64 a0_8, .int .i64 a0_9, .slice A0_10 l0_10.length c0_10], .agg #[.int .i64 a1_6, .slice A1_7 l1_7.length c1_7, .int .i64 a1_8, .int .i64 a1_9, .slice A1_10 l1_10.length c1_10]] rfl (z_20) ?_; (with_reducible refine (laws_eqMouth.calls k a0_6 _ _ l0_7 a0_8 a0_9 _ _ l0_10 a1_6 _ _ l1_7 a1_8 a1_9 _ _ l1_10 _ _ ?side1 ?side2 ?side3 ?side4 ?side5 ?side6 ?side7 ?side8 A9.out).mono ?_); (case side1 => exact z_25); (case side2 => exact HC0_7.out); (case side3 => exact z_26); (case side4 => exact HC0_10.out); (case side5 => repeat (first | exact (Kd.C_below HR1_7.out HB.out) | (with_reducible refine Kd.C_alloc ?_ _) | (with_reducible refine Kd.C_drewN ?_ _) | (with_reducible refine Kd.C_drew ?_))); (case side6 => exact HC1_7.out); (case side7 => repeat (first | exact (Kd.C_below HR1_10.out HB.out) | (with_reducible refine Kd.C_alloc ?_ _) | (with_reducible refine Kd.C_drewN ?_ _) | (with_reducible refine Kd.C_drew ?_))); (case side8 => exact HC1_10.out); rintro e w71 ⟨rfl, hb⟩; refine ⟨_, rfl, ?_⟩; have n0_ := Aside0.mk (blk_below (g := gb176) (o := .cells #[.int .i64 a0_0, .int .i64 a0_1, .int .i64 a0_2, .int .i64 a0_3, .int .i64 a0_4, .int .i64 a0_5, .int .i64 a0_6, .slice A0_7 l0_7.length c0_7, .int .i64 a0_8, .int .i64 a0_9, .slice A0_10 l0_10.length c0_10, .int .i64 a0_11, .int .i64 a0_12, .slice A0_13 l0_13.length c0_13, .slice A0_14 l0_14.length c0_14, .bool a0_15, .bool a0_16, .bool a0_17, .int .i64 a0_18, .int .i64 a0_19, .int .i64 a0_20, .int .i64 a0_21, .int .i64 a0_22, .int .i64 a0_23] 32 (0, 0)) (z_70) hb); have n1_ := Aside0.mk (blk_below (g := gb177) (o := .cells #[.int .i64 a1_0, .int .i64 a1_1, .int .i64 a1_2, .int .i64 a1_3, .int .i64 a1_4, .int .i64 a1_5, .int .i64 a1_6, .slice A1_7 l1_7.length c1_7, .int .i64 a1_8, .int .i64 a1_9, .slice A1_10 l1_10.length c1_10, .int .i64 a1_11, .int .i64 a1_12, .slice A1_13 l1_13.length c1_13, .slice A1_14 l1_14.length c1_14, .bool a1_15, .bool a1_16, .bool a1_17, .int .i64 a1_18, .int .i64 a1_19, .int .i64 a1_20, .int .i64 a1_21, .int .i64 a1_22, .int .i64 a1_23] 32 (0, 0)) (z_73) hb); have n2_ := Aside0.mk (below_step (z_74) hb); clear BK176; clear BK177; clear HB; have BK176 := n0_; have BK177 := n1_; have HB := n2_; clear n0_ n1_ n2_; (try clear hb); (try clear hb2); (try clear hk); (try clear hi); obtain ⟨hcz72_0, hcz72_1, hcz72_2, hcz72_3, hcz72_4, hcz72_5, hcz72_6, hcz72_7, hcz72_8, hcz72_9, hcz72_10, hcz72_11, hcz72_12, hcz72_13, hcz72_14, hcz72_15, hcz72_16, hcz72_17, hcz72_18, hcz72_19, hcz72_20, hcz72_21, hcz72_22, hcz72_23, hfz72_0, hfz72_1, hfz72_2, hfz72_3, hfz72_4, hfz72_5, hfz72_6, hfz72_7, hfz72_8, hfz72_9, hfz72_10, hfz72_11, hfz72_12, hfz72_13, hfz72_14, hfz72_15, hfz72_16, hfz72_17, hfz72_18, hfz72_19, hfz72_20, hfz72_21, hfz72_22, hfz72_23⟩ := cells_24 BK176.out; obtain ⟨hcz73_0, hcz73_1, hcz73_2, hcz73_3, hcz73_4, hcz73_5, hcz73_6, hcz73_7, hcz73_8, hcz73_9, hcz73_10, hcz73_11, hcz73_12, hcz73_13, hcz73_14, hcz73_15, hcz73_16, hcz73_17, hcz73_18, hcz73_19, hcz73_20, hcz73_21, hcz73_22, hcz73_23, hfz73_0, hfz73_1, hfz73_2, hfz73_3, hfz73_4, hfz73_5, hfz73_6, hfz73_7, hfz73_8, hfz73_9, hfz73_10, hfz73_11, hfz73_12, hfz73_13, hfz73_14, hfz73_15, hfz73_16, hfz73_17, hfz73_18, hfz73_19, hfz73_20, hfz73_21, hfz73_22, hfz73_23⟩ := cells_24 BK177.out) | ((with_reducible refine gate_callee (f := 21) rfl ?_); refine goesL_ (some 45) rfl rfl Try.func21 (z_3) rfl #[.agg #[.int .i64 a0_11, .int .i64 a0_12, .slice A0_13 l0_13.length c0_13, .slice A0_14 l0_14.length c0_14], .agg #[.int .i64 a1_11, .int .i64 a1_12, .slice A1_13 l1_13.length c1_13, .slice A1_14 l1_14.length c1_14]] rfl (z_20) ?_; (with_reducible refine (laws_eqEar.calls k a0_11 a0_12 _ _ l0_13 _ _ l0_14 a1_11 a1_12 _ _ l1_13 _ _ l1_14 _ _ ?side1 ?side2 ?side3 ?side4 ?side5 ?side6 ?side7 ?side8 A11.out).mono ?_); (case side1 => exact z_27); (case side2 => exact HC0_13.out); (case side3 => exact z_28); (case side4 => exact HC0_14.out); (case side5 => repeat (first | exact (Kd.C_below HR1_13.out HB.out) | (with_reducible refine Kd.C_alloc ?_ _) | (with_reducible refine Kd.C_drewN ?_ _) | (with_reducible refine Kd.C_drew ?_))); (case side6 => exact HC1_13.out); (case side7 => repeat (first | exact (Kd.C_below HR1_14.out HB.out) | (with_reducible refine Kd.C_alloc ?_ _) | (with_reducible refine Kd.C_drewN ?_ _) | (with_reducible refine Kd.C_drew ?_))); (case side8 => exact HC1_14.out); rintro e w74 ⟨rfl, hb⟩; refine ⟨_, rfl, ?_⟩; have n0_ := Aside0.mk (blk_below (g := gb176) (o := .cells #[.int .i64 a0_0, .int .i64 a0_1, .int .i64 a0_2, .int .i64 a0_3, .int .i64 a0_4, .int .i64 a0_5, .int .i64 a0_6, .slice A0_7 l0_7.length c0_7, .int .i64 a0_8, .int .i64 a0_9, .slice A0_10 l0_10.length c0_10, .int .i64 a0_11, .int .i64 a0_12, .slice A0_13 l0_13.length c0_13, .slice A0_14 l0_14.length c0_14, .bool a0_15, .bool a0_16, .bool a0_17, .int .i64 a0_18, .int .i64 a0_19, .int .i64 a0_20, .int .i64 a0_21, .int .i64 a0_22, .int .i64 a0_23] 32 (0, 0)) (z_70) hb); have n1_ := Aside0.mk (blk_below (g := gb177) (o := .cells #[.int .i64 a1_0, .int .i64 a1_1, .int .i64 a1_2, .int .i64 a1_3, .int .i64 a1_4, .int .i64 a1_5, .int .i64 a1_6, .slice A1_7 l1_7.length c1_7, .int .i64 a1_8, .int .i64 a1_9, .slice A1_10 l1_10.length c1_10, .int .i64 a1_11, .int .i64 a1_12, .slice A1_13 l1_13.length c1_13, .slice A1_14 l1_14.length c1_14, .bool a1_15, .bool a1_16, .bool a1_17, .int .i64 a1_18, .int .i64 a1_19, .int .i64 a1_20, .int .i64 a1_21, .int .i64 a1_22, .int .i64 a1_23] 32 (0, 0)) (z_73) hb); have n2_ := Aside0.mk (below_step (z_74) hb); clear BK176; clear BK177; clear HB; have BK176 := n0_; have BK177 := n1_; have HB := n2_; clear n0_ n1_ n2_; (try clear hb); (try clear hb2); (try clear hk); (try clear hi); obtain ⟨hcz75_0, hcz75_1, hcz75_2, hcz75_3, hcz75_4, hcz75_5, hcz75_6, hcz75_7, hcz75_8, hcz75_9, hcz75_10, hcz75_11, hcz75_12, hcz75_13, hcz75_14, hcz75_15, hcz75_16, hcz75_17, hcz75_18, hcz75_19, hcz75_20, hcz75_21, hcz75_22, hcz75_23, hfz75_0, hfz75_1, hfz75_2, hfz75_3, hfz75_4, hfz75_5, hfz75_6, hfz75_7, hfz75_8, hfz75_9, hfz75_10, hfz75_11, hfz75_12, hfz75_13, hfz75_14, hfz75_15, hfz75_16, hfz75_17, hfz75_18, hfz75_19, hfz75_20, hfz75_21, hfz75_22, hfz75_23⟩ := cells_24 BK176.out; obtain ⟨hcz76_0, hcz76_1, hcz76_2, hcz76_3, hcz76_4, hcz76_5, hcz76_6, hcz76_7, hcz76_8, hcz76_9, hcz76_10, hcz76_11, hcz76_12, hcz76_13, hcz76_14, hcz76_15, hcz76_16, hcz76_17, hcz76_18, hcz76_19, hcz76_20, hcz76_21, hcz76_22, hcz76_23, hfz76_0, hfz76_1, hfz76_2, hfz76_3, hfz76_4, hfz76_5, hfz76_6, hfz76_7, hfz76_8, hfz76_9, hfz76_10, hfz76_11, hfz76_12, hfz76_13, hfz76_14, hfz76_15, hfz76_16, hfz76_17, hfz76_18, hfz76_19, hfz76_20, hfz76_21, hfz76_22, hfz76_23⟩ := cells_24 BK177.out) | ((with_reducible refine gate_callee (f := 22) rfl ?_); refine goesL_ (some 81) rfl rfl Try.func22 (z_3) rfl #[.agg #[.int .i64 a0_21, .int .i64 a0_22, .int .i64 a0_23], .agg #[.int .i64 a1_21, .int .i64 a1_22, .int .i64 a1_23]] rfl (z_20) ?_; (with_reducible refine (laws_eqClock.calls a0_21 a0_22 a0_23 a1_21 a1_22 a1_23 _ _ A52.out).mono ?_); rintro e w77 ⟨rfl, hb⟩; refine ⟨_, rfl, ?_⟩; have n0_ := Aside0.mk (blk_below (g := gb176) (o := .cells #[.int .i64 a0_0, .int .i64 a0_1, .int .i64 a0_2, .int .i64 a0_3, .int .i64 a0_4, .int .i64 a0_5, .int .i64 a0_6, .slice A0_7 l0_7.length c0_7, .int .i64 a0_8, .int .i64 a0_9, .slice A0_10 l0_10.length c0_10, .int .i64 a0_11, .int .i64 a0_12, .slice A0_13 l0_13.length c0_13, .slice A0_14 l0_14.length c0_14, .bool a0_15, .bool a0_16, .bool a0_17, .int .i64 a0_18, .int .i64 a0_19, .int .i64 a0_20, .int .i64 a0_21, .int .i64 a0_22, .int .i64 a0_23] 32 (0, 0)) (z_70) hb); have n1_ := Aside0.mk (blk_below (g := gb177) (o := .cells #[.int .i64 a1_0, .int .i64 a1_1, .int .i64 a1_2, .int .i64 a1_3, .int .i64 a1_4, .int .i64 a1_5, .int .i64 a1_6, .slice A1_7 l1_7.length c1_7, .int .i64 a1_8, .int .i64 a1_9, .slice A1_10 l1_10.length c1_10, .int .i64 a1_11, .int .i64 a1_12, .slice A1_13 l1_13.length c1_13, .slice A1_14 l1_14.length c1_14, .bool a1_15, .bool a1_16, .bool a1_17, .int .i64 a1_18, .int .i64 a1_19, .int .i64 a1_20, .int .i64 a1_21, .int .i64 a1_22, .int .i64 a1_23] 32 (0, 0)) (z_73) hb); have n2_ := Aside0.mk (below_step (z_74) hb); clear BK176; clear BK177; clear HB; have BK176 := n0_; have BK177 := n1_; have HB := n2_; clear n0_ n1_ n2_; (try clear hb); (try clear hb2); (try clear hk); (try clear hi)))
   go_ret
   exact ⟨z_4, z_74⟩)

/-! ### laws_markByteS: function 46 -/
def laws_markByteS.l0 : Nat → List Int → Int → Int → Option (Int × List Int)
  | 0, _, _, _ => none
  | k + 1, x0, x1, x5 => if x5 < (x0.length : Int) then (if 0 ≤ x5 then (laws_markByteS.l0 k (x0.set (x5 : Int).toNat ((x1) % 256)) (wrap64 (x1 + 1)) (wrap64 (x5 + 1))) else (none)) else (some (x1, x0))
def laws_markByteS.f (k : Nat) (l0 : List Int) (a1 : Int) : Option (Int × List Int) := laws_markByteS.l0 k l0 a1 0
theorem laws_markByteS.mono_l : ∀ k, (∀ y0 y1 y2, LeO (laws_markByteS.l0 k y0 y1 y2) (laws_markByteS.l0 (k + 1) y0 y1 y2))
  | 0 => fun _ _ _ r h => by simp [laws_markByteS.l0] at h
  | k + 1 => by
    have ih0 := laws_markByteS.mono_l k
    · intro y0 y1 y2
      unfold laws_markByteS.l0
      repeat' first
      | (with_reducible exact ih0 _ _ _)
      | (with_reducible exact LeO.refl _)
      | (with_reducible exact LeO.none _)
      | (with_reducible refine LeO.ite ?_ ?_)
      | (with_reducible refine LeO.bind ?_ (fun _ => ?_))
      | exact ih0 _ _ _
      | exact LeO.none _
      | refine LeO.ite ?_ ?_
      | refine LeO.bind ?_ (fun _ => ?_)
theorem laws_markByteS.mono : ∀ a0 a1 k, LeO (laws_markByteS.f k a0 a1) (laws_markByteS.f (k + 1) a0 a1) := by
  intro a0 a1 k
  have ih0 := laws_markByteS.mono_l k
  unfold laws_markByteS.f
  repeat' first
      | (with_reducible exact ih0 _ _ _)
      | (with_reducible exact LeO.refl _)
      | (with_reducible exact LeO.none _)
      | (with_reducible refine LeO.ite ?_ ?_)
      | (with_reducible refine LeO.bind ?_ (fun _ => ?_))
      | exact ih0 _ _ _
      | exact LeO.none _
      | refine LeO.ite ?_ ?_
      | refine LeO.bind ?_ (fun _ => ?_)
set_option maxHeartbeats 8000000 in
set_option maxRecDepth 100000 in
theorem laws_markByteS.calls (k : Nat) (P0_ : Nat → Prop) (u9000_ : Value) (l0 : List Int) (a1 : Int) (r1 : Int) (r2 : List Int) (w0 w : World) (hB : Below w0.heap.size w0 w) (ho0 : Kd.R (Kd.int .u8) 5 w w0.heap.size P0_ u9000_ l0) (h : laws_markByteS.f k l0 a1 = some (r1, r2)) :
    Calls Try.prog 46 #[u9000_, .int .i64 a1] w fun e w' => e = .returned (.int .i64 r1) ∧ Kd.R (Kd.int .u8) 5 w' w0.heap.size (fun k_ => (P0_ k_ ∨ w.heap.size ≤ k_)) u9000_ r2 ∧ Below w0.heap.size w0 w' ∧ Kept w w' (fun k_ => P0_ k_) := by
  have HO0 := Aside0.mk (show Kd.R (Kd.int .u8) 5 w w0.heap.size (fun k_ => (P0_ k_ ∨ w.heap.size ≤ k_)) u9000_ l0 from Kd.R_mono ho0 (fun k_ hk => (.inl hk)))
  have HK := Aside0.mk (Kept.refl w (fun k_ => P0_ k_))
  have HW0 := Aside0.mk hB.size
  have HB := Aside0.mk hB
  clear hB
  have H : (laws_markByteS.l0 k l0 a1 0) = some (r1, r2) := h
  clear h
  have H' := Aside0.mk H
  clear H
  go_enter Try.func46, Try.ntmps46
  go_wp2
  go_loopg [1, 5] k (fun kq v1 v5 w' => ∃ (x0_1 : List Int) (x1_1 : Int) (x5_1 : Int), v1 = .int .i64 x1_1 ∧ v5 = .int .i64 x5_1 ∧ Aside0 (laws_markByteS.l0 kq x0_1 x1_1 x5_1 = some (r1, r2)) ∧ Aside0 (kq ≤ k) ∧ Aside0 (Kd.R (Kd.int .u8) 5 w' w0.heap.size (fun k_ => (P0_ k_ ∨ w.heap.size ≤ k_)) u9000_ x0_1) ∧ Aside0 (Kept w w' (fun k_ => P0_ k_)) ∧ Aside0 (Below w0.heap.size w0 w'))
  case atStart => exact ⟨(l0), (a1), (0), (z_5), (z_5), H', ⟨Nat.le_refl _⟩, ⟨z_75⟩, ⟨z_76⟩, ⟨z_1⟩⟩
  case round =>
    clear H'
    obtain ⟨x0_1, x1_1, x5_1, rfl, rfl, HA, HK1, HO_0, HK, HB⟩ := hrel
    cases gk with
    | zero => exact absurd HA.out (by simp [laws_markByteS.l0])
    | succ k1 =>
      have H := HA.out
      clear HA
      simp only [laws_markByteS.l0] at H
      by_cases c3 : x5_1 < (x0_1.length : Int)
      rw [if_pos c3] at H
      have c3b0 : decide (x5_1 < (x0_1.length : Int)) = true := decide_eq_true c3
      clear c3
      by_cases c4 : 0 ≤ x5_1
      rw [if_pos c4] at H
      have c4b0 : decide (0 ≤ x5_1) = true := decide_eq_true c4
      clear c4
      obtain ⟨y181, hy181⟩ : ∃ y_ : List Int, y_ = (x0_1.set (x5_1 : Int).toNat ((x1_1) % 256)) := ⟨_, rfl⟩
      replace H : (laws_markByteS.l0 k1 y181 (wrap64 (x1_1 + 1)) (wrap64 (x5_1 + 1))) = some (r1, r2) := by first | (rw [hy181]; with_reducible exact H) | (have H2_ := (Option.bind_some _ _).symm.trans H; rw [hy181]; with_reducible exact H2_) | (have H2_ := (Option.bind_some _ _).symm.trans H; with_reducible exact H2_) | with_reducible exact H | (rw [hy181]; exact H) | exact H
      have Ny181 := Aside0.mk hy181
      clear hy181
      have H' := Aside0.mk H
      clear H
      obtain ⟨Ao6, co6, eo6⟩ := Kd.R_slice HO_0.out
      subst eo6
      have p5 : 0 ≤ (x5_1 : Int) := of_decide_eq_true (z_10)
      have q5 : (x5_1 : Int) < ((x0_1.length : Int) : Int) := of_decide_eq_true (z_10)
      obtain ⟨go5, co5, eo5, gb5, gl5, cl5, HG5⟩ := Kd.R_form HO_0.out (by omega)
      (first | cases eo5 | (injection eo5 with ea_ en_ ec_; (first | subst ea_ | (injection ea_ with ea_; subst ea_)); subst ec_; clear en_))
      have GB5 := Aside0.mk gb5
      have GG5 := Aside0.mk HG5
      clear gb5 gl5 HG5
      have HMgo5 := Aside0.mk (show (P0_ go5 ∨ w.heap.size ≤ go5) from (HO_0.out.1 _ rfl))
      obtain ⟨hx5_0, hf5_0⟩ := Kd.R_celln 0 HO_0.out (x5_1 : Int) p5 q5
      replace p5 := eq_true p5
      replace q5 := eq_true q5
      have HP7 := Kd.R_putg HO_0.out (x5_1 : Int) ((x1_1) % 256)
      rotate_left
      rw [if_neg c4] at H
      exact absurd H (by simp)
      rw [if_neg c3] at H
      have c3b0 : decide (x5_1 < (x0_1.length : Int)) = false := decide_eq_false c3
      clear c3
      simp only [Option.some.injEq, Prod.mk.injEq] at H
      obtain ⟨rfl, rfl⟩ := H
      obtain ⟨Ao9, co9, eo9⟩ := Kd.R_slice HO_0.out
      subst eo9
      rotate_left
      all_goals (
       try go_wp2_with (first | ((with_reducible refine gate_store (t := 5) (p := 16) rfl ?_); refine store_event (t := 5) (p := 16) (v := ?vo_w8) (w1 := (wr.setCell ⟨go5, (x5_1 : Int).toNat, none⟩ (.int .u8 ((x1_1) % 256)))) ?hg ?ho ?hn ?hr ?_; (case ho => rfl); (case hg => rfl); (case hn => rfl); (case hr => exact z_0); intro w8 hw; have hg : wr.grownBy w8 (some go5) := (by rw [hw]; exact HP7.2); have hp_ : Kd.R (Kd.int .u8) 5 w8 w0.heap.size (fun k_ => (P0_ k_ ∨ w.heap.size ≤ k_)) (.slice (some ⟨go5, 0, none⟩) x0_1.length co6) y181 := (by rw [hw, Ny181.out]; exact HP7.1); clear HP7; have n0_ := Aside0.mk (hp_); have n1_ := Aside0.mk ((z_77 : Below w0.heap.size w0 w8)); have n2_ := Aside0.mk (Kept.of_grown (S := (fun k_ => P0_ k_)) hg (z_76) (fun k_ e_ => (HO_0.out.1 k_ e_))); clear HO_0; clear HB; clear HK; have HO_0 := n0_; have HB := n1_; have HK := n2_; clear n0_ n1_ n2_; clear hg hw hp_))
       first
        | (go_roundg k1
           case measure => have := HK1.out; omega
           case rel => exact ⟨(y181), (wrap64 (x1_1 + 1)), (wrap64 (x5_1 + 1)), (z_5), (z_5), H', ⟨z_48⟩, ⟨z_78⟩, ⟨z_76⟩, ⟨z_1⟩⟩)
        | (go_ret
           exact ⟨z_4, z_78, z_1, z_76⟩))

/-! ### laws_markRangeS: function 47 -/
def laws_markRangeS.l0 : Nat → List (S69) → Int → Int → Option (Int × (List (S69)))
  | 0, _, _, _ => none
  | k + 1, x0, x1, x5 => if x5 < (x0.length : Int) then (if 0 ≤ x5 then ((some (x0.set (x5 : Int).toNat (⟨x1, (rd_T69 x0 x5).f1⟩ : S69) : List (S69))).bind fun y182 => (laws_markRangeS.l0 k (y182.set (x5 : Int).toNat (⟨(rd_T69 y182 x5).f0, wrap64 (x1 + 1)⟩ : S69)) (wrap64 ((wrap64 (x1 + 1)) + 1)) (wrap64 (x5 + 1)))) else (none)) else (some (x1, x0))
def laws_markRangeS.f (k : Nat) (l0 : List (S69)) (a1 : Int) : Option (Int × (List (S69))) := laws_markRangeS.l0 k l0 a1 0
theorem laws_markRangeS.mono_l : ∀ k, (∀ y0 y1 y2, LeO (laws_markRangeS.l0 k y0 y1 y2) (laws_markRangeS.l0 (k + 1) y0 y1 y2))
  | 0 => fun _ _ _ r h => by simp [laws_markRangeS.l0] at h
  | k + 1 => by
    have ih0 := laws_markRangeS.mono_l k
    · intro y0 y1 y2
      unfold laws_markRangeS.l0
      repeat' first
      | (with_reducible exact ih0 _ _ _)
      | (with_reducible exact LeO.refl _)
      | (with_reducible exact LeO.none _)
      | (with_reducible refine LeO.ite ?_ ?_)
      | (with_reducible refine LeO.bind ?_ (fun _ => ?_))
      | exact ih0 _ _ _
      | exact LeO.none _
      | refine LeO.ite ?_ ?_
      | refine LeO.bind ?_ (fun _ => ?_)
theorem laws_markRangeS.mono : ∀ a0 a1 k, LeO (laws_markRangeS.f k a0 a1) (laws_markRangeS.f (k + 1) a0 a1) := by
  intro a0 a1 k
  have ih0 := laws_markRangeS.mono_l k
  unfold laws_markRangeS.f
  repeat' first
      | (with_reducible exact ih0 _ _ _)
      | (with_reducible exact LeO.refl _)
      | (with_reducible exact LeO.none _)
      | (with_reducible refine LeO.ite ?_ ?_)
      | (with_reducible refine LeO.bind ?_ (fun _ => ?_))
      | exact ih0 _ _ _
      | exact LeO.none _
      | refine LeO.ite ?_ ?_
      | refine LeO.bind ?_ (fun _ => ?_)
set_option maxHeartbeats 8000000 in
set_option maxRecDepth 100000 in
theorem laws_markRangeS.calls (k : Nat) (P0_ : Nat → Prop) (u9000_ : Value) (l0 : List (S69)) (a1 : Int) (r1 : Int) (r2 : List (S69)) (w0 w : World) (hB : Below w0.heap.size w0 w) (ho0 : Kd.R k69 69 w w0.heap.size P0_ u9000_ l0) (h : laws_markRangeS.f k l0 a1 = some (r1, r2)) :
    Calls Try.prog 47 #[u9000_, .int .i64 a1] w fun e w' => e = .returned (.int .i64 r1) ∧ Kd.R k69 69 w' w0.heap.size (fun k_ => (P0_ k_ ∨ w.heap.size ≤ k_)) u9000_ r2 ∧ Below w0.heap.size w0 w' ∧ Kept w w' (fun k_ => P0_ k_) := by
  have HO0 := Aside0.mk (show Kd.R k69 69 w w0.heap.size (fun k_ => (P0_ k_ ∨ w.heap.size ≤ k_)) u9000_ l0 from Kd.R_mono ho0 (fun k_ hk => (.inl hk)))
  have HK := Aside0.mk (Kept.refl w (fun k_ => P0_ k_))
  have HW0 := Aside0.mk hB.size
  have HB := Aside0.mk hB
  clear hB
  have H : (laws_markRangeS.l0 k l0 a1 0) = some (r1, r2) := h
  clear h
  have H' := Aside0.mk H
  clear H
  go_enter Try.func47, Try.ntmps47
  go_wp2
  go_loopg [1, 5] k (fun kq v1 v5 w' => ∃ (x0_1 : List (S69)) (x1_1 : Int) (x5_1 : Int), v1 = .int .i64 x1_1 ∧ v5 = .int .i64 x5_1 ∧ Aside0 (laws_markRangeS.l0 kq x0_1 x1_1 x5_1 = some (r1, r2)) ∧ Aside0 (kq ≤ k) ∧ Aside0 (Kd.R k69 69 w' w0.heap.size (fun k_ => (P0_ k_ ∨ w.heap.size ≤ k_)) u9000_ x0_1) ∧ Aside0 (Kept w w' (fun k_ => P0_ k_)) ∧ Aside0 (Below w0.heap.size w0 w'))
  case atStart => exact ⟨(l0), (a1), (0), (z_5), (z_5), H', ⟨Nat.le_refl _⟩, ⟨z_75⟩, ⟨z_76⟩, ⟨z_1⟩⟩
  case round =>
    clear H'
    obtain ⟨x0_1, x1_1, x5_1, rfl, rfl, HA, HK1, HO_0, HK, HB⟩ := hrel
    cases gk with
    | zero => exact absurd HA.out (by simp [laws_markRangeS.l0])
    | succ k1 =>
      have H := HA.out
      clear HA
      simp only [laws_markRangeS.l0] at H
      by_cases c3 : x5_1 < (x0_1.length : Int)
      rw [if_pos c3] at H
      have c3b0 : decide (x5_1 < (x0_1.length : Int)) = true := decide_eq_true c3
      clear c3
      by_cases c4 : 0 ≤ x5_1
      rw [if_pos c4] at H
      have c4b0 : decide (0 ≤ x5_1) = true := decide_eq_true c4
      clear c4
      obtain ⟨y182, hy182⟩ : ∃ y_ : List (S69), y_ = (x0_1.set (x5_1 : Int).toNat (⟨x1_1, (rd_T69 x0_1 x5_1).f1⟩ : S69)) := ⟨_, rfl⟩
      replace H : (laws_markRangeS.l0 k1 (y182.set (x5_1 : Int).toNat (⟨(rd_T69 y182 x5_1).f0, wrap64 (x1_1 + 1)⟩ : S69)) (wrap64 ((wrap64 (x1_1 + 1)) + 1)) (wrap64 (x5_1 + 1))) = some (r1, r2) := by first | (rw [hy182]; with_reducible exact H) | (have H2_ := (Option.bind_some _ _).symm.trans H; rw [hy182]; with_reducible exact H2_) | (have H2_ := (Option.bind_some _ _).symm.trans H; with_reducible exact H2_) | with_reducible exact H | (rw [hy182]; exact H) | exact H
      have Ny182 := Aside0.mk hy182
      clear hy182
      obtain ⟨y183, hy183⟩ : ∃ y_ : List (S69), y_ = (y182.set (x5_1 : Int).toNat (⟨(rd_T69 y182 x5_1).f0, wrap64 (x1_1 + 1)⟩ : S69)) := ⟨_, rfl⟩
      replace H : (laws_markRangeS.l0 k1 y183 (wrap64 ((wrap64 (x1_1 + 1)) + 1)) (wrap64 (x5_1 + 1))) = some (r1, r2) := by first | (rw [hy183]; with_reducible exact H) | (have H2_ := (Option.bind_some _ _).symm.trans H; rw [hy183]; with_reducible exact H2_) | (have H2_ := (Option.bind_some _ _).symm.trans H; with_reducible exact H2_) | with_reducible exact H | (rw [hy183]; exact H) | exact H
      have Ny183 := Aside0.mk hy183
      clear hy183
      have H' := Aside0.mk H
      clear H
      obtain ⟨Ao7, co7, eo7⟩ := Kd.R_slice HO_0.out
      subst eo7
      have p5 : 0 ≤ (x5_1 : Int) := of_decide_eq_true (z_10)
      have q5 : (x5_1 : Int) < ((x0_1.length : Int) : Int) := of_decide_eq_true (z_10)
      obtain ⟨go5, co5, eo5, gb5, gl5, cl5, HG5⟩ := Kd.R_form HO_0.out (by omega)
      (first | cases eo5 | (injection eo5 with ea_ en_ ec_; (first | subst ea_ | (injection ea_ with ea_; subst ea_)); subst ec_; clear en_))
      have GB5 := Aside0.mk gb5
      have GG5 := Aside0.mk HG5
      clear gb5 gl5 HG5
      have HMgo5 := Aside0.mk (show (P0_ go5 ∨ w.heap.size ≤ go5) from (HO_0.out.1 _ rfl))
      obtain ⟨ce5, hcl5, hM5, hcc5, hfr5⟩ := Kd.R_elem HO_0.out z69 (x5_1 : Int) p5 q5
      obtain rfl := k69_openM hM5
      have hx5_0 : wr.cell? ⟨go5, (x5_1 : Int).toNat * 2, none⟩ = some (.int .i64 ((rd_T69 x0_1 x5_1).f0)) := hcc5 0 _ rfl
      have hx5_1 : wr.cell? ⟨go5, (x5_1 : Int).toNat * 2 + 1, none⟩ = some (.int .i64 ((rd_T69 x0_1 x5_1).f1)) := hcc5 1 _ rfl
      have hf5_0 : wr.frozen? ⟨go5, (x5_1 : Int).toNat * 2, none⟩ = false := hfr5 0
      have hf5_1 : wr.frozen? ⟨go5, (x5_1 : Int).toNat * 2 + 1, none⟩ = false := hfr5 1
      clear hcl5 hcc5 hfr5 hM5
      replace p5 := eq_true p5
      replace q5 := eq_true q5
      have HX8 := Aside0.mk (show Kd.R k69 69 wr w0.heap.size (fun k_ => (P0_ k_ ∨ w.heap.size ≤ k_)) (.slice (some ⟨go5, 0, none⟩) x0_1.length co7) x0_1 from (z_78))
      obtain ⟨ce8, hcl8, hM8, hcc8, hfr8⟩ := Kd.R_elem HX8.out z69 (x5_1 : Int) (of_decide_eq_true (z_10)) (z_79)
      obtain rfl := k69_openM hM8
      have HP8 := Kd.R_seg HX8.out (x5_1 : Int) (of_decide_eq_true (z_10)) (z_79) (seg := [.int .i64 x1_1]) (j := 0) hcl8 hcc8 (show 1 ≤ 2 from z_53) (x' := (⟨x1_1, (rd_T69 x0_1 x5_1).f1⟩ : S69)) (k69_mkM _ _ _ (⟨x1_1, (rd_T69 x0_1 x5_1).f1⟩ : S69) ) (fun _ hk => hk)
      have hx8_0 := hcc8 0 _ rfl
      (try simp only [show (k69).sz = 2 from rfl, Nat.mul_one, Nat.add_zero] at hx8_0)
      have hf8_0 := hfr8 0
      (try simp only [show (k69).sz = 2 from rfl, Nat.mul_one, Nat.add_zero] at hf8_0)
      clear hcl8 hcc8 hfr8 hM8
      rotate_left
      rw [if_neg c4] at H
      exact absurd H (by simp)
      rw [if_neg c3] at H
      have c3b0 : decide (x5_1 < (x0_1.length : Int)) = false := decide_eq_false c3
      clear c3
      simp only [Option.some.injEq, Prod.mk.injEq] at H
      obtain ⟨rfl, rfl⟩ := H
      obtain ⟨Ao12, co12, eo12⟩ := Kd.R_slice HO_0.out
      subst eo12
      rotate_left
      all_goals (
       try go_wp2_with (first | ((with_reducible refine gate_store (t := 3) (p := 16) rfl ?_); refine store_event (t := 3) (p := 16) (v := ?vo_w9) (w1 := (wr.setCell ⟨go5, (x5_1 : Int).toNat * 2, none⟩ (.int .i64 x1_1))) ?hg ?ho ?hn ?hr ?_; (case ho => rfl); (case hg => rfl); (case hn => rfl); (case hr => exact z_0); intro w9 hw; have hg : wr.grownBy w9 (some go5) := (by rw [hw]; exact HP8.2); have hp_ : Kd.R k69 69 w9 w0.heap.size (fun k_ => (P0_ k_ ∨ w.heap.size ≤ k_)) (.slice (some ⟨go5, 0, none⟩) x0_1.length co7) y182 := (by rw [hw, Ny182.out]; exact HP8.1); clear HP8; have n0_ := Aside0.mk (hp_); have n1_ := Aside0.mk ((z_77 : Below w0.heap.size w0 w9)); have n2_ := Aside0.mk (Kept.of_grown (S := (fun k_ => P0_ k_)) hg (z_76) (fun k_ e_ => (HO_0.out.1 k_ e_))); clear HO_0; clear HB; clear HK; have HO_0 := n0_; have HB := n1_; have HK := n2_; clear n0_ n1_ n2_; clear hg hw hp_; have p6 : 0 ≤ (x5_1 : Int) := of_decide_eq_true (z_10); have q6 : (x5_1 : Int) < ((x0_1.length : Int) : Int) := of_decide_eq_true (z_10); obtain ⟨ce6, hcl6, hM6, hcc6, hfr6⟩ := Kd.R_elem HO_0.out z69 (x5_1 : Int) p6 q6; obtain rfl := k69_openM hM6; have hx6_0 : w9.cell? ⟨go5, (x5_1 : Int).toNat * 2, none⟩ = some (.int .i64 ((rd_T69 y182 x5_1).f0)) := hcc6 0 _ rfl; have hx6_1 : w9.cell? ⟨go5, (x5_1 : Int).toNat * 2 + 1, none⟩ = some (.int .i64 ((rd_T69 y182 x5_1).f1)) := hcc6 1 _ rfl; have hf6_0 : w9.frozen? ⟨go5, (x5_1 : Int).toNat * 2, none⟩ = false := hfr6 0; have hf6_1 : w9.frozen? ⟨go5, (x5_1 : Int).toNat * 2 + 1, none⟩ = false := hfr6 1; clear hcl6 hcc6 hfr6 hM6; replace p6 := eq_true p6; replace q6 := eq_true q6; have HX10 := Aside0.mk (show Kd.R k69 69 w9 w0.heap.size (fun k_ => (P0_ k_ ∨ w.heap.size ≤ k_)) (.slice (some ⟨go5, 0, none⟩) x0_1.length co7) y182 from (z_78)); obtain ⟨ce10, hcl10, hM10, hcc10, hfr10⟩ := Kd.R_elem HX10.out z69 (x5_1 : Int) (of_decide_eq_true (z_10)) (z_79); obtain rfl := k69_openM hM10; have HP10 := Kd.R_seg HX10.out (x5_1 : Int) (of_decide_eq_true (z_10)) (z_79) (seg := [.int .i64 (wrap64 (x1_1 + 1))]) (j := 1) hcl10 hcc10 (show 2 ≤ 2 from z_53) (x' := (⟨(rd_T69 y182 x5_1).f0, wrap64 (x1_1 + 1)⟩ : S69)) (k69_mkM _ _ _ (⟨(rd_T69 y182 x5_1).f0, wrap64 (x1_1 + 1)⟩ : S69) ) (fun _ hk => hk); have hx10_1 := hcc10 1 _ rfl; (try simp only [show (k69).sz = 2 from rfl, Nat.mul_one, Nat.add_zero] at hx10_1); have hf10_1 := hfr10 1; (try simp only [show (k69).sz = 2 from rfl, Nat.mul_one, Nat.add_zero] at hf10_1); clear hcl10 hcc10 hfr10 hM10) | ((with_reducible refine gate_store (t := 3) (p := 23) rfl ?_); refine store_event (t := 3) (p := 23) (v := ?vo_w11) (w1 := (w9.setCell ⟨go5, (x5_1 : Int).toNat * 2 + 1, none⟩ (.int .i64 (wrap64 (x1_1 + 1))))) ?hg ?ho ?hn ?hr ?_; (case ho => rfl); (case hg => rfl); (case hn => rfl); (case hr => exact z_0); intro w11 hw; have hg : w9.grownBy w11 (some go5) := (by rw [hw]; exact HP10.2); have hp_ : Kd.R k69 69 w11 w0.heap.size (fun k_ => (P0_ k_ ∨ w.heap.size ≤ k_)) (.slice (some ⟨go5, 0, none⟩) x0_1.length co7) y183 := (by rw [hw, Ny183.out]; exact HP10.1); clear HP10; have n0_ := Aside0.mk (hp_); have n1_ := Aside0.mk ((z_77 : Below w0.heap.size w0 w11)); have n2_ := Aside0.mk (Kept.of_grown (S := (fun k_ => P0_ k_)) hg (z_76) (fun k_ e_ => (HO_0.out.1 k_ e_))); clear HO_0; clear HB; clear HK; have HO_0 := n0_; have HB := n1_; have HK := n2_; clear n0_ n1_ n2_; clear hg hw hp_))
       first
        | (go_roundg k1
           case measure => have := HK1.out; omega
           case rel => exact ⟨(y183), (wrap64 ((wrap64 (x1_1 + 1)) + 1)), (wrap64 (x5_1 + 1)), (z_5), (z_5), H', ⟨z_48⟩, ⟨z_78⟩, ⟨z_76⟩, ⟨z_1⟩⟩)
        | (go_ret
           exact ⟨z_4, z_78, z_1, z_76⟩))

/-! ### laws_markMouth: function 23 -/
def laws_markMouth.f (k : Nat) (a0_0 : Int) (l0_1 : List Int) (a0_2 : Int) (a0_3 : Int) (l0_4 : List (S69)) (a1 : Int) : Option (Int × List Int × (List (S69))) := (laws_markByteS.f k l0_1 a1).bind fun bt185 => ((laws_markRangeS.f k l0_4 bt185.1).bind fun bt187 => (some (bt187.1, bt185.2, bt187.2)))
theorem laws_markMouth.mono : ∀ a0 a1 a2 a3 a4 a5 k, LeO (laws_markMouth.f k a0 a1 a2 a3 a4 a5) (laws_markMouth.f (k + 1) a0 a1 a2 a3 a4 a5) := by
  intro a0 a1 a2 a3 a4 a5 k
  unfold laws_markMouth.f
  repeat' first
      | (with_reducible exact laws_markByteS.mono _ _ _)
      | (with_reducible exact laws_markRangeS.mono _ _ _)
      | (with_reducible exact LeO.refl _)
      | (with_reducible exact LeO.none _)
      | (with_reducible refine LeO.ite ?_ ?_)
      | (with_reducible refine LeO.bind ?_ (fun _ => ?_))
      | exact laws_markByteS.mono _ _ _
      | exact laws_markRangeS.mono _ _ _
      | exact LeO.none _
      | refine LeO.ite ?_ ?_
      | refine LeO.bind ?_ (fun _ => ?_)
set_option maxHeartbeats 8000000 in
set_option maxRecDepth 100000 in
theorem laws_markMouth.calls (k : Nat) (a0_0 : Int) (P0_1_ : Nat → Prop) (u9000_ : Value) (l0_1 : List Int) (a0_2 : Int) (a0_3 : Int) (P0_4_ : Nat → Prop) (u9001_ : Value) (l0_4 : List (S69)) (a1 : Int) (r1 : Int) (r2 : List Int) (r3 : List (S69)) (w0 w : World) (hB : Below w0.heap.size w0 w) (ho0_1 : Kd.R (Kd.int .u8) 5 w w0.heap.size P0_1_ u9000_ l0_1) (ho0_4 : Kd.R k69 69 w w0.heap.size P0_4_ u9001_ l0_4) (h : laws_markMouth.f k a0_0 l0_1 a0_2 a0_3 l0_4 a1 = some (r1, r2, r3)) :
    Calls Try.prog 23 #[.agg #[.int .i64 a0_0, u9000_, .int .i64 a0_2, .int .i64 a0_3, u9001_], .int .i64 a1] w fun e w' => e = .returned (.int .i64 r1) ∧ Kd.R (Kd.int .u8) 5 w' w0.heap.size (fun k_ => ((P0_1_ k_ ∨ P0_4_ k_) ∨ w.heap.size ≤ k_)) u9000_ r2 ∧ Kd.R k69 69 w' w0.heap.size (fun k_ => ((P0_1_ k_ ∨ P0_4_ k_) ∨ w.heap.size ≤ k_)) u9001_ r3 ∧ Below w0.heap.size w0 w' ∧ Kept w w' (fun k_ => P0_1_ k_ ∨ P0_4_ k_) := by
  have hu25 := Try.underlying25
  have HO0_1 := Aside0.mk (show Kd.R (Kd.int .u8) 5 w w0.heap.size (fun k_ => ((P0_1_ k_ ∨ P0_4_ k_) ∨ w.heap.size ≤ k_)) u9000_ l0_1 from Kd.R_mono ho0_1 (fun k_ hk => (.inl (.inl hk))))
  have HO0_4 := Aside0.mk (show Kd.R k69 69 w w0.heap.size (fun k_ => ((P0_1_ k_ ∨ P0_4_ k_) ∨ w.heap.size ≤ k_)) u9001_ l0_4 from Kd.R_mono ho0_4 (fun k_ hk => (.inl (.inr hk))))
  have HK := Aside0.mk (Kept.refl w (fun k_ => P0_1_ k_ ∨ P0_4_ k_))
  have HW0 := Aside0.mk hB.size
  have HB := Aside0.mk hB
  clear hB
  have H : ((laws_markByteS.f k l0_1 a1).bind fun bt185 => ((laws_markRangeS.f k l0_4 bt185.1).bind fun bt187 => (some (bt187.1, bt185.2, bt187.2)))) = some (r1, r2, r3) := h
  clear h
  replace H := Option.bind_eq_some_iff.mp H
  obtain ⟨⟨t185, t186⟩, A30, H⟩ := H
  replace H : ((laws_markRangeS.f k l0_4 t185).bind fun bt187 => (some (bt187.1, t186, bt187.2))) = some (r1, r2, r3) := H
  have A3 := Aside0.mk A30
  clear A30
  replace H := Option.bind_eq_some_iff.mp H
  obtain ⟨⟨t187, t188⟩, A40, H⟩ := H
  replace H : (some (t187, t186, t188)) = some (r1, r2, r3) := H
  have A4 := Aside0.mk A40
  clear A40
  simp only [Option.some.injEq, Prod.mk.injEq] at H
  obtain ⟨rfl, rfl, rfl⟩ := H
  obtain ⟨Ao5, co5, eo5⟩ := Kd.R_slice HO0_1.out
  subst eo5
  obtain ⟨Ao6, co6, eo6⟩ := Kd.R_slice HO0_4.out
  subst eo6
  go_enter Try.func23, Try.ntmps23
  go_wp2_with (first | ((with_reducible refine gate_dst (N := 2) rfl ?_); refine box_event ?hg (N := 2) ?hd (cs := #[.int .i64 a0_0, .slice Ao5 l0_1.length co5, .int .i64 a0_2, .int .i64 a0_3, .slice Ao6 l0_4.length co6]) (t := 25) ?hr ?_; (case hd => rfl); (case hg => rfl); (case hr => exact z_0); intro gb184 hg w7 hbox hb; have n0_ := Aside0.mk (Kd.R_below (z_80) hb); have n1_ := Aside0.mk (Kd.R_below (z_81) hb); have n2_ := Aside0.mk (Kept.below (S := (fun k_ => P0_1_ k_ ∨ P0_4_ k_)) (z_76) hb); have n3_ := Aside0.mk (below_step (z_1) hb); have n4_ := Aside0.mk (hbox); have n5_ := Aside0.mk ((by rw [hg]; exact (by first | exact HK.out.1 | exact (show Kept w _ (fun k_ => P0_1_ k_ ∨ P0_4_ k_) from z_76).1) : w.heap.size ≤ gb184)); have n6_ := Aside0.mk ((z_2 : w0.heap.size ≤ gb184)); clear HO0_1; clear HO0_4; clear HK; clear HB; have HO0_1 := n0_; have HO0_4 := n1_; have HK := n2_; have HB := n3_; have BK184 := n4_; have GW184 := n5_; have GE184 := n6_; clear n0_ n1_ n2_ n3_ n4_ n5_ n6_; clear hb hbox hg; obtain ⟨hcz8_0, hcz8_1, hcz8_2, hcz8_3, hcz8_4, hfz8_0, hfz8_1, hfz8_2, hfz8_3, hfz8_4⟩ := cells_5 BK184.out) | ((with_reducible refine gate_callee (f := 46) rfl ?_); refine goesL_ (some 8) rfl rfl Try.func46 (z_3) rfl #[.slice Ao5 l0_1.length co5, .int .i64 a1] rfl (z_20) ?_; (with_reducible refine (laws_markByteS.calls k (fun k_ => some k_ = (.slice Ao5 l0_1.length co5 : Value).ownBlock) (.slice Ao5 l0_1.length co5) l0_1 a1 t185 t186 w0 _ ?side1 ?side2 A3.out).mono ?_); (case side1 => exact z_82); (case side2 => exact Kd.R_tight rfl HO0_1.out); rintro e w9 ⟨rfl, hy0, hb, hkp⟩; refine ⟨_, rfl, ?_⟩; have n0_ := Aside0.mk (Kd.R_reok rfl hy0 (fun k_ e_ => HO0_1.out.1 k_ e_)); have n1_ := Aside0.mk (Kd.R_mono (ok' := fun k_ => ((P0_1_ k_ ∨ P0_4_ k_) ∨ w.heap.size ≤ k_)) (Kd.R_keptB ((Kd.R_apart' HO0_4.out (Kd.R_typed HO0_1.out) (z_53))) hkp (fun k_ hk_ hs_ => (hk_.2) hs_)) (fun k_ hk_ => hk_.1.1)); have n2_ := Aside0.mk (blk_kept (z_83) hkp (fun hs_ => (fun e_ => (Kd.R_ne HO0_1.out BK184.out (z_53)) e_) hs_)); have n3_ := Aside0.mk (Kept.then_ (S := (fun k_ => P0_1_ k_ ∨ P0_4_ k_)) (z_84) hkp (fun k_ hs_ => (fun e_ => (HO0_1.out.1 k_ e_.symm)) hs_)); have n4_ := Aside0.mk (hb); clear HO0_1; clear HO0_4; clear BK184; clear HK; clear HB; have HO0_1 := n0_; have HO0_4 := n1_; have BK184 := n2_; have HK := n3_; have HB := n4_; clear n0_ n1_ n2_ n3_ n4_; (try clear hb); (try clear hkp); (try clear hy0); obtain ⟨hcz10_0, hcz10_1, hcz10_2, hcz10_3, hcz10_4, hfz10_0, hfz10_1, hfz10_2, hfz10_3, hfz10_4⟩ := cells_5 BK184.out) | ((with_reducible refine gate_callee (f := 47) rfl ?_); refine goesL_ (some 12) rfl rfl Try.func47 (z_3) rfl #[.slice Ao6 l0_4.length co6, .int .i64 t185] rfl (z_20) ?_; (with_reducible refine (laws_markRangeS.calls k (fun k_ => some k_ = (.slice Ao6 l0_4.length co6 : Value).ownBlock) (.slice Ao6 l0_4.length co6) l0_4 t185 t187 t188 w0 _ ?side1 ?side2 A4.out).mono ?_); (case side1 => exact z_82); (case side2 => exact Kd.R_tight rfl HO0_4.out); rintro e w11 ⟨rfl, hy0, hb, hkp⟩; refine ⟨_, rfl, ?_⟩; have n0_ := Aside0.mk (Kd.R_mono (ok' := fun k_ => ((P0_1_ k_ ∨ P0_4_ k_) ∨ w.heap.size ≤ k_)) (Kd.R_keptB ((Kd.R_apart' HO0_1.out (Kd.R_typed HO0_4.out) (z_53))) hkp (fun k_ hk_ hs_ => (hk_.2) hs_)) (fun k_ hk_ => hk_.1.1)); have n1_ := Aside0.mk (Kd.R_reok rfl hy0 (fun k_ e_ => HO0_4.out.1 k_ e_)); have n2_ := Aside0.mk (blk_kept (z_83) hkp (fun hs_ => (fun e_ => (Kd.R_ne HO0_4.out BK184.out (z_53)) e_) hs_)); have n3_ := Aside0.mk (Kept.then_ (S := (fun k_ => P0_1_ k_ ∨ P0_4_ k_)) (z_84) hkp (fun k_ hs_ => (fun e_ => (HO0_4.out.1 k_ e_.symm)) hs_)); have n4_ := Aside0.mk (hb); clear HO0_1; clear HO0_4; clear BK184; clear HK; clear HB; have HO0_1 := n0_; have HO0_4 := n1_; have BK184 := n2_; have HK := n3_; have HB := n4_; clear n0_ n1_ n2_ n3_ n4_; (try clear hb); (try clear hkp); (try clear hy0)))
  go_ret
  exact ⟨z_4, z_80, z_81, z_82, z_84⟩

/-! ### laws_markEarlyS: function 48 -/
def laws_markEarlyS.l0 : Nat → List (S59) → Int → Int → Option (Int × (List (S59)))
  | 0, _, _, _ => none
  | k + 1, x0, x1, x5 => if x5 < (x0.length : Int) then (if 0 ≤ x5 then ((some (x0.set (x5 : Int).toNat (⟨x1, (rd_T59 x0 x5).f1⟩ : S59) : List (S59))).bind fun y189 => (laws_markEarlyS.l0 k (y189.set (x5 : Int).toNat (⟨(rd_T59 y189 x5).f0, (wrap64 (x1 + 1)) % 256⟩ : S59)) (wrap64 ((wrap64 (x1 + 1)) + 1)) (wrap64 (x5 + 1)))) else (none)) else (some (x1, x0))
def laws_markEarlyS.f (k : Nat) (l0 : List (S59)) (a1 : Int) : Option (Int × (List (S59))) := laws_markEarlyS.l0 k l0 a1 0
theorem laws_markEarlyS.mono_l : ∀ k, (∀ y0 y1 y2, LeO (laws_markEarlyS.l0 k y0 y1 y2) (laws_markEarlyS.l0 (k + 1) y0 y1 y2))
  | 0 => fun _ _ _ r h => by simp [laws_markEarlyS.l0] at h
  | k + 1 => by
    have ih0 := laws_markEarlyS.mono_l k
    · intro y0 y1 y2
      unfold laws_markEarlyS.l0
      repeat' first
      | (with_reducible exact ih0 _ _ _)
      | (with_reducible exact LeO.refl _)
      | (with_reducible exact LeO.none _)
      | (with_reducible refine LeO.ite ?_ ?_)
      | (with_reducible refine LeO.bind ?_ (fun _ => ?_))
      | exact ih0 _ _ _
      | exact LeO.none _
      | refine LeO.ite ?_ ?_
      | refine LeO.bind ?_ (fun _ => ?_)
theorem laws_markEarlyS.mono : ∀ a0 a1 k, LeO (laws_markEarlyS.f k a0 a1) (laws_markEarlyS.f (k + 1) a0 a1) := by
  intro a0 a1 k
  have ih0 := laws_markEarlyS.mono_l k
  unfold laws_markEarlyS.f
  repeat' first
      | (with_reducible exact ih0 _ _ _)
      | (with_reducible exact LeO.refl _)
      | (with_reducible exact LeO.none _)
      | (with_reducible refine LeO.ite ?_ ?_)
      | (with_reducible refine LeO.bind ?_ (fun _ => ?_))
      | exact ih0 _ _ _
      | exact LeO.none _
      | refine LeO.ite ?_ ?_
      | refine LeO.bind ?_ (fun _ => ?_)
set_option maxHeartbeats 8000000 in
set_option maxRecDepth 100000 in
theorem laws_markEarlyS.calls (k : Nat) (P0_ : Nat → Prop) (u9000_ : Value) (l0 : List (S59)) (a1 : Int) (r1 : Int) (r2 : List (S59)) (w0 w : World) (hB : Below w0.heap.size w0 w) (ho0 : Kd.R k59 59 w w0.heap.size P0_ u9000_ l0) (h : laws_markEarlyS.f k l0 a1 = some (r1, r2)) :
    Calls Try.prog 48 #[u9000_, .int .i64 a1] w fun e w' => e = .returned (.int .i64 r1) ∧ Kd.R k59 59 w' w0.heap.size (fun k_ => (P0_ k_ ∨ w.heap.size ≤ k_)) u9000_ r2 ∧ Below w0.heap.size w0 w' ∧ Kept w w' (fun k_ => P0_ k_) := by
  have HO0 := Aside0.mk (show Kd.R k59 59 w w0.heap.size (fun k_ => (P0_ k_ ∨ w.heap.size ≤ k_)) u9000_ l0 from Kd.R_mono ho0 (fun k_ hk => (.inl hk)))
  have HK := Aside0.mk (Kept.refl w (fun k_ => P0_ k_))
  have HW0 := Aside0.mk hB.size
  have HB := Aside0.mk hB
  clear hB
  have H : (laws_markEarlyS.l0 k l0 a1 0) = some (r1, r2) := h
  clear h
  have H' := Aside0.mk H
  clear H
  go_enter Try.func48, Try.ntmps48
  go_wp2
  go_loopg [1, 5] k (fun kq v1 v5 w' => ∃ (x0_1 : List (S59)) (x1_1 : Int) (x5_1 : Int), v1 = .int .i64 x1_1 ∧ v5 = .int .i64 x5_1 ∧ Aside0 (laws_markEarlyS.l0 kq x0_1 x1_1 x5_1 = some (r1, r2)) ∧ Aside0 (kq ≤ k) ∧ Aside0 (Kd.R k59 59 w' w0.heap.size (fun k_ => (P0_ k_ ∨ w.heap.size ≤ k_)) u9000_ x0_1) ∧ Aside0 (Kept w w' (fun k_ => P0_ k_)) ∧ Aside0 (Below w0.heap.size w0 w'))
  case atStart => exact ⟨(l0), (a1), (0), (z_5), (z_5), H', ⟨Nat.le_refl _⟩, ⟨z_75⟩, ⟨z_76⟩, ⟨z_1⟩⟩
  case round =>
    clear H'
    obtain ⟨x0_1, x1_1, x5_1, rfl, rfl, HA, HK1, HO_0, HK, HB⟩ := hrel
    cases gk with
    | zero => exact absurd HA.out (by simp [laws_markEarlyS.l0])
    | succ k1 =>
      have H := HA.out
      clear HA
      simp only [laws_markEarlyS.l0] at H
      by_cases c3 : x5_1 < (x0_1.length : Int)
      rw [if_pos c3] at H
      have c3b0 : decide (x5_1 < (x0_1.length : Int)) = true := decide_eq_true c3
      clear c3
      by_cases c4 : 0 ≤ x5_1
      rw [if_pos c4] at H
      have c4b0 : decide (0 ≤ x5_1) = true := decide_eq_true c4
      clear c4
      obtain ⟨y189, hy189⟩ : ∃ y_ : List (S59), y_ = (x0_1.set (x5_1 : Int).toNat (⟨x1_1, (rd_T59 x0_1 x5_1).f1⟩ : S59)) := ⟨_, rfl⟩
      replace H : (laws_markEarlyS.l0 k1 (y189.set (x5_1 : Int).toNat (⟨(rd_T59 y189 x5_1).f0, (wrap64 (x1_1 + 1)) % 256⟩ : S59)) (wrap64 ((wrap64 (x1_1 + 1)) + 1)) (wrap64 (x5_1 + 1))) = some (r1, r2) := by first | (rw [hy189]; with_reducible exact H) | (have H2_ := (Option.bind_some _ _).symm.trans H; rw [hy189]; with_reducible exact H2_) | (have H2_ := (Option.bind_some _ _).symm.trans H; with_reducible exact H2_) | with_reducible exact H | (rw [hy189]; exact H) | exact H
      have Ny189 := Aside0.mk hy189
      clear hy189
      obtain ⟨y190, hy190⟩ : ∃ y_ : List (S59), y_ = (y189.set (x5_1 : Int).toNat (⟨(rd_T59 y189 x5_1).f0, (wrap64 (x1_1 + 1)) % 256⟩ : S59)) := ⟨_, rfl⟩
      replace H : (laws_markEarlyS.l0 k1 y190 (wrap64 ((wrap64 (x1_1 + 1)) + 1)) (wrap64 (x5_1 + 1))) = some (r1, r2) := by first | (rw [hy190]; with_reducible exact H) | (have H2_ := (Option.bind_some _ _).symm.trans H; rw [hy190]; with_reducible exact H2_) | (have H2_ := (Option.bind_some _ _).symm.trans H; with_reducible exact H2_) | with_reducible exact H | (rw [hy190]; exact H) | exact H
      have Ny190 := Aside0.mk hy190
      clear hy190
      have H' := Aside0.mk H
      clear H
      obtain ⟨Ao7, co7, eo7⟩ := Kd.R_slice HO_0.out
      subst eo7
      have p5 : 0 ≤ (x5_1 : Int) := of_decide_eq_true (z_10)
      have q5 : (x5_1 : Int) < ((x0_1.length : Int) : Int) := of_decide_eq_true (z_10)
      obtain ⟨go5, co5, eo5, gb5, gl5, cl5, HG5⟩ := Kd.R_form HO_0.out (by omega)
      (first | cases eo5 | (injection eo5 with ea_ en_ ec_; (first | subst ea_ | (injection ea_ with ea_; subst ea_)); subst ec_; clear en_))
      have GB5 := Aside0.mk gb5
      have GG5 := Aside0.mk HG5
      clear gb5 gl5 HG5
      have HMgo5 := Aside0.mk (show (P0_ go5 ∨ w.heap.size ≤ go5) from (HO_0.out.1 _ rfl))
      obtain ⟨ce5, hcl5, hM5, hcc5, hfr5⟩ := Kd.R_elem HO_0.out z59 (x5_1 : Int) p5 q5
      obtain rfl := k59_openM hM5
      have hx5_0 : wr.cell? ⟨go5, (x5_1 : Int).toNat * 2, none⟩ = some (.int .i64 ((rd_T59 x0_1 x5_1).f0)) := hcc5 0 _ rfl
      have hx5_1 : wr.cell? ⟨go5, (x5_1 : Int).toNat * 2 + 1, none⟩ = some (.int .u8 ((rd_T59 x0_1 x5_1).f1)) := hcc5 1 _ rfl
      have hf5_0 : wr.frozen? ⟨go5, (x5_1 : Int).toNat * 2, none⟩ = false := hfr5 0
      have hf5_1 : wr.frozen? ⟨go5, (x5_1 : Int).toNat * 2 + 1, none⟩ = false := hfr5 1
      clear hcl5 hcc5 hfr5 hM5
      replace p5 := eq_true p5
      replace q5 := eq_true q5
      have HX8 := Aside0.mk (show Kd.R k59 59 wr w0.heap.size (fun k_ => (P0_ k_ ∨ w.heap.size ≤ k_)) (.slice (some ⟨go5, 0, none⟩) x0_1.length co7) x0_1 from (z_78))
      obtain ⟨ce8, hcl8, hM8, hcc8, hfr8⟩ := Kd.R_elem HX8.out z59 (x5_1 : Int) (of_decide_eq_true (z_10)) (z_79)
      obtain rfl := k59_openM hM8
      have HP8 := Kd.R_seg HX8.out (x5_1 : Int) (of_decide_eq_true (z_10)) (z_79) (seg := [.int .i64 x1_1]) (j := 0) hcl8 hcc8 (show 1 ≤ 2 from z_53) (x' := (⟨x1_1, (rd_T59 x0_1 x5_1).f1⟩ : S59)) (k59_mkM _ _ _ (⟨x1_1, (rd_T59 x0_1 x5_1).f1⟩ : S59) ) (fun _ hk => hk)
      have hx8_0 := hcc8 0 _ rfl
      (try simp only [show (k59).sz = 2 from rfl, Nat.mul_one, Nat.add_zero] at hx8_0)
      have hf8_0 := hfr8 0
      (try simp only [show (k59).sz = 2 from rfl, Nat.mul_one, Nat.add_zero] at hf8_0)
      clear hcl8 hcc8 hfr8 hM8
      rotate_left
      rw [if_neg c4] at H
      exact absurd H (by simp)
      rw [if_neg c3] at H
      have c3b0 : decide (x5_1 < (x0_1.length : Int)) = false := decide_eq_false c3
      clear c3
      simp only [Option.some.injEq, Prod.mk.injEq] at H
      obtain ⟨rfl, rfl⟩ := H
      obtain ⟨Ao12, co12, eo12⟩ := Kd.R_slice HO_0.out
      subst eo12
      rotate_left
      all_goals (
       try go_wp2_with (first | ((with_reducible refine gate_store (t := 3) (p := 16) rfl ?_); refine store_event (t := 3) (p := 16) (v := ?vo_w9) (w1 := (wr.setCell ⟨go5, (x5_1 : Int).toNat * 2, none⟩ (.int .i64 x1_1))) ?hg ?ho ?hn ?hr ?_; (case ho => rfl); (case hg => rfl); (case hn => rfl); (case hr => exact z_0); intro w9 hw; have hg : wr.grownBy w9 (some go5) := (by rw [hw]; exact HP8.2); have hp_ : Kd.R k59 59 w9 w0.heap.size (fun k_ => (P0_ k_ ∨ w.heap.size ≤ k_)) (.slice (some ⟨go5, 0, none⟩) x0_1.length co7) y189 := (by rw [hw, Ny189.out]; exact HP8.1); clear HP8; have n0_ := Aside0.mk (hp_); have n1_ := Aside0.mk ((z_77 : Below w0.heap.size w0 w9)); have n2_ := Aside0.mk (Kept.of_grown (S := (fun k_ => P0_ k_)) hg (z_76) (fun k_ e_ => (HO_0.out.1 k_ e_))); clear HO_0; clear HB; clear HK; have HO_0 := n0_; have HB := n1_; have HK := n2_; clear n0_ n1_ n2_; clear hg hw hp_; have p6 : 0 ≤ (x5_1 : Int) := of_decide_eq_true (z_10); have q6 : (x5_1 : Int) < ((x0_1.length : Int) : Int) := of_decide_eq_true (z_10); obtain ⟨ce6, hcl6, hM6, hcc6, hfr6⟩ := Kd.R_elem HO_0.out z59 (x5_1 : Int) p6 q6; obtain rfl := k59_openM hM6; have hx6_0 : w9.cell? ⟨go5, (x5_1 : Int).toNat * 2, none⟩ = some (.int .i64 ((rd_T59 y189 x5_1).f0)) := hcc6 0 _ rfl; have hx6_1 : w9.cell? ⟨go5, (x5_1 : Int).toNat * 2 + 1, none⟩ = some (.int .u8 ((rd_T59 y189 x5_1).f1)) := hcc6 1 _ rfl; have hf6_0 : w9.frozen? ⟨go5, (x5_1 : Int).toNat * 2, none⟩ = false := hfr6 0; have hf6_1 : w9.frozen? ⟨go5, (x5_1 : Int).toNat * 2 + 1, none⟩ = false := hfr6 1; clear hcl6 hcc6 hfr6 hM6; replace p6 := eq_true p6; replace q6 := eq_true q6; have HX10 := Aside0.mk (show Kd.R k59 59 w9 w0.heap.size (fun k_ => (P0_ k_ ∨ w.heap.size ≤ k_)) (.slice (some ⟨go5, 0, none⟩) x0_1.length co7) y189 from (z_78)); obtain ⟨ce10, hcl10, hM10, hcc10, hfr10⟩ := Kd.R_elem HX10.out z59 (x5_1 : Int) (of_decide_eq_true (z_10)) (z_79); obtain rfl := k59_openM hM10; have HP10 := Kd.R_seg HX10.out (x5_1 : Int) (of_decide_eq_true (z_10)) (z_79) (seg := [.int .u8 ((wrap64 (x1_1 + 1)) % 256)]) (j := 1) hcl10 hcc10 (show 2 ≤ 2 from z_53) (x' := (⟨(rd_T59 y189 x5_1).f0, (wrap64 (x1_1 + 1)) % 256⟩ : S59)) (k59_mkM _ _ _ (⟨(rd_T59 y189 x5_1).f0, (wrap64 (x1_1 + 1)) % 256⟩ : S59) ) (fun _ hk => hk); have hx10_1 := hcc10 1 _ rfl; (try simp only [show (k59).sz = 2 from rfl, Nat.mul_one, Nat.add_zero] at hx10_1); have hf10_1 := hfr10 1; (try simp only [show (k59).sz = 2 from rfl, Nat.mul_one, Nat.add_zero] at hf10_1); clear hcl10 hcc10 hfr10 hM10) | ((with_reducible refine gate_store (t := 5) (p := 24) rfl ?_); refine store_event (t := 5) (p := 24) (v := ?vo_w11) (w1 := (w9.setCell ⟨go5, (x5_1 : Int).toNat * 2 + 1, none⟩ (.int .u8 ((wrap64 (x1_1 + 1)) % 256)))) ?hg ?ho ?hn ?hr ?_; (case ho => rfl); (case hg => rfl); (case hn => rfl); (case hr => exact z_0); intro w11 hw; have hg : w9.grownBy w11 (some go5) := (by rw [hw]; exact HP10.2); have hp_ : Kd.R k59 59 w11 w0.heap.size (fun k_ => (P0_ k_ ∨ w.heap.size ≤ k_)) (.slice (some ⟨go5, 0, none⟩) x0_1.length co7) y190 := (by rw [hw, Ny190.out]; exact HP10.1); clear HP10; have n0_ := Aside0.mk (hp_); have n1_ := Aside0.mk ((z_77 : Below w0.heap.size w0 w11)); have n2_ := Aside0.mk (Kept.of_grown (S := (fun k_ => P0_ k_)) hg (z_76) (fun k_ e_ => (HO_0.out.1 k_ e_))); clear HO_0; clear HB; clear HK; have HO_0 := n0_; have HB := n1_; have HK := n2_; clear n0_ n1_ n2_; clear hg hw hp_))
       first
        | (go_roundg k1
           case measure => have := HK1.out; omega
           case rel => exact ⟨(y190), (wrap64 ((wrap64 (x1_1 + 1)) + 1)), (wrap64 (x5_1 + 1)), (z_5), (z_5), H', ⟨z_48⟩, ⟨z_78⟩, ⟨z_76⟩, ⟨z_1⟩⟩)
        | (go_ret
           exact ⟨z_4, z_78, z_1, z_76⟩))

/-! ### laws_markEar: function 24 -/
def laws_markEar.f (k : Nat) (a0_0 : Int) (a0_1 : Int) (l0_2 : List Int) (l0_3 : List (S59)) (a1 : Int) : Option (Int × List Int × (List (S59))) := (laws_markByteS.f k l0_2 a1).bind fun bt192 => ((laws_markEarlyS.f k l0_3 bt192.1).bind fun bt194 => (some (bt194.1, bt192.2, bt194.2)))
theorem laws_markEar.mono : ∀ a0 a1 a2 a3 a4 k, LeO (laws_markEar.f k a0 a1 a2 a3 a4) (laws_markEar.f (k + 1) a0 a1 a2 a3 a4) := by
  intro a0 a1 a2 a3 a4 k
  unfold laws_markEar.f
  repeat' first
      | (with_reducible exact laws_markByteS.mono _ _ _)
      | (with_reducible exact laws_markEarlyS.mono _ _ _)
      | (with_reducible exact LeO.refl _)
      | (with_reducible exact LeO.none _)
      | (with_reducible refine LeO.ite ?_ ?_)
      | (with_reducible refine LeO.bind ?_ (fun _ => ?_))
      | exact laws_markByteS.mono _ _ _
      | exact laws_markEarlyS.mono _ _ _
      | exact LeO.none _
      | refine LeO.ite ?_ ?_
      | refine LeO.bind ?_ (fun _ => ?_)
set_option maxHeartbeats 8000000 in
set_option maxRecDepth 100000 in
theorem laws_markEar.calls (k : Nat) (a0_0 : Int) (a0_1 : Int) (P0_2_ : Nat → Prop) (u9000_ : Value) (l0_2 : List Int) (P0_3_ : Nat → Prop) (u9001_ : Value) (l0_3 : List (S59)) (a1 : Int) (r1 : Int) (r2 : List Int) (r3 : List (S59)) (w0 w : World) (hB : Below w0.heap.size w0 w) (ho0_2 : Kd.R (Kd.int .u8) 5 w w0.heap.size P0_2_ u9000_ l0_2) (ho0_3 : Kd.R k59 59 w w0.heap.size P0_3_ u9001_ l0_3) (h : laws_markEar.f k a0_0 a0_1 l0_2 l0_3 a1 = some (r1, r2, r3)) :
    Calls Try.prog 24 #[.agg #[.int .i64 a0_0, .int .i64 a0_1, u9000_, u9001_], .int .i64 a1] w fun e w' => e = .returned (.int .i64 r1) ∧ Kd.R (Kd.int .u8) 5 w' w0.heap.size (fun k_ => ((P0_2_ k_ ∨ P0_3_ k_) ∨ w.heap.size ≤ k_)) u9000_ r2 ∧ Kd.R k59 59 w' w0.heap.size (fun k_ => ((P0_2_ k_ ∨ P0_3_ k_) ∨ w.heap.size ≤ k_)) u9001_ r3 ∧ Below w0.heap.size w0 w' ∧ Kept w w' (fun k_ => P0_2_ k_ ∨ P0_3_ k_) := by
  have hu28 := Try.underlying28
  have HO0_2 := Aside0.mk (show Kd.R (Kd.int .u8) 5 w w0.heap.size (fun k_ => ((P0_2_ k_ ∨ P0_3_ k_) ∨ w.heap.size ≤ k_)) u9000_ l0_2 from Kd.R_mono ho0_2 (fun k_ hk => (.inl (.inl hk))))
  have HO0_3 := Aside0.mk (show Kd.R k59 59 w w0.heap.size (fun k_ => ((P0_2_ k_ ∨ P0_3_ k_) ∨ w.heap.size ≤ k_)) u9001_ l0_3 from Kd.R_mono ho0_3 (fun k_ hk => (.inl (.inr hk))))
  have HK := Aside0.mk (Kept.refl w (fun k_ => P0_2_ k_ ∨ P0_3_ k_))
  have HW0 := Aside0.mk hB.size
  have HB := Aside0.mk hB
  clear hB
  have H : ((laws_markByteS.f k l0_2 a1).bind fun bt192 => ((laws_markEarlyS.f k l0_3 bt192.1).bind fun bt194 => (some (bt194.1, bt192.2, bt194.2)))) = some (r1, r2, r3) := h
  clear h
  replace H := Option.bind_eq_some_iff.mp H
  obtain ⟨⟨t192, t193⟩, A30, H⟩ := H
  replace H : ((laws_markEarlyS.f k l0_3 t192).bind fun bt194 => (some (bt194.1, t193, bt194.2))) = some (r1, r2, r3) := H
  have A3 := Aside0.mk A30
  clear A30
  replace H := Option.bind_eq_some_iff.mp H
  obtain ⟨⟨t194, t195⟩, A40, H⟩ := H
  replace H : (some (t194, t193, t195)) = some (r1, r2, r3) := H
  have A4 := Aside0.mk A40
  clear A40
  simp only [Option.some.injEq, Prod.mk.injEq] at H
  obtain ⟨rfl, rfl, rfl⟩ := H
  obtain ⟨Ao5, co5, eo5⟩ := Kd.R_slice HO0_2.out
  subst eo5
  obtain ⟨Ao6, co6, eo6⟩ := Kd.R_slice HO0_3.out
  subst eo6
  go_enter Try.func24, Try.ntmps24
  go_wp2_with (first | ((with_reducible refine gate_dst (N := 2) rfl ?_); refine box_event ?hg (N := 2) ?hd (cs := #[.int .i64 a0_0, .int .i64 a0_1, .slice Ao5 l0_2.length co5, .slice Ao6 l0_3.length co6]) (t := 28) ?hr ?_; (case hd => rfl); (case hg => rfl); (case hr => exact z_0); intro gb191 hg w7 hbox hb; have n0_ := Aside0.mk (Kd.R_below (z_85) hb); have n1_ := Aside0.mk (Kd.R_below (z_86) hb); have n2_ := Aside0.mk (Kept.below (S := (fun k_ => P0_2_ k_ ∨ P0_3_ k_)) (z_76) hb); have n3_ := Aside0.mk (below_step (z_1) hb); have n4_ := Aside0.mk (hbox); have n5_ := Aside0.mk ((by rw [hg]; exact (by first | exact HK.out.1 | exact (show Kept w _ (fun k_ => P0_2_ k_ ∨ P0_3_ k_) from z_76).1) : w.heap.size ≤ gb191)); have n6_ := Aside0.mk ((z_2 : w0.heap.size ≤ gb191)); clear HO0_2; clear HO0_3; clear HK; clear HB; have HO0_2 := n0_; have HO0_3 := n1_; have HK := n2_; have HB := n3_; have BK191 := n4_; have GW191 := n5_; have GE191 := n6_; clear n0_ n1_ n2_ n3_ n4_ n5_ n6_; clear hb hbox hg; obtain ⟨hcz8_0, hcz8_1, hcz8_2, hcz8_3, hfz8_0, hfz8_1, hfz8_2, hfz8_3⟩ := cells_4 BK191.out) | ((with_reducible refine gate_callee (f := 46) rfl ?_); refine goesL_ (some 8) rfl rfl Try.func46 (z_3) rfl #[.slice Ao5 l0_2.length co5, .int .i64 a1] rfl (z_20) ?_; (with_reducible refine (laws_markByteS.calls k (fun k_ => some k_ = (.slice Ao5 l0_2.length co5 : Value).ownBlock) (.slice Ao5 l0_2.length co5) l0_2 a1 t192 t193 w0 _ ?side1 ?side2 A3.out).mono ?_); (case side1 => exact z_87); (case side2 => exact Kd.R_tight rfl HO0_2.out); rintro e w9 ⟨rfl, hy0, hb, hkp⟩; refine ⟨_, rfl, ?_⟩; have n0_ := Aside0.mk (Kd.R_reok rfl hy0 (fun k_ e_ => HO0_2.out.1 k_ e_)); have n1_ := Aside0.mk (Kd.R_mono (ok' := fun k_ => ((P0_2_ k_ ∨ P0_3_ k_) ∨ w.heap.size ≤ k_)) (Kd.R_keptB ((Kd.R_apart' HO0_3.out (Kd.R_typed HO0_2.out) (z_53))) hkp (fun k_ hk_ hs_ => (hk_.2) hs_)) (fun k_ hk_ => hk_.1.1)); have n2_ := Aside0.mk (blk_kept (z_88) hkp (fun hs_ => (fun e_ => (Kd.R_ne HO0_2.out BK191.out (z_53)) e_) hs_)); have n3_ := Aside0.mk (Kept.then_ (S := (fun k_ => P0_2_ k_ ∨ P0_3_ k_)) (z_89) hkp (fun k_ hs_ => (fun e_ => (HO0_2.out.1 k_ e_.symm)) hs_)); have n4_ := Aside0.mk (hb); clear HO0_2; clear HO0_3; clear BK191; clear HK; clear HB; have HO0_2 := n0_; have HO0_3 := n1_; have BK191 := n2_; have HK := n3_; have HB := n4_; clear n0_ n1_ n2_ n3_ n4_; (try clear hb); (try clear hkp); (try clear hy0); obtain ⟨hcz10_0, hcz10_1, hcz10_2, hcz10_3, hfz10_0, hfz10_1, hfz10_2, hfz10_3⟩ := cells_4 BK191.out) | ((with_reducible refine gate_callee (f := 48) rfl ?_); refine goesL_ (some 12) rfl rfl Try.func48 (z_3) rfl #[.slice Ao6 l0_3.length co6, .int .i64 t192] rfl (z_20) ?_; (with_reducible refine (laws_markEarlyS.calls k (fun k_ => some k_ = (.slice Ao6 l0_3.length co6 : Value).ownBlock) (.slice Ao6 l0_3.length co6) l0_3 t192 t194 t195 w0 _ ?side1 ?side2 A4.out).mono ?_); (case side1 => exact z_87); (case side2 => exact Kd.R_tight rfl HO0_3.out); rintro e w11 ⟨rfl, hy0, hb, hkp⟩; refine ⟨_, rfl, ?_⟩; have n0_ := Aside0.mk (Kd.R_mono (ok' := fun k_ => ((P0_2_ k_ ∨ P0_3_ k_) ∨ w.heap.size ≤ k_)) (Kd.R_keptB ((Kd.R_apart' HO0_2.out (Kd.R_typed HO0_3.out) (z_53))) hkp (fun k_ hk_ hs_ => (hk_.2) hs_)) (fun k_ hk_ => hk_.1.1)); have n1_ := Aside0.mk (Kd.R_reok rfl hy0 (fun k_ e_ => HO0_3.out.1 k_ e_)); have n2_ := Aside0.mk (blk_kept (z_88) hkp (fun hs_ => (fun e_ => (Kd.R_ne HO0_3.out BK191.out (z_53)) e_) hs_)); have n3_ := Aside0.mk (Kept.then_ (S := (fun k_ => P0_2_ k_ ∨ P0_3_ k_)) (z_89) hkp (fun k_ hs_ => (fun e_ => (HO0_3.out.1 k_ e_.symm)) hs_)); have n4_ := Aside0.mk (hb); clear HO0_2; clear HO0_3; clear BK191; clear HK; clear HB; have HO0_2 := n0_; have HO0_3 := n1_; have BK191 := n2_; have HK := n3_; have HB := n4_; clear n0_ n1_ n2_ n3_ n4_; (try clear hb); (try clear hkp); (try clear hy0)))
  go_ret
  exact ⟨z_4, z_85, z_86, z_87, z_89⟩

/-! ### laws_markEnd: function 8 -/
def laws_markEnd.f (k : Nat) (a0_0 : Int) (a0_1 : Int) (a0_2 : Int) (a0_3 : Int) (a0_4 : Int) (a0_5 : Int) (a0_6 : Int) (l0_7 : List Int) (a0_8 : Int) (a0_9 : Int) (l0_10 : List (S69)) (a0_11 : Int) (a0_12 : Int) (l0_13 : List Int) (l0_14 : List (S59)) (a0_15 : Bool) (a0_16 : Bool) (a0_17 : Bool) (a0_18 : Int) (a0_19 : Int) (a0_20 : Int) (a0_21 : Int) (a0_22 : Int) (a0_23 : Int) (a1 : Int) : Option (Int × List Int × (List (S69)) × List Int × (List (S59))) := (laws_markMouth.f k a0_6 l0_7 a0_8 a0_9 l0_10 a1).bind fun bt197 => ((laws_markEar.f k a0_11 a0_12 l0_13 l0_14 bt197.1).bind fun bt200 => (some (bt200.1, bt197.2.1, bt197.2.2, bt200.2.1, bt200.2.2)))
theorem laws_markEnd.mono : ∀ a0 a1 a2 a3 a4 a5 a6 a7 a8 a9 a10 a11 a12 a13 a14 a15 a16 a17 a18 a19 a20 a21 a22 a23 a24 k, LeO (laws_markEnd.f k a0 a1 a2 a3 a4 a5 a6 a7 a8 a9 a10 a11 a12 a13 a14 a15 a16 a17 a18 a19 a20 a21 a22 a23 a24) (laws_markEnd.f (k + 1) a0 a1 a2 a3 a4 a5 a6 a7 a8 a9 a10 a11 a12 a13 a14 a15 a16 a17 a18 a19 a20 a21 a22 a23 a24) := by
  intro a0 a1 a2 a3 a4 a5 a6 a7 a8 a9 a10 a11 a12 a13 a14 a15 a16 a17 a18 a19 a20 a21 a22 a23 a24 k
  unfold laws_markEnd.f
  repeat' first
      | (with_reducible exact laws_markEar.mono _ _ _ _ _ _)
      | (with_reducible exact laws_markMouth.mono _ _ _ _ _ _ _)
      | (with_reducible exact LeO.refl _)
      | (with_reducible exact LeO.none _)
      | (with_reducible refine LeO.ite ?_ ?_)
      | (with_reducible refine LeO.bind ?_ (fun _ => ?_))
      | exact laws_markEar.mono _ _ _ _ _ _
      | exact laws_markMouth.mono _ _ _ _ _ _ _
      | exact LeO.none _
      | refine LeO.ite ?_ ?_
      | refine LeO.bind ?_ (fun _ => ?_)
set_option maxHeartbeats 8000000 in
set_option maxRecDepth 100000 in
theorem laws_markEnd.calls (k : Nat) (a0_0 : Int) (a0_1 : Int) (a0_2 : Int) (a0_3 : Int) (a0_4 : Int) (a0_5 : Int) (a0_6 : Int) (P0_7_ : Nat → Prop) (u9000_ : Value) (l0_7 : List Int) (a0_8 : Int) (a0_9 : Int) (P0_10_ : Nat → Prop) (u9001_ : Value) (l0_10 : List (S69)) (a0_11 : Int) (a0_12 : Int) (P0_13_ : Nat → Prop) (u9002_ : Value) (l0_13 : List Int) (P0_14_ : Nat → Prop) (u9003_ : Value) (l0_14 : List (S59)) (a0_15 : Bool) (a0_16 : Bool) (a0_17 : Bool) (a0_18 : Int) (a0_19 : Int) (a0_20 : Int) (a0_21 : Int) (a0_22 : Int) (a0_23 : Int) (a1 : Int) (r1 : Int) (r2 : List Int) (r3 : List (S69)) (r4 : List Int) (r5 : List (S59)) (w0 w : World) (hB : Below w0.heap.size w0 w) (ho0_7 : Kd.R (Kd.int .u8) 5 w w0.heap.size P0_7_ u9000_ l0_7) (hp0_7_0_13 : ∀ k_, P0_7_ k_ → ¬ P0_13_ k_) (ho0_10 : Kd.R k69 69 w w0.heap.size P0_10_ u9001_ l0_10) (ho0_13 : Kd.R (Kd.int .u8) 5 w w0.heap.size P0_13_ u9002_ l0_13) (hp0_13_0_7 : ∀ k_, P0_13_ k_ → ¬ P0_7_ k_) (ho0_14 : Kd.R k59 59 w w0.heap.size P0_14_ u9003_ l0_14) (h : laws_markEnd.f k a0_0 a0_1 a0_2 a0_3 a0_4 a0_5 a0_6 l0_7 a0_8 a0_9 l0_10 a0_11 a0_12 l0_13 l0_14 a0_15 a0_16 a0_17 a0_18 a0_19 a0_20 a0_21 a0_22 a0_23 a1 = some (r1, r2, r3, r4, r5)) :
    Calls Try.prog 8 #[.agg #[.int .i64 a0_0, .int .i64 a0_1, .int .i64 a0_2, .int .i64 a0_3, .int .i64 a0_4, .int .i64 a0_5, .int .i64 a0_6, u9000_, .int .i64 a0_8, .int .i64 a0_9, u9001_, .int .i64 a0_11, .int .i64 a0_12, u9002_, u9003_, .bool a0_15, .bool a0_16, .bool a0_17, .int .i64 a0_18, .int .i64 a0_19, .int .i64 a0_20, .int .i64 a0_21, .int .i64 a0_22, .int .i64 a0_23], .int .i64 a1] w fun e w' => e = .returned (.int .i64 r1) ∧ Kd.R (Kd.int .u8) 5 w' w0.heap.size (fun k_ => ((P0_7_ k_ ∨ P0_10_ k_ ∨ P0_13_ k_ ∨ P0_14_ k_) ∨ w.heap.size ≤ k_)) u9000_ r2 ∧ Kd.R k69 69 w' w0.heap.size (fun k_ => ((P0_7_ k_ ∨ P0_10_ k_ ∨ P0_13_ k_ ∨ P0_14_ k_) ∨ w.heap.size ≤ k_)) u9001_ r3 ∧ Kd.R (Kd.int .u8) 5 w' w0.heap.size (fun k_ => ((P0_7_ k_ ∨ P0_10_ k_ ∨ P0_13_ k_ ∨ P0_14_ k_) ∨ w.heap.size ≤ k_)) u9002_ r4 ∧ Kd.R k59 59 w' w0.heap.size (fun k_ => ((P0_7_ k_ ∨ P0_10_ k_ ∨ P0_13_ k_ ∨ P0_14_ k_) ∨ w.heap.size ≤ k_)) u9003_ r5 ∧ Below w0.heap.size w0 w' ∧ Kept w w' (fun k_ => P0_7_ k_ ∨ P0_10_ k_ ∨ P0_13_ k_ ∨ P0_14_ k_) := by
  have hu32 := Try.underlying32
  have hu25 := Try.underlying25
  have hu28 := Try.underlying28
  have HO0_7 := Aside0.mk (show Kd.R (Kd.int .u8) 5 w w0.heap.size (fun k_ => ((P0_7_ k_ ∨ P0_10_ k_ ∨ P0_13_ k_ ∨ P0_14_ k_) ∨ w.heap.size ≤ k_) ∧ some k_ ≠ (u9002_ : Value).ownBlock) u9000_ l0_7 from Kd.R_mono ho0_7 (fun k_ hk => ⟨(.inl (.inl hk)), fun e_ => hp0_7_0_13 k_ hk (ho0_13.1 k_ e_.symm)⟩))
  have HO0_10 := Aside0.mk (show Kd.R k69 69 w w0.heap.size (fun k_ => ((P0_7_ k_ ∨ P0_10_ k_ ∨ P0_13_ k_ ∨ P0_14_ k_) ∨ w.heap.size ≤ k_)) u9001_ l0_10 from Kd.R_mono ho0_10 (fun k_ hk => (.inl (.inr (.inl hk)))))
  have HO0_13 := Aside0.mk (show Kd.R (Kd.int .u8) 5 w w0.heap.size (fun k_ => ((P0_7_ k_ ∨ P0_10_ k_ ∨ P0_13_ k_ ∨ P0_14_ k_) ∨ w.heap.size ≤ k_) ∧ some k_ ≠ (u9000_ : Value).ownBlock) u9002_ l0_13 from Kd.R_mono ho0_13 (fun k_ hk => ⟨(.inl (.inr (.inr (.inl hk)))), fun e_ => hp0_13_0_7 k_ hk (ho0_7.1 k_ e_.symm)⟩))
  have HO0_14 := Aside0.mk (show Kd.R k59 59 w w0.heap.size (fun k_ => ((P0_7_ k_ ∨ P0_10_ k_ ∨ P0_13_ k_ ∨ P0_14_ k_) ∨ w.heap.size ≤ k_)) u9003_ l0_14 from Kd.R_mono ho0_14 (fun k_ hk => (.inl (.inr (.inr (.inr hk))))))
  have HK := Aside0.mk (Kept.refl w (fun k_ => P0_7_ k_ ∨ P0_10_ k_ ∨ P0_13_ k_ ∨ P0_14_ k_))
  have HW0 := Aside0.mk hB.size
  have HB := Aside0.mk hB
  clear hB
  have H : ((laws_markMouth.f k a0_6 l0_7 a0_8 a0_9 l0_10 a1).bind fun bt197 => ((laws_markEar.f k a0_11 a0_12 l0_13 l0_14 bt197.1).bind fun bt200 => (some (bt200.1, bt197.2.1, bt197.2.2, bt200.2.1, bt200.2.2)))) = some (r1, r2, r3, r4, r5) := h
  clear h
  replace H := Option.bind_eq_some_iff.mp H
  obtain ⟨⟨t197, t198, t199⟩, A30, H⟩ := H
  replace H : ((laws_markEar.f k a0_11 a0_12 l0_13 l0_14 t197).bind fun bt200 => (some (bt200.1, t198, t199, bt200.2.1, bt200.2.2))) = some (r1, r2, r3, r4, r5) := H
  have A3 := Aside0.mk A30
  clear A30
  replace H := Option.bind_eq_some_iff.mp H
  obtain ⟨⟨t200, t201, t202⟩, A40, H⟩ := H
  replace H : (some (t200, t198, t199, t201, t202)) = some (r1, r2, r3, r4, r5) := H
  have A4 := Aside0.mk A40
  clear A40
  simp only [Option.some.injEq, Prod.mk.injEq] at H
  obtain ⟨rfl, rfl, rfl, rfl, rfl⟩ := H
  obtain ⟨Ao5, co5, eo5⟩ := Kd.R_slice HO0_7.out
  subst eo5
  obtain ⟨Ao6, co6, eo6⟩ := Kd.R_slice HO0_10.out
  subst eo6
  obtain ⟨Ao7, co7, eo7⟩ := Kd.R_slice HO0_13.out
  subst eo7
  obtain ⟨Ao8, co8, eo8⟩ := Kd.R_slice HO0_14.out
  subst eo8
  go_enter Try.func8, Try.ntmps8
  go_wp2_with (first | ((with_reducible refine gate_dst (N := 2) rfl ?_); refine box_event ?hg (N := 2) ?hd (cs := #[.int .i64 a0_0, .int .i64 a0_1, .int .i64 a0_2, .int .i64 a0_3, .int .i64 a0_4, .int .i64 a0_5, .int .i64 a0_6, .slice Ao5 l0_7.length co5, .int .i64 a0_8, .int .i64 a0_9, .slice Ao6 l0_10.length co6, .int .i64 a0_11, .int .i64 a0_12, .slice Ao7 l0_13.length co7, .slice Ao8 l0_14.length co8, .bool a0_15, .bool a0_16, .bool a0_17, .int .i64 a0_18, .int .i64 a0_19, .int .i64 a0_20, .int .i64 a0_21, .int .i64 a0_22, .int .i64 a0_23]) (t := 32) ?hr ?_; (case hd => rfl); (case hg => rfl); (case hr => exact z_0); intro gb196 hg w9 hbox hb; have n0_ := Aside0.mk (Kd.R_below (by (with_reducible repeat (first | apply Kd.R_alloc | apply Kd.R_drewN | apply Kd.R_drew)); exact HO0_7.out) hb); have n1_ := Aside0.mk (Kd.R_below (z_90) hb); have n2_ := Aside0.mk (Kd.R_below (by (with_reducible repeat (first | apply Kd.R_alloc | apply Kd.R_drewN | apply Kd.R_drew)); exact HO0_13.out) hb); have n3_ := Aside0.mk (Kd.R_below (z_91) hb); have n4_ := Aside0.mk (Kept.below (S := (fun k_ => P0_7_ k_ ∨ P0_10_ k_ ∨ P0_13_ k_ ∨ P0_14_ k_)) (z_76) hb); have n5_ := Aside0.mk (below_step (z_1) hb); have n6_ := Aside0.mk (hbox); have n7_ := Aside0.mk ((by rw [hg]; exact (by first | exact HK.out.1 | exact (show Kept w _ (fun k_ => P0_7_ k_ ∨ P0_10_ k_ ∨ P0_13_ k_ ∨ P0_14_ k_) from z_76).1) : w.heap.size ≤ gb196)); have n8_ := Aside0.mk ((z_2 : w0.heap.size ≤ gb196)); clear HO0_7; clear HO0_10; clear HO0_13; clear HO0_14; clear HK; clear HB; have HO0_7 := n0_; have HO0_10 := n1_; have HO0_13 := n2_; have HO0_14 := n3_; have HK := n4_; have HB := n5_; have BK196 := n6_; have GW196 := n7_; have GE196 := n8_; clear n0_ n1_ n2_ n3_ n4_ n5_ n6_ n7_ n8_; clear hb hbox hg; obtain ⟨hcz10_0, hcz10_1, hcz10_2, hcz10_3, hcz10_4, hcz10_5, hcz10_6, hcz10_7, hcz10_8, hcz10_9, hcz10_10, hcz10_11, hcz10_12, hcz10_13, hcz10_14, hcz10_15, hcz10_16, hcz10_17, hcz10_18, hcz10_19, hcz10_20, hcz10_21, hcz10_22, hcz10_23, hfz10_0, hfz10_1, hfz10_2, hfz10_3, hfz10_4, hfz10_5, hfz10_6, hfz10_7, hfz10_8, hfz10_9, hfz10_10, hfz10_11, hfz10_12, hfz10_13, hfz10_14, hfz10_15, hfz10_16, hfz10_17, hfz10_18, hfz10_19, hfz10_20, hfz10_21, hfz10_22, hfz10_23⟩ := cells_24 BK196.out) | ((with_reducible refine gate_callee (f := 23) rfl ?_); refine goesL_ (some 8) rfl rfl Try.func23 (z_3) rfl #[.agg #[.int .i64 a0_6, .slice Ao5 l0_7.length co5, .int .i64 a0_8, .int .i64 a0_9, .slice Ao6 l0_10.length co6], .int .i64 a1] rfl (z_20) ?_; (with_reducible refine (laws_markMouth.calls k a0_6 (fun k_ => some k_ = (.slice Ao5 l0_7.length co5 : Value).ownBlock) (.slice Ao5 l0_7.length co5) l0_7 a0_8 a0_9 (fun k_ => some k_ = (.slice Ao6 l0_10.length co6 : Value).ownBlock) (.slice Ao6 l0_10.length co6) l0_10 a1 t197 t198 t199 w0 _ ?side1 ?side2 ?side3 A3.out).mono ?_); (case side1 => exact z_92); (case side2 => exact Kd.R_tight rfl HO0_7.out); (case side3 => exact Kd.R_tight rfl HO0_10.out); rintro e w11 ⟨rfl, hy0, hy1, hb, hkp⟩; refine ⟨_, rfl, ?_⟩; have n0_ := Aside0.mk (Kd.R_reok rfl hy0 (fun k_ e_ => HO0_7.out.1 k_ e_)); have n1_ := Aside0.mk (Kd.R_reok rfl hy1 (fun k_ e_ => HO0_10.out.1 k_ e_)); have n2_ := Aside0.mk (Kd.R_mono (ok' := fun k_ => ((P0_7_ k_ ∨ P0_10_ k_ ∨ P0_13_ k_ ∨ P0_14_ k_) ∨ w.heap.size ≤ k_) ∧ some k_ ≠ (.slice Ao5 l0_7.length co5 : Value).ownBlock) (Kd.R_keptB ((Kd.R_apart' HO0_13.out (Kd.R_typed HO0_10.out) (z_53))) hkp (fun k_ hk_ hs_ => Or.elim hs_ (fun e_ => (hk_.1.2) e_) (fun e_ => (hk_.2) e_))) (fun k_ hk_ => ⟨hk_.1.1.1, hk_.1.1.2⟩)); have n3_ := Aside0.mk (Kd.R_mono (ok' := fun k_ => ((P0_7_ k_ ∨ P0_10_ k_ ∨ P0_13_ k_ ∨ P0_14_ k_) ∨ w.heap.size ≤ k_)) (Kd.R_keptB ((Kd.R_apart' (Kd.R_apart' HO0_14.out (Kd.R_typed HO0_7.out) (z_53)) (Kd.R_typed HO0_10.out) (z_53))) hkp (fun k_ hk_ hs_ => Or.elim hs_ (fun e_ => (hk_.1.2) e_) (fun e_ => (hk_.2) e_))) (fun k_ hk_ => hk_.1.1.1)); have n4_ := Aside0.mk (blk_kept (z_93) hkp (fun hs_ => Or.elim hs_ (fun e_ => (fun e_ => (Kd.R_ne HO0_7.out BK196.out (z_53)) e_) e_) (fun e_ => (fun e_ => (Kd.R_ne HO0_10.out BK196.out (z_53)) e_) e_))); have n5_ := Aside0.mk (Kept.then_ (S := (fun k_ => P0_7_ k_ ∨ P0_10_ k_ ∨ P0_13_ k_ ∨ P0_14_ k_)) (z_94) hkp (fun k_ hs_ => Or.elim hs_ (fun e_ => (fun e_ => (HO0_7.out.1 k_ e_.symm).1) e_) (fun e_ => (fun e_ => (HO0_10.out.1 k_ e_.symm)) e_))); have n6_ := Aside0.mk (hb); clear HO0_7; clear HO0_10; clear HO0_13; clear HO0_14; clear BK196; clear HK; clear HB; have HO0_7 := n0_; have HO0_10 := n1_; have HO0_13 := n2_; have HO0_14 := n3_; have BK196 := n4_; have HK := n5_; have HB := n6_; clear n0_ n1_ n2_ n3_ n4_ n5_ n6_; (try clear hb); (try clear hkp); (try clear hy0); (try clear hy1); obtain ⟨hcz12_0, hcz12_1, hcz12_2, hcz12_3, hcz12_4, hcz12_5, hcz12_6, hcz12_7, hcz12_8, hcz12_9, hcz12_10, hcz12_11, hcz12_12, hcz12_13, hcz12_14, hcz12_15, hcz12_16, hcz12_17, hcz12_18, hcz12_19, hcz12_20, hcz12_21, hcz12_22, hcz12_23, hfz12_0, hfz12_1, hfz12_2, hfz12_3, hfz12_4, hfz12_5, hfz12_6, hfz12_7, hfz12_8, hfz12_9, hfz12_10, hfz12_11, hfz12_12, hfz12_13, hfz12_14, hfz12_15, hfz12_16, hfz12_17, hfz12_18, hfz12_19, hfz12_20, hfz12_21, hfz12_22, hfz12_23⟩ := cells_24 BK196.out) | ((with_reducible refine gate_callee (f := 24) rfl ?_); refine goesL_ (some 12) rfl rfl Try.func24 (z_3) rfl #[.agg #[.int .i64 a0_11, .int .i64 a0_12, .slice Ao7 l0_13.length co7, .slice Ao8 l0_14.length co8], .int .i64 t197] rfl (z_20) ?_; (with_reducible refine (laws_markEar.calls k a0_11 a0_12 (fun k_ => some k_ = (.slice Ao7 l0_13.length co7 : Value).ownBlock) (.slice Ao7 l0_13.length co7) l0_13 (fun k_ => some k_ = (.slice Ao8 l0_14.length co8 : Value).ownBlock) (.slice Ao8 l0_14.length co8) l0_14 t197 t200 t201 t202 w0 _ ?side1 ?side2 ?side3 A4.out).mono ?_); (case side1 => exact z_92); (case side2 => exact Kd.R_tight rfl HO0_13.out); (case side3 => exact Kd.R_tight rfl HO0_14.out); rintro e w13 ⟨rfl, hy0, hy1, hb, hkp⟩; refine ⟨_, rfl, ?_⟩; have n0_ := Aside0.mk (Kd.R_mono (ok' := fun k_ => ((P0_7_ k_ ∨ P0_10_ k_ ∨ P0_13_ k_ ∨ P0_14_ k_) ∨ w.heap.size ≤ k_) ∧ some k_ ≠ (.slice Ao7 l0_13.length co7 : Value).ownBlock) (Kd.R_keptB ((Kd.R_apart' HO0_7.out (Kd.R_typed HO0_14.out) (z_53))) hkp (fun k_ hk_ hs_ => Or.elim hs_ (fun e_ => (hk_.1.2) e_) (fun e_ => (hk_.2) e_))) (fun k_ hk_ => ⟨hk_.1.1.1, hk_.1.1.2⟩)); have n1_ := Aside0.mk (Kd.R_mono (ok' := fun k_ => ((P0_7_ k_ ∨ P0_10_ k_ ∨ P0_13_ k_ ∨ P0_14_ k_) ∨ w.heap.size ≤ k_)) (Kd.R_keptB ((Kd.R_apart' (Kd.R_apart' HO0_10.out (Kd.R_typed HO0_13.out) (z_53)) (Kd.R_typed HO0_14.out) (z_53))) hkp (fun k_ hk_ hs_ => Or.elim hs_ (fun e_ => (hk_.1.2) e_) (fun e_ => (hk_.2) e_))) (fun k_ hk_ => hk_.1.1.1)); have n2_ := Aside0.mk (Kd.R_reok rfl hy0 (fun k_ e_ => HO0_13.out.1 k_ e_)); have n3_ := Aside0.mk (Kd.R_reok rfl hy1 (fun k_ e_ => HO0_14.out.1 k_ e_)); have n4_ := Aside0.mk (blk_kept (z_93) hkp (fun hs_ => Or.elim hs_ (fun e_ => (fun e_ => (Kd.R_ne HO0_13.out BK196.out (z_53)) e_) e_) (fun e_ => (fun e_ => (Kd.R_ne HO0_14.out BK196.out (z_53)) e_) e_))); have n5_ := Aside0.mk (Kept.then_ (S := (fun k_ => P0_7_ k_ ∨ P0_10_ k_ ∨ P0_13_ k_ ∨ P0_14_ k_)) (z_94) hkp (fun k_ hs_ => Or.elim hs_ (fun e_ => (fun e_ => (HO0_13.out.1 k_ e_.symm).1) e_) (fun e_ => (fun e_ => (HO0_14.out.1 k_ e_.symm)) e_))); have n6_ := Aside0.mk (hb); clear HO0_7; clear HO0_10; clear HO0_13; clear HO0_14; clear BK196; clear HK; clear HB; have HO0_7 := n0_; have HO0_10 := n1_; have HO0_13 := n2_; have HO0_14 := n3_; have BK196 := n4_; have HK := n5_; have HB := n6_; clear n0_ n1_ n2_ n3_ n4_ n5_ n6_; (try clear hb); (try clear hkp); (try clear hy0); (try clear hy1)))
  go_ret
  exact ⟨z_4, by (with_reducible repeat (first | apply Kd.R_alloc | apply Kd.R_drewN | apply Kd.R_drew)); exact Kd.R_mono HO0_7.out (fun _ hk => hk.1), z_90, by (with_reducible repeat (first | apply Kd.R_alloc | apply Kd.R_drewN | apply Kd.R_drew)); exact Kd.R_mono HO0_13.out (fun _ hk => hk.1), z_91, z_92, z_94⟩

end Go.Proofs.Ytpadgacbkkjjfaa.GFnExactEndNew
