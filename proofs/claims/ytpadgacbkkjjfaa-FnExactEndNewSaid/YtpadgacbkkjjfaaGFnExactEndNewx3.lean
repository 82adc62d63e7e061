/- What the Go functions that FnExactEndNew reaches come to, walked step by step; there is no condition beyond those each statement names. -/
import Derived.Test.YtpadgacbkkjjfaaGFnExactEndNewx0
namespace Go.Proofs.Ytpadgacbkkjjfaa.GFnExactEndNew
open Go.RowKit Go.Proofs.YtpadgacbkkjjfaaVExactEndNew.PrintWords Go.Proofs.YtpadgacbkkjjfaaVExactEndNew.PrintLast Go.Proofs.YtpadgacbkkjjfaaVExactEndNew.PrintMore
attribute [local go_sem] max2_int min2_int max_two min_two max_three min_three max_four min_four   -- for this text's walks alone
set_option linter.unusedVariables false
set_option linter.unusedSimpArgs false

/-! ### spec_l15Open: function 42 -/
def spec_l15Open.j0 : Nat → Int → Bool → Int → Int → Int → Int → Int → Int → Int → List Int → Int → Int → List (S69) → Int → Int → List Int → List (S59) → Bool → Bool → Bool → Int → Int → Int → Int → Int → Int → Option (Bool)
  | 0, _, _, _, _, _, _, _, _, _, _, _, _, _, _, _, _, _, _, _, _, _, _, _, _, _, _ => none
  | k + 1, x4, x5, x121000, x121001, x121002, x121003, x121004, x121005, x121006, x121007, x121008, x121009, x121010, x121011, x121012, x121013, x121014, x121015, x121016, x121017, x121018, x121019, x121020, x121021, x121022, x121023 => if x5 = true then (some true) else (if x4 = 4 then (if x121008 > 0 then (some true) else (if x121016 = true then (if x121017 = true then (some (decide ((x121007.length : Int) > 0))) else (some true)) else (some (decide ((x121007.length : Int) > 0))))) else (some false))
def spec_l15Open.f (k : Nat) (a0_0 : Int) (a0_1 : Int) (a0_2 : Int) (a0_3 : Int) (a0_4 : Int) (a0_5 : Int) (a0_6 : Int) (l0_7 : List Int) (a0_8 : Int) (a0_9 : Int) (l0_10 : List (S69)) (a0_11 : Int) (a0_12 : Int) (l0_13 : List Int) (l0_14 : List (S59)) (a0_15 : Bool) (a0_16 : Bool) (a0_17 : Bool) (a0_18 : Int) (a0_19 : Int) (a0_20 : Int) (a0_21 : Int) (a0_22 : Int) (a0_23 : Int) : Option (Bool) := if a0_0 = 2 then (spec_l15Open.j0 k a0_0 (a0_0 == 2) a0_0 a0_1 a0_2 a0_3 a0_4 a0_5 a0_6 l0_7 a0_8 a0_9 l0_10 a0_11 a0_12 l0_13 l0_14 a0_15 a0_16 a0_17 a0_18 a0_19 a0_20 a0_21 a0_22 a0_23) else (spec_l15Open.j0 k a0_0 (a0_0 == 3) a0_0 a0_1 a0_2 a0_3 a0_4 a0_5 a0_6 l0_7 a0_8 a0_9 l0_10 a0_11 a0_12 l0_13 l0_14 a0_15 a0_16 a0_17 a0_18 a0_19 a0_20 a0_21 a0_22 a0_23)
theorem spec_l15Open.mono_l : ∀ k, (∀ y0 y1 y2 y3 y4 y5 y6 y7 y8 y9 y10 y11 y12 y13 y14 y15 y16 y17 y18 y19 y20 y21 y22 y23 y24 y25, LeO (spec_l15Open.j0 k y0 y1 y2 y3 y4 y5 y6 y7 y8 y9 y10 y11 y12 y13 y14 y15 y16 y17 y18 y19 y20 y21 y22 y23 y24 y25) (spec_l15Open.j0 (k + 1) y0 y1 y2 y3 y4 y5 y6 y7 y8 y9 y10 y11 y12 y13 y14 y15 y16 y17 y18 y19 y20 y21 y22 y23 y24 y25))
  | 0 => fun _ _ _ _ _ _ _ _ _ _ _ _ _ _ _ _ _ _ _ _ _ _ _ _ _ _ r h => by simp [spec_l15Open.j0] at h
  | k + 1 => by
    have ih0 := spec_l15Open.mono_l k
    · intro y0 y1 y2 y3 y4 y5 y6 y7 y8 y9 y10 y11 y12 y13 y14 y15 y16 y17 y18 y19 y20 y21 y22 y23 y24 y25
      unfold spec_l15Open.j0
      repeat' first
      | (with_reducible exact ih0 _ _ _ _ _ _ _ _ _ _ _ _ _ _ _ _ _ _ _ _ _ _ _ _ _ _)
      | (with_reducible exact LeO.refl _)
      | (with_reducible exact LeO.none _)
      | (with_reducible refine LeO.ite ?_ ?_)
      | (with_reducible refine LeO.bind ?_ (fun _ => ?_))
      | exact ih0 _ _ _ _ _ _ _ _ _ _ _ _ _ _ _ _ _ _ _ _ _ _ _ _ _ _
      | exact LeO.none _
      | refine LeO.ite ?_ ?_
      | refine LeO.bind ?_ (fun _ => ?_)
theorem spec_l15Open.mono : ∀ a0 a1 a2 a3 a4 a5 a6 a7 a8 a9 a10 a11 a12 a13 a14 a15 a16 a17 a18 a19 a20 a21 a22 a23 k, LeO (spec_l15Open.f k a0 a1 a2 a3 a4 a5 a6 a7 a8 a9 a10 a11 a12 a13 a14 a15 a16 a17 a18 a19 a20 a21 a22 a23) (spec_l15Open.f (k + 1) a0 a1 a2 a3 a4 a5 a6 a7 a8 a9 a10 a11 a12 a13 a14 a15 a16 a17 a18 a19 a20 a21 a22 a23) := by
  intro a0 a1 a2 a3 a4 a5 a6 a7 a8 a9 a10 a11 a12 a13 a14 a15 a16 a17 a18 a19 a20 a21 a22 a23 k
  have ih0 := spec_l15Open.mono_l k
  unfold spec_l15Open.f
  repeat' first
      | (with_reducible exact ih0 _ _ _ _ _ _ _ _ _ _ _ _ _ _ _ _ _ _ _ _ _ _ _ _ _ _)
      | (with_reducible exact LeO.refl _)
      | (with_reducible exact LeO.none _)
      | (with_reducible refine LeO.ite ?_ ?_)
      | (with_reducible refine LeO.bind ?_ (fun _ => ?_))
      | exact ih0 _ _ _ _ _ _ _ _ _ _ _ _ _ _ _ _ _ _ _ _ _ _ _ _ _ _
      | exact LeO.none _
      | refine LeO.ite ?_ ?_
      | refine LeO.bind ?_ (fun _ => ?_)
set_option maxHeartbeats 8000000 in
set_option maxRecDepth 100000 in
theorem spec_l15Open.calls (k : Nat) (a0_0 : Int) (a0_1 : Int) (a0_2 : Int) (a0_3 : Int) (a0_4 : Int) (a0_5 : Int) (a0_6 : Int) (A0_7 : Option Addr) (c0_7 : Nat) (l0_7 : List Int) (a0_8 : Int) (a0_9 : Int) (A0_10 : Option Addr) (c0_10 : Nat) (l0_10 : List (S69)) (a0_11 : Int) (a0_12 : Int) (A0_13 : Option Addr) (c0_13 : Nat) (l0_13 : List Int) (A0_14 : Option Addr) (c0_14 : Nat) (l0_14 : List (S59)) (a0_15 : Bool) (a0_16 : Bool) (a0_17 : Bool) (a0_18 : Int) (a0_19 : Int) (a0_20 : Int) (a0_21 : Int) (a0_22 : Int) (a0_23 : Int) (r : Bool) (w : World) (hr0_7 : Kd.C (Kd.int .u8) w A0_7 l0_7.length l0_7) (hc0_7 : l0_7.length ≤ c0_7) (hr0_10 : Kd.C k69 w A0_10 l0_10.length l0_10) (hc0_10 : l0_10.length ≤ c0_10) (hr0_13 : Kd.C (Kd.int .u8) w A0_13 l0_13.length l0_13) (hc0_13 : l0_13.length ≤ c0_13) (hr0_14 : Kd.C k59 w A0_14 l0_14.length l0_14) (hc0_14 : l0_14.length ≤ c0_14) (h : spec_l15Open.f k a0_0 a0_1 a0_2 a0_3 a0_4 a0_5 a0_6 l0_7 a0_8 a0_9 l0_10 a0_11 a0_12 l0_13 l0_14 a0_15 a0_16 a0_17 a0_18 a0_19 a0_20 a0_21 a0_22 a0_23 = some r) :
    Calls Try.prog 42 #[.agg #[.int .i64 a0_0, .int .i64 a0_1, .int .i64 a0_2, .int .i64 a0_3, .int .i64 a0_4, .int .i64 a0_5, .int .i64 a0_6, .slice A0_7 l0_7.length c0_7, .int .i64 a0_8, .int .i64 a0_9, .slice A0_10 l0_10.length c0_10, .int .i64 a0_11, .int .i64 a0_12, .slice A0_13 l0_13.length c0_13, .slice A0_14 l0_14.length c0_14, .bool a0_15, .bool a0_16, .bool a0_17, .int .i64 a0_18, .int .i64 a0_19, .int .i64 a0_20, .int .i64 a0_21, .int .i64 a0_22, .int .i64 a0_23]] w fun e w' => e = .returned (.bool r) ∧ Below w.heap.size w w' := by
  have hu32 := Try.underlying32
  have HR0_7 := Aside0.mk hr0_7
  have HC0_7 := Aside0.mk hc0_7
  clear hr0_7 hc0_7
  have HR0_10 := Aside0.mk hr0_10
  have HC0_10 := Aside0.mk hc0_10
  clear hr0_10 hc0_10
  have HR0_13 := Aside0.mk hr0_13
  have HC0_13 := Aside0.mk hc0_13
  clear hr0_13 hc0_13
  have HR0_14 := Aside0.mk hr0_14
  have HC0_14 := Aside0.mk hc0_14
  clear hr0_14 hc0_14
  have HB := Aside0.mk (Below.refl w.heap.size w)
  have H : (if a0_0 = 2 then (spec_l15Open.j0 k a0_0 (a0_0 == 2) a0_0 a0_1 a0_2 a0_3 a0_4 a0_5 a0_6 l0_7 a0_8 a0_9 l0_10 a0_11 a0_12 l0_13 l0_14 a0_15 a0_16 a0_17 a0_18 a0_19 a0_20 a0_21 a0_22 a0_23) else (spec_l15Open.j0 k a0_0 (a0_0 == 3) a0_0 a0_1 a0_2 a0_3 a0_4 a0_5 a0_6 l0_7 a0_8 a0_9 l0_10 a0_11 a0_12 l0_13 l0_14 a0_15 a0_16 a0_17 a0_18 a0_19 a0_20 a0_21 a0_22 a0_23)) = some r := h
  clear h
  have HC2 := Aside0.mk H
  clear H
  go_enter Try.func42, Try.ntmps42
  go_upto_if 5 with (first | ((with_reducible refine gate_dst (N := 1) rfl ?_); refine box_event ?hg (N := 1) ?hd (cs := #[.int .i64 a0_0, .int .i64 a0_1, .int .i64 a0_2, .int .i64 a0_3, .int .i64 a0_4, .int .i64 a0_5, .int .i64 a0_6, .slice A0_7 l0_7.length c0_7, .int .i64 a0_8, .int .i64 a0_9, .slice A0_10 l0_10.length c0_10, .int .i64 a0_11, .int .i64 a0_12, .slice A0_13 l0_13.length c0_13, .slice A0_14 l0_14.length c0_14, .bool a0_15, .bool a0_16, .bool a0_17, .int .i64 a0_18, .int .i64 a0_19, .int .i64 a0_20, .int .i64 a0_21, .int .i64 a0_22, .int .i64 a0_23]) (t := 32) ?hr ?_; (case hd => rfl); (case hg => rfl); (case hr => exact z_0); intro gb120 hg w3 hbox hb; have n0_ := Aside0.mk (below_step (z_1) hb); have n1_ := Aside0.mk (hbox); have n2_ := Aside0.mk ((z_2 : w.heap.size ≤ gb120)); have n3_ := Aside0.mk ((z_2 : w.heap.size ≤ gb120)); clear HB; have HB := n0_; have BK120 := n1_; have GW120 := n2_; have GE120 := n3_; clear n0_ n1_ n2_ n3_; clear hb hbox hg; obtain ⟨hcz4_0, hcz4_1, hcz4_2, hcz4_3, hcz4_4, hcz4_5, hcz4_6, hcz4_7, hcz4_8, hcz4_9, hcz4_10, hcz4_11, hcz4_12, hcz4_13, hcz4_14, hcz4_15, hcz4_16, hcz4_17, hcz4_18, hcz4_19, hcz4_20, hcz4_21, hcz4_22, hcz4_23, hfz4_0, hfz4_1, hfz4_2, hfz4_3, hfz4_4, hfz4_5, hfz4_6, hfz4_7, hfz4_8, hfz4_9, hfz4_10, hfz4_11, hfz4_12, hfz4_13, hfz4_14, hfz4_15, hfz4_16, hfz4_17, hfz4_18, hfz4_19, hfz4_20, hfz4_21, hfz4_22, hfz4_23⟩ := cells_24 BK120.out))
  (try simp only [Act.put, List.setIfInBounds_toArray, List.set_cons_zero, List.set_cons_succ])
  go_cut [5] (fun v5 wc => ∃ (kq : Nat) (x5_1 : Bool), v5 = .bool x5_1 ∧ Aside0 (spec_l15Open.j0 kq a0_0 x5_1 a0_0 a0_1 a0_2 a0_3 a0_4 a0_5 a0_6 l0_7 a0_8 a0_9 l0_10 a0_11 a0_12 l0_13 l0_14 a0_15 a0_16 a0_17 a0_18 a0_19 a0_20 a0_21 a0_22 a0_23 = some r) ∧ Aside0 (kq ≤ k) ∧ Aside0 (wc.heap[gb120]? = some (.cells #[.int .i64 a0_0, .int .i64 a0_1, .int .i64 a0_2, .int .i64 a0_3, .int .i64 a0_4, .int .i64 a0_5, .int .i64 a0_6, (.slice A0_7 l0_7.length c0_7), .int .i64 a0_8, .int .i64 a0_9, (.slice A0_10 l0_10.length c0_10), .int .i64 a0_11, .int .i64 a0_12, (.slice A0_13 l0_13.length c0_13), (.slice A0_14 l0_14.length c0_14), .bool a0_15, .bool a0_16, .bool a0_17, .int .i64 a0_18, .int .i64 a0_19, .int .i64 a0_20, .int .i64 a0_21, .int .i64 a0_22, .int .i64 a0_23] 32 (0, 0))) ∧ Aside0 (Below w.heap.size w wc))
  case first =>
    have H := HC2.out
    clear HC2
    by_cases c5 : a0_0 = 2
    rw [if_pos c5] at H
    have c5b0 : (a0_0 == 2) = true := beq_iff_eq.mpr c5
    have c5b1 : (a0_0 != 2) = false := bne_eq_false_iff_eq.mpr c5
    clear c5
    (first | rw [c5b0] | (simp only [i64_w, i32_w]; rw [c5b0]) | skip)
    have H' := Aside0.mk H
    clear H
    rotate_left
    rw [if_neg c5] at H
    have c5b0 : (a0_0 == 2) = false := beq_eq_false_iff_ne.mpr c5
    have c5b1 : (a0_0 != 2) = true := bne_iff_ne.mpr c5
    (first | rw [c5b0] | (simp only [i64_w, i32_w]; rw [c5b0]) | skip)
    have H' := Aside0.mk H
    clear H
    rotate_left
    all_goals (
     go_wp2
     go_meet
     case rel => first | (exact ⟨_, ((a0_0 == 2)), (z_5), H', ⟨z_7⟩, ⟨z_21⟩, ⟨z_22⟩⟩) | (exact ⟨_, ((a0_0 == 3)), (z_5), H', ⟨z_7⟩, ⟨z_21⟩, ⟨z_22⟩⟩))
  case rest =>
    clear HC2
    try clear hcz4_0
    try clear hcz4_1
    try clear hcz4_10
    try clear hcz4_11
    try clear hcz4_12
    try clear hcz4_13
    try clear hcz4_14
    try clear hcz4_15
    try clear hcz4_16
    try clear hcz4_17
    try clear hcz4_18
    try clear hcz4_19
    try clear hcz4_2
    try clear hcz4_20
    try clear hcz4_21
    try clear hcz4_22
    try clear hcz4_23
    try clear hcz4_3
    try clear hcz4_4
    try clear hcz4_5
    try clear hcz4_6
    try clear hcz4_7
    try clear hcz4_8
    try clear hcz4_9
    try clear hfz4_0
    try clear hfz4_1
    try clear hfz4_10
    try clear hfz4_11
    try clear hfz4_12
    try clear hfz4_13
    try clear hfz4_14
    try clear hfz4_15
    try clear hfz4_16
    try clear hfz4_17
    try clear hfz4_18
    try clear hfz4_19
    try clear hfz4_2
    try clear hfz4_20
    try clear hfz4_21
    try clear hfz4_22
    try clear hfz4_23
    try clear hfz4_3
    try clear hfz4_4
    try clear hfz4_5
    try clear hfz4_6
    try clear hfz4_7
    try clear hfz4_8
    try clear hfz4_9
    obtain ⟨kq, x5_1, rfl, HA, HJ1, BK120, HB⟩ := hcut
    cases kq with
    | zero => exact absurd HA.out (by simp [spec_l15Open.j0])
    | succ kj1 =>
      have H := HA.out
      clear HA
      simp only [spec_l15Open.j0] at H
      by_cases c6 : x5_1 = true
      subst c6
      rw [if_pos rfl] at H
      obtain rfl := Option.some.inj H
      rotate_left
      replace c6 := Bool.eq_false_iff.mpr c6
      subst c6
      rw [if_neg (show ¬ (false = true) by decide)] at H
      by_cases c7 : a0_0 = 4
      rw [if_pos c7] at H
      have c7b0 : (a0_0 == 4) = true := beq_iff_eq.mpr c7
      have c7b1 : (a0_0 != 4) = false := bne_eq_false_iff_eq.mpr c7
      clear c7
      by_cases c8 : a0_8 > 0
      rw [if_pos c8] at H
      have c8b0 : decide (0 < a0_8) = true := decide_eq_true c8
      clear c8
      obtain rfl := Option.some.inj H
      obtain ⟨hcz9_0, hcz9_1, hcz9_2, hcz9_3, hcz9_4, hcz9_5, hcz9_6, hcz9_7, hcz9_8, hcz9_9, hcz9_10, hcz9_11, hcz9_12, hcz9_13, hcz9_14, hcz9_15, hcz9_16, hcz9_17, hcz9_18, hcz9_19, hcz9_20, hcz9_21, hcz9_22, hcz9_23, hfz9_0, hfz9_1, hfz9_2, hfz9_3, hfz9_4, hfz9_5, hfz9_6, hfz9_7, hfz9_8, hfz9_9, hfz9_10, hfz9_11, hfz9_12, hfz9_13, hfz9_14, hfz9_15, hfz9_16, hfz9_17, hfz9_18, hfz9_19, hfz9_20, hfz9_21, hfz9_22, hfz9_23⟩ := cells_24 BK120.out
      rotate_left
      rw [if_neg c8] at H
      have c8b0 : decide (0 < a0_8) = false := decide_eq_false c8
      clear c8
      by_cases c10 : a0_16 = true
      subst c10
      rw [if_pos rfl] at H
      by_cases c11 : a0_17 = true
      subst c11
      rw [if_pos rfl] at H
      obtain rfl := Option.some.inj H
      obtain ⟨hcz12_0, hcz12_1, hcz12_2, hcz12_3, hcz12_4, hcz12_5, hcz12_6, hcz12_7, hcz12_8, hcz12_9, hcz12_10, hcz12_11, hcz12_12, hcz12_13, hcz12_14, hcz12_15, hcz12_16, hcz12_17, hcz12_18, hcz12_19, hcz12_20, hcz12_21, hcz12_22, hcz12_23, hfz12_0, hfz12_1, hfz12_2, hfz12_3, hfz12_4, hfz12_5, hfz12_6, hfz12_7, hfz12_8, hfz12_9, hfz12_10, hfz12_11, hfz12_12, hfz12_13, hfz12_14, hfz12_15, hfz12_16, hfz12_17, hfz12_18, hfz12_19, hfz12_20, hfz12_21, hfz12_22, hfz12_23⟩ := cells_24 BK120.out
      rotate_left
      replace c11 := Bool.eq_false_iff.mpr c11
      subst c11
      rw [if_neg (show ¬ (false = true) by decide)] at H
      obtain rfl := Option.some.inj H
      obtain ⟨hcz13_0, hcz13_1, hcz13_2, hcz13_3, hcz13_4, hcz13_5, hcz13_6, hcz13_7, hcz13_8, hcz13_9, hcz13_10, hcz13_11, hcz13_12, hcz13_13, hcz13_14, hcz13_15, hcz13_16, hcz13_17, hcz13_18, hcz13_19, hcz13_20, hcz13_21, hcz13_22, hcz13_23, hfz13_0, hfz13_1, hfz13_2, hfz13_3, hfz13_4, hfz13_5, hfz13_6, hfz13_7, hfz13_8, hfz13_9, hfz13_10, hfz13_11, hfz13_12, hfz13_13, hfz13_14, hfz13_15, hfz13_16, hfz13_17, hfz13_18, hfz13_19, hfz13_20, hfz13_21, hfz13_22, hfz13_23⟩ := cells_24 BK120.out
      rotate_left
      replace c10 := Bool.eq_false_iff.mpr c10
      subst c10
      rw [if_neg (show ¬ (false = true) by decide)] at H
      obtain rfl := Option.some.inj H
      obtain ⟨hcz14_0, hcz14_1, hcz14_2, hcz14_3, hcz14_4, hcz14_5, hcz14_6, hcz14_7, hcz14_8, hcz14_9, hcz14_10, hcz14_11, hcz14_12, hcz14_13, hcz14_14, hcz14_15, hcz14_16, hcz14_17, hcz14_18, hcz14_19, hcz14_20, hcz14_21, hcz14_22, hcz14_23, hfz14_0, hfz14_1, hfz14_2, hfz14_3, hfz14_4, hfz14_5, hfz14_6, hfz14_7, hfz14_8, hfz14_9, hfz14_10, hfz14_11, hfz14_12, hfz14_13, hfz14_14, hfz14_15, hfz14_16, hfz14_17, hfz14_18, hfz14_19, hfz14_20, hfz14_21, hfz14_22, hfz14_23⟩ := cells_24 BK120.out
      rotate_left
      rw [if_neg c7] at H
      have c7b0 : (a0_0 == 4) = false := beq_eq_false_iff_ne.mpr c7
      have c7b1 : (a0_0 != 4) = true := bne_iff_ne.mpr c7
      obtain rfl := Option.some.inj H
      rotate_left
      all_goals (
       go_wp2
       go_ret
       exact ⟨z_4, z_22⟩)

end Go.Proofs.Ytpadgacbkkjjfaa.GFnExactEndNew
