/- What the Go functions that FnExactEndNew reaches come to, walked step by step; there is no condition beyond those each statement names. -/
import Derived.Test.YtpadgacbkkjjfaaGFnExactEndNewx0
import Derived.Test.YtpadgacbkkjjfaaGFnExactEndNewx1
namespace Go.Proofs.Ytpadgacbkkjjfaa.GFnExactEndNew
open Go.RowKit Go.Proofs.YtpadgacbkkjjfaaVExactEndNew.PrintWords Go.Proofs.YtpadgacbkkjjfaaVExactEndNew.PrintLast Go.Proofs.YtpadgacbkkjjfaaVExactEndNew.PrintMore
attribute [local go_sem] max2_int min2_int max_two min_two max_three min_three max_four min_four   -- for this text's walks alone
set_option linter.unusedVariables false
set_option linter.unusedSimpArgs false

/-! ### spec_EarOk: function 40 -/
mutual
def spec_EarOk.j0 : Nat → Bool → Int → Int → List Int → List (S59) → Option (Bool)
  | 0, _, _, _, _, _ => none
  | k + 1, x21, x110000, x110001, x110002, x110003 => if x21 = true then (some false) else (spec_EarOk.l0 k 0 x110000 x110001 x110002 x110003)
def spec_EarOk.l0 : Nat → Int → Int → Int → List Int → List (S59) → Option (Bool)
  | 0, _, _, _, _, _ => none
  | k + 1, x3, x110000, x110001, x110002, x110003 => if x3 < (x110003.length : Int) then (if 0 ≤ x3 then (if ((rd_T59 x110003 x3).f0) ≤ x110000 then (some false) else (if ((rd_T59 x110003 x3).f0) ≥ (wrap64 ((wrap64 (x110000 + x110001)) - (x110002.length : Int))) then (some false) else (if x3 > 0 then (if 0 ≤ (wrap64 (x3 - 1)) then (if (wrap64 (x3 - 1)) < (x110003.length : Int) then (if ((rd_T59 x110003 (wrap64 (x3 - 1))).f0) ≥ ((rd_T59 x110003 x3).f0) then (some false) else (spec_EarOk.l0 k (wrap64 (x3 + 1)) x110000 x110001 x110002 x110003)) else (none)) else (none)) else (spec_EarOk.l0 k (wrap64 (x3 + 1)) x110000 x110001 x110002 x110003)))) else (none)) else (some true)
end
def spec_EarOk.f (k : Nat) (a0_0 : Int) (a0_1 : Int) (l0_2 : List Int) (l0_3 : List (S59)) : Option (Bool) := (spec_l1In.f a0_0 0 1000000).bind fun t110 => (if t110 = true then ((spec_l1In.f a0_1 1 32).bind fun t111 => (if t111 = true then (spec_EarOk.j0 k (decide ((l0_2.length : Int) > a0_1)) a0_0 a0_1 l0_2 l0_3) else (spec_EarOk.j0 k true a0_0 a0_1 l0_2 l0_3))) else (spec_EarOk.j0 k true a0_0 a0_1 l0_2 l0_3))
theorem spec_EarOk.mono_l : ∀ k, (∀ y0 y1 y2 y3 y4, LeO (spec_EarOk.j0 k y0 y1 y2 y3 y4) (spec_EarOk.j0 (k + 1) y0 y1 y2 y3 y4)) ∧ (∀ y0 y1 y2 y3 y4, LeO (spec_EarOk.l0 k y0 y1 y2 y3 y4) (spec_EarOk.l0 (k + 1) y0 y1 y2 y3 y4))
  | 0 => ⟨fun _ _ _ _ _ r h => by simp [spec_EarOk.j0] at h, fun _ _ _ _ _ r h => by simp [spec_EarOk.l0] at h⟩
  | k + 1 => by
    obtain ⟨ih0, ih1⟩ := spec_EarOk.mono_l k
    refine ⟨?_, ?_⟩
    · intro y0 y1 y2 y3 y4
      unfold spec_EarOk.j0
      repeat' first
      | (with_reducible exact ih0 _ _ _ _ _)
      | (with_reducible exact ih1 _ _ _ _ _)
      | (with_reducible exact LeO.refl _)
      | (with_reducible exact LeO.none _)
      | (with_reducible refine LeO.ite ?_ ?_)
      | (with_reducible refine LeO.bind ?_ (fun _ => ?_))
      | exact ih0 _ _ _ _ _
      | exact ih1 _ _ _ _ _
      | exact LeO.none _
      | refine LeO.ite ?_ ?_
      | refine LeO.bind ?_ (fun _ => ?_)
    · intro y0 y1 y2 y3 y4
      unfold spec_EarOk.l0
      repeat' first
      | (with_reducible exact ih0 _ _ _ _ _)
      | (with_reducible exact ih1 _ _ _ _ _)
      | (with_reducible exact LeO.refl _)
      | (with_reducible exact LeO.none _)
      | (with_reducible refine LeO.ite ?_ ?_)
      | (with_reducible refine LeO.bind ?_ (fun _ => ?_))
      | exact ih0 _ _ _ _ _
      | exact ih1 _ _ _ _ _
      | exact LeO.none _
      | refine LeO.ite ?_ ?_
      | refine LeO.bind ?_ (fun _ => ?_)
theorem spec_EarOk.mono : ∀ a0 a1 a2 a3 k, LeO (spec_EarOk.f k a0 a1 a2 a3) (spec_EarOk.f (k + 1) a0 a1 a2 a3) := by
  intro a0 a1 a2 a3 k
  obtain ⟨ih0, ih1⟩ := spec_EarOk.mono_l k
  unfold spec_EarOk.f
  repeat' first
      | (with_reducible exact ih0 _ _ _ _ _)
      | (with_reducible exact ih1 _ _ _ _ _)
      | (with_reducible exact LeO.refl _)
      | (with_reducible exact LeO.none _)
      | (with_reducible refine LeO.ite ?_ ?_)
      | (with_reducible refine LeO.bind ?_ (fun _ => ?_))
      | exact ih0 _ _ _ _ _
      | exact ih1 _ _ _ _ _
      | exact LeO.none _
      | refine LeO.ite ?_ ?_
      | refine LeO.bind ?_ (fun _ => ?_)
set_option maxHeartbeats 8000000 in
set_option maxRecDepth 100000 in
theorem spec_EarOk.calls (k : Nat) (a0_0 : Int) (a0_1 : Int) (A0_2 : Option Addr) (c0_2 : Nat) (l0_2 : List Int) (A0_3 : Option Addr) (c0_3 : Nat) (l0_3 : List (S59)) (r : Bool) (w : World) (hr0_2 : Kd.C (Kd.int .u8) w A0_2 l0_2.length l0_2) (hc0_2 : l0_2.length ≤ c0_2) (hr0_3 : Kd.C k59 w A0_3 l0_3.length l0_3) (hc0_3 : l0_3.length ≤ c0_3) (h : spec_EarOk.f k a0_0 a0_1 l0_2 l0_3 = some r) :
    Calls Try.prog 40 #[.agg #[.int .i64 a0_0, .int .i64 a0_1, .slice A0_2 l0_2.length c0_2, .slice A0_3 l0_3.length c0_3]] w fun e w' => e = .returned (.bool r) ∧ Below w.heap.size w w' := by
  have hu28 := Try.underlying28
  have HR0_2 := Aside0.mk hr0_2
  have HC0_2 := Aside0.mk hc0_2
  clear hr0_2 hc0_2
  have HR0_3 := Aside0.mk hr0_3
  have HC0_3 := Aside0.mk hc0_3
  clear hr0_3 hc0_3
  have HB := Aside0.mk (Below.refl w.heap.size w)
  have H : ((spec_l1In.f a0_0 0 1000000).bind fun t110 => (if t110 = true then ((spec_l1In.f a0_1 1 32).bind fun t111 => (if t111 = true then (spec_EarOk.j0 k (decide ((l0_2.length : Int) > a0_1)) a0_0 a0_1 l0_2 l0_3) else (spec_EarOk.j0 k true a0_0 a0_1 l0_2 l0_3))) else (spec_EarOk.j0 k true a0_0 a0_1 l0_2 l0_3))) = some r := h
  clear h
  have HC2 := Aside0.mk H
  clear H
  go_enter Try.func40, Try.ntmps40
  go_upto_region 1 with (first | ((with_reducible refine gate_dst (N := 1) rfl ?_); refine box_event ?hg (N := 1) ?hd (cs := #[.int .i64 a0_0, .int .i64 a0_1, .slice A0_2 l0_2.length c0_2, .slice A0_3 l0_3.length c0_3]) (t := 28) ?hr ?_; (case hd => rfl); (case hg => rfl); (case hr => exact z_0); intro gb109 hg w3 hbox hb; have n0_ := Aside0.mk (below_step (z_1) hb); have n1_ := Aside0.mk (hbox); have n2_ := Aside0.mk ((z_2 : w.heap.size ≤ gb109)); have n3_ := Aside0.mk ((z_2 : w.heap.size ≤ gb109)); clear HB; have HB := n0_; have BK109 := n1_; have GW109 := n2_; have GE109 := n3_; clear n0_ n1_ n2_ n3_; clear hb hbox hg))
  repeat (go_quiet (first | ((with_reducible refine gate_dst (N := 1) rfl ?_); refine box_event ?hg (N := 1) ?hd (cs := #[.int .i64 a0_0, .int .i64 a0_1, .slice A0_2 l0_2.length c0_2, .slice A0_3 l0_3.length c0_3]) (t := 28) ?hr ?_; (case hd => rfl); (case hg => rfl); (case hr => exact z_0); intro gb109 hg w3 hbox hb; have n0_ := Aside0.mk (below_step (z_1) hb); have n1_ := Aside0.mk (hbox); have n2_ := Aside0.mk ((z_2 : w.heap.size ≤ gb109)); have n3_ := Aside0.mk ((z_2 : w.heap.size ≤ gb109)); clear HB; have HB := n0_; have BK109 := n1_; have GW109 := n2_; have GE109 := n3_; clear n0_ n1_ n2_ n3_; clear hb hbox hg)); go_upto_region 1 with (first | ((with_reducible refine gate_dst (N := 1) rfl ?_); refine box_event ?hg (N := 1) ?hd (cs := #[.int .i64 a0_0, .int .i64 a0_1, .slice A0_2 l0_2.length c0_2, .slice A0_3 l0_3.length c0_3]) (t := 28) ?hr ?_; (case hd => rfl); (case hg => rfl); (case hr => exact z_0); intro gb109 hg w3 hbox hb; have n0_ := Aside0.mk (below_step (z_1) hb); have n1_ := Aside0.mk (hbox); have n2_ := Aside0.mk ((z_2 : w.heap.size ≤ gb109)); have n3_ := Aside0.mk ((z_2 : w.heap.size ≤ gb109)); clear HB; have HB := n0_; have BK109 := n1_; have GW109 := n2_; have GE109 := n3_; clear n0_ n1_ n2_ n3_; clear hb hbox hg)))
  (try simp only [Act.put, List.setIfInBounds_toArray, List.set_cons_zero, List.set_cons_succ])
  go_cut [21] (fun v21 wc => ∃ (kq : Nat) (x21_1 : Bool), v21 = .bool x21_1 ∧ Aside0 (spec_EarOk.j0 kq x21_1 a0_0 a0_1 l0_2 l0_3 = some r) ∧ Aside0 (kq ≤ k) ∧ Aside0 (wc.heap[gb109]? = some (.cells #[.int .i64 a0_0, .int .i64 a0_1, (.slice A0_2 l0_2.length c0_2), (.slice A0_3 l0_3.length c0_3)] 28 (0, 0))) ∧ Aside0 (Below w.heap.size w wc))
  case first =>
    have H := HC2.out
    clear HC2
    replace H := Option.bind_eq_some_iff.mp H
    obtain ⟨t110, A40, H⟩ := H
    have A4 := Aside0.mk A40
    clear A40
    obtain ⟨hcz9_0, hcz9_1, hcz9_2, hcz9_3, hfz9_0, hfz9_1, hfz9_2, hfz9_3⟩ := cells_4 BK109.out
    by_cases c5 : t110 = true
    subst c5
    rw [if_pos rfl] at H
    replace H := Option.bind_eq_some_iff.mp H
    obtain ⟨t111, A60, H⟩ := H
    have A6 := Aside0.mk A60
    clear A60
    by_cases c7 : t111 = true
    subst c7
    rw [if_pos rfl] at H
    have H' := Aside0.mk H
    clear H
    rotate_left
    replace c7 := Bool.eq_false_iff.mpr c7
    subst c7
    rw [if_neg (show ¬ (false = true) by decide)] at H
    have H' := Aside0.mk H
    clear H
    rotate_left
    replace c5 := Bool.eq_false_iff.mpr c5
    subst c5
    rw [if_neg (show ¬ (false = true) by decide)] at H
    have H' := Aside0.mk H
    clear H
    rotate_left
    all_goals (
     go_wp2_with (first | (go_at_call 38; (with_reducible refine (spec_l1In.calls a0_0 0 1000000 _ _ A4.out).mono ?_); rintro e w' ⟨rfl, ⟨nd, rfl⟩⟩; (try first | exact ⟨rfl, _, World.drewN_drewN _ _ _⟩ | exact ⟨rfl, _, Eq.trans (World.drewN_drewN _ _ _) (congrArg (World.drewN _) (Nat.add_assoc _ _ _))⟩)) | (go_at_call 38; (with_reducible refine (spec_l1In.calls a0_1 1 32 _ _ A6.out).mono ?_); rintro e w' ⟨rfl, ⟨nd, rfl⟩⟩; (try first | exact ⟨rfl, _, World.drewN_drewN _ _ _⟩ | exact ⟨rfl, _, Eq.trans (World.drewN_drewN _ _ _) (congrArg (World.drewN _) (Nat.add_assoc _ _ _))⟩)))
     repeat (go_quiet (first | (go_at_call 38; (with_reducible refine (spec_l1In.calls a0_0 0 1000000 _ _ A4.out).mono ?_); rintro e w' ⟨rfl, ⟨nd, rfl⟩⟩; (try first | exact ⟨rfl, _, World.drewN_drewN _ _ _⟩ | exact ⟨rfl, _, Eq.trans (World.drewN_drewN _ _ _) (congrArg (World.drewN _) (Nat.add_assoc _ _ _))⟩)) | (go_at_call 38; (with_reducible refine (spec_l1In.calls a0_1 1 32 _ _ A6.out).mono ?_); rintro e w' ⟨rfl, ⟨nd, rfl⟩⟩; (try first | exact ⟨rfl, _, World.drewN_drewN _ _ _⟩ | exact ⟨rfl, _, Eq.trans (World.drewN_drewN _ _ _) (congrArg (World.drewN _) (Nat.add_assoc _ _ _))⟩))); try go_wp2_with (first | (go_at_call 38; (with_reducible refine (spec_l1In.calls a0_0 0 1000000 _ _ A4.out).mono ?_); rintro e w' ⟨rfl, ⟨nd, rfl⟩⟩; (try first | exact ⟨rfl, _, World.drewN_drewN _ _ _⟩ | exact ⟨rfl, _, Eq.trans (World.drewN_drewN _ _ _) (congrArg (World.drewN _) (Nat.add_assoc _ _ _))⟩)) | (go_at_call 38; (with_reducible refine (spec_l1In.calls a0_1 1 32 _ _ A6.out).mono ?_); rintro e w' ⟨rfl, ⟨nd, rfl⟩⟩; (try first | exact ⟨rfl, _, World.drewN_drewN _ _ _⟩ | exact ⟨rfl, _, Eq.trans (World.drewN_drewN _ _ _) (congrArg (World.drewN _) (Nat.add_assoc _ _ _))⟩))))
     go_meet
     case rel => first | (exact ⟨_, (decide ((l0_2.length : Int) > a0_1)), (z_5), H', ⟨z_7⟩, ⟨z_18⟩, ⟨z_19⟩⟩) | (exact ⟨_, (true), (z_5), H', ⟨z_7⟩, ⟨z_18⟩, ⟨z_19⟩⟩))
  case rest =>
    clear HC2
    obtain ⟨kq, x21_1, rfl, HA, HJ1, BK109, HB⟩ := hcut
    cases kq with
    | zero => exact absurd HA.out (by simp [spec_EarOk.j0])
    | succ kj1 =>
      have H := HA.out
      clear HA
      simp only [spec_EarOk.j0] at H
      by_cases c11 : x21_1 = true
      · subst c11
        rw [if_pos rfl] at H
        obtain rfl := Option.some.inj H
        go_wp2
        repeat (go_quiet (fail); try go_wp2)
        go_ret
        exact ⟨z_4, z_19⟩
      · replace c11 := Bool.eq_false_iff.mpr c11
        subst c11
        rw [if_neg (show ¬ (false = true) by decide)] at H
        have H' := Aside0.mk H
        clear H
        go_wp2
        repeat (go_quiet (fail); try go_wp2)
        go_loopg [3] kj1 (fun kq v3 w' => ∃ (x3_2 : Int), v3 = .int .i64 x3_2 ∧ Aside0 (spec_EarOk.l0 kq x3_2 a0_0 a0_1 l0_2 l0_3 = some r) ∧ Aside0 (kq ≤ kj1) ∧ Aside0 (w'.heap[gb109]? = some (.cells #[.int .i64 a0_0, .int .i64 a0_1, (.slice A0_2 l0_2.length c0_2), (.slice A0_3 l0_3.length c0_3)] 28 (0, 0))) ∧ Aside0 (Below w.heap.size w w'))
        case atStart => exact ⟨(0), (z_5), H', ⟨Nat.le_refl _⟩, ⟨z_18⟩, ⟨z_19⟩⟩
        case round =>
          clear H'
          try clear c11
          obtain ⟨x3_2, rfl, HA, HK2, BK109, HB⟩ := hrel
          cases gk with
          | zero => exact absurd HA.out (by simp [spec_EarOk.l0])
          | succ k2 =>
            have H := HA.out
            clear HA
            simp only [spec_EarOk.l0] at H
            by_cases c12 : x3_2 < (l0_3.length : Int)
            rw [if_pos c12] at H
            have c12b0 : decide (x3_2 < (l0_3.length : Int)) = true := decide_eq_true c12
            clear c12
            by_cases c13 : 0 ≤ x3_2
            rw [if_pos c13] at H
            have c13b0 : decide (0 ≤ x3_2) = true := decide_eq_true c13
            clear c13
            by_cases c14 : ((rd_T59 l0_3 x3_2).f0) ≤ a0_0
            rw [if_pos c14] at H
            have c14b0 : decide (((rd_T59 l0_3 x3_2).f0) ≤ a0_0) = true := decide_eq_true c14
            clear c14
            obtain rfl := Option.some.inj H
            have p112 : 0 ≤ (x3_2 : Int) := of_decide_eq_true (z_10)
            have q112 : x3_2 < (l0_3.length : Int) := of_decide_eq_true (z_10)
            obtain ⟨ad112, e112, hx112_0, hx112_1⟩ := at_T59 HR0_3.out x3_2 p112 q112
            cases e112
            replace hx112_0 := pw_cell_below HB.out hx112_0
            replace hx112_1 := pw_cell_below HB.out hx112_1
            replace p112 := eq_true p112
            replace q112 := eq_true q112
            obtain ⟨hcz15_0, hcz15_1, hcz15_2, hcz15_3, hfz15_0, hfz15_1, hfz15_2, hfz15_3⟩ := cells_4 BK109.out
            rotate_left
            rw [if_neg c14] at H
            have c14b0 : decide (((rd_T59 l0_3 x3_2).f0) ≤ a0_0) = false := decide_eq_false c14
            clear c14
            by_cases c16 : ((rd_T59 l0_3 x3_2).f0) ≥ (wrap64 ((wrap64 (a0_0 + a0_1)) - (l0_2.length : Int)))
            rw [if_pos c16] at H
            have c16b0 : decide ((wrap64 ((wrap64 (a0_0 + a0_1)) - (l0_2.length : Int))) ≤ ((rd_T59 l0_3 x3_2).f0)) = true := decide_eq_true c16
            clear c16
            obtain rfl := Option.some.inj H
            have p112 : 0 ≤ (x3_2 : Int) := of_decide_eq_true (z_10)
            have q112 : x3_2 < (l0_3.length : Int) := of_decide_eq_true (z_10)
            obtain ⟨ad112, e112, hx112_0, hx112_1⟩ := at_T59 HR0_3.out x3_2 p112 q112
            cases e112
            replace hx112_0 := pw_cell_below HB.out hx112_0
            replace hx112_1 := pw_cell_below HB.out hx112_1
            replace p112 := eq_true p112
            replace q112 := eq_true q112
            have p113 : 0 ≤ (x3_2 : Int) := of_decide_eq_true (z_10)
            have q113 : x3_2 < (l0_3.length : Int) := of_decide_eq_true (z_10)
            obtain ⟨ad113, e113, hx113_0, hx113_1⟩ := at_T59 HR0_3.out x3_2 p113 q113
            obtain rfl : ad112 = ad113 := (by injection e113)
            replace hx113_0 := pw_cell_below HB.out hx113_0
            replace hx113_1 := pw_cell_below HB.out hx113_1
            replace p113 := eq_true p113
            replace q113 := eq_true q113
            obtain ⟨hcz17_0, hcz17_1, hcz17_2, hcz17_3, hfz17_0, hfz17_1, hfz17_2, hfz17_3⟩ := cells_4 BK109.out
            rotate_left
            rw [if_neg c16] at H
            have c16b0 : decide ((wrap64 ((wrap64 (a0_0 + a0_1)) - (l0_2.length : Int))) ≤ ((rd_T59 l0_3 x3_2).f0)) = false := decide_eq_false c16
            clear c16
            by_cases c18 : x3_2 > 0
            rw [if_pos c18] at H
            have c18b0 : decide (0 < x3_2) = true := decide_eq_true c18
            clear c18
            obtain ⟨ji19, hji19⟩ : ∃ j_ : Int, (wrap64 (x3_2 - 1)) = j_ := ⟨_, rfl⟩
            replace H : (if 0 ≤ (ji19) then (if (ji19) < (l0_3.length : Int) then (if ((rd_T59 l0_3 (ji19)).f0) ≥ ((rd_T59 l0_3 x3_2).f0) then (some false) else (spec_EarOk.l0 k2 (wrap64 (x3_2 + 1)) a0_0 a0_1 l0_2 l0_3)) else (none)) else (none)) = some r := by first | (rw [hji19] at H; exact H) | (simp only [hji19] at H ⊢; exact H)
            have hji19w : (IntKind.i64.wrap (x3_2 - 1)) = ji19 := (i64_w _).trans hji19
            by_cases c20 : 0 ≤ (ji19)
            rw [if_pos c20] at H
            have c20b0 : decide (0 ≤ (ji19)) = true := decide_eq_true c20
            clear c20
            by_cases c21 : (ji19) < (l0_3.length : Int)
            rw [if_pos c21] at H
            have c21b0 : decide ((ji19) < (l0_3.length : Int)) = true := decide_eq_true c21
            clear c21
            by_cases c22 : ((rd_T59 l0_3 (ji19)).f0) ≥ ((rd_T59 l0_3 x3_2).f0)
            rw [if_pos c22] at H
            have c22b0 : decide (((rd_T59 l0_3 x3_2).f0) ≤ ((rd_T59 l0_3 (ji19)).f0)) = true := decide_eq_true c22
            clear c22
            obtain rfl := Option.some.inj H
            have p112 : 0 ≤ (x3_2 : Int) := of_decide_eq_true (z_10)
            have q112 : x3_2 < (l0_3.length : Int) := of_decide_eq_true (z_10)
            obtain ⟨ad112, e112, hx112_0, hx112_1⟩ := at_T59 HR0_3.out x3_2 p112 q112
            cases e112
            replace hx112_0 := pw_cell_below HB.out hx112_0
            replace hx112_1 := pw_cell_below HB.out hx112_1
            replace p112 := eq_true p112
            replace q112 := eq_true q112
            have p113 : 0 ≤ (x3_2 : Int) := of_decide_eq_true (z_10)
            have q113 : x3_2 < (l0_3.length : Int) := of_decide_eq_true (z_10)
            obtain ⟨ad113, e113, hx113_0, hx113_1⟩ := at_T59 HR0_3.out x3_2 p113 q113
            obtain rfl : ad112 = ad113 := (by injection e113)
            replace hx113_0 := pw_cell_below HB.out hx113_0
            replace hx113_1 := pw_cell_below HB.out hx113_1
            replace p113 := eq_true p113
            replace q113 := eq_true q113
            have p114 : 0 ≤ ((ji19) : Int) := of_decide_eq_true (z_10)
            have q114 : (ji19) < (l0_3.length : Int) := of_decide_eq_true (z_10)
            obtain ⟨ad114, e114, hx114_0, hx114_1⟩ := at_T59 HR0_3.out (ji19) p114 q114
            obtain rfl : ad112 = ad114 := (by injection e114)
            replace hx114_0 := pw_cell_below HB.out hx114_0
            replace hx114_1 := pw_cell_below HB.out hx114_1
            replace p114 := eq_true p114
            replace q114 := eq_true q114
            have p115 : 0 ≤ (x3_2 : Int) := of_decide_eq_true (z_10)
            have q115 : x3_2 < (l0_3.length : Int) := of_decide_eq_true (z_10)
            obtain ⟨ad115, e115, hx115_0, hx115_1⟩ := at_T59 HR0_3.out x3_2 p115 q115
            obtain rfl : ad112 = ad115 := (by injection e115)
            replace hx115_0 := pw_cell_below HB.out hx115_0
            replace hx115_1 := pw_cell_below HB.out hx115_1
            replace p115 := eq_true p115
            replace q115 := eq_true q115
            obtain ⟨hcz23_0, hcz23_1, hcz23_2, hcz23_3, hfz23_0, hfz23_1, hfz23_2, hfz23_3⟩ := cells_4 BK109.out
            rotate_left
            rw [if_neg c22] at H
            have c22b0 : decide (((rd_T59 l0_3 x3_2).f0) ≤ ((rd_T59 l0_3 (ji19)).f0)) = false := decide_eq_false c22
            clear c22
            have H' := Aside0.mk H
            clear H
            have p112 : 0 ≤ (x3_2 : Int) := of_decide_eq_true (z_10)
            have q112 : x3_2 < (l0_3.length : Int) := of_decide_eq_true (z_10)
            obtain ⟨ad112, e112, hx112_0, hx112_1⟩ := at_T59 HR0_3.out x3_2 p112 q112
            cases e112
            replace hx112_0 := pw_cell_below HB.out hx112_0
            replace hx112_1 := pw_cell_below HB.out hx112_1
            replace p112 := eq_true p112
            replace q112 := eq_true q112
            have p113 : 0 ≤ (x3_2 : Int) := of_decide_eq_true (z_10)
            have q113 : x3_2 < (l0_3.length : Int) := of_decide_eq_true (z_10)
            obtain ⟨ad113, e113, hx113_0, hx113_1⟩ := at_T59 HR0_3.out x3_2 p113 q113
            obtain rfl : ad112 = ad113 := (by injection e113)
            replace hx113_0 := pw_cell_below HB.out hx113_0
            replace hx113_1 := pw_cell_below HB.out hx113_1
            replace p113 := eq_true p113
            replace q113 := eq_true q113
            have p114 : 0 ≤ ((ji19) : Int) := of_decide_eq_true (z_10)
            have q114 : (ji19) < (l0_3.length : Int) := of_decide_eq_true (z_10)
            obtain ⟨ad114, e114, hx114_0, hx114_1⟩ := at_T59 HR0_3.out (ji19) p114 q114
            obtain rfl : ad112 = ad114 := (by injection e114)
            replace hx114_0 := pw_cell_below HB.out hx114_0
            replace hx114_1 := pw_cell_below HB.out hx114_1
            replace p114 := eq_true p114
            replace q114 := eq_true q114
            have p115 : 0 ≤ (x3_2 : Int) := of_decide_eq_true (z_10)
            have q115 : x3_2 < (l0_3.length : Int) := of_decide_eq_true (z_10)
            obtain ⟨ad115, e115, hx115_0, hx115_1⟩ := at_T59 HR0_3.out x3_2 p115 q115
            obtain rfl : ad112 = ad115 := (by injection e115)
            replace hx115_0 := pw_cell_below HB.out hx115_0
            replace hx115_1 := pw_cell_below HB.out hx115_1
            replace p115 := eq_true p115
            replace q115 := eq_true q115
            obtain ⟨hcz24_0, hcz24_1, hcz24_2, hcz24_3, hfz24_0, hfz24_1, hfz24_2, hfz24_3⟩ := cells_4 BK109.out
            rotate_left
            rw [if_neg c21] at H
            exact absurd H (by simp)
            rw [if_neg c20] at H
            exact absurd H (by simp)
            rw [if_neg c18] at H
            have c18b0 : decide (0 < x3_2) = false := decide_eq_false c18
            clear c18
            have H' := Aside0.mk H
            clear H
            have p112 : 0 ≤ (x3_2 : Int) := of_decide_eq_true (z_10)
            have q112 : x3_2 < (l0_3.length : Int) := of_decide_eq_true (z_10)
            obtain ⟨ad112, e112, hx112_0, hx112_1⟩ := at_T59 HR0_3.out x3_2 p112 q112
            cases e112
            replace hx112_0 := pw_cell_below HB.out hx112_0
            replace hx112_1 := pw_cell_below HB.out hx112_1
            replace p112 := eq_true p112
            replace q112 := eq_true q112
            have p113 : 0 ≤ (x3_2 : Int) := of_decide_eq_true (z_10)
            have q113 : x3_2 < (l0_3.length : Int) := of_decide_eq_true (z_10)
            obtain ⟨ad113, e113, hx113_0, hx113_1⟩ := at_T59 HR0_3.out x3_2 p113 q113
            obtain rfl : ad112 = ad113 := (by injection e113)
            replace hx113_0 := pw_cell_below HB.out hx113_0
            replace hx113_1 := pw_cell_below HB.out hx113_1
            replace p113 := eq_true p113
            replace q113 := eq_true q113
            obtain ⟨hcz25_0, hcz25_1, hcz25_2, hcz25_3, hfz25_0, hfz25_1, hfz25_2, hfz25_3⟩ := cells_4 BK109.out
            rotate_left
            rw [if_neg c13] at H
            exact absurd H (by simp)
            rw [if_neg c12] at H
            have c12b0 : decide (x3_2 < (l0_3.length : Int)) = false := decide_eq_false c12
            clear c12
            obtain rfl := Option.some.inj H
            obtain ⟨hcz26_0, hcz26_1, hcz26_2, hcz26_3, hfz26_0, hfz26_1, hfz26_2, hfz26_3⟩ := cells_4 BK109.out
            rotate_left
            all_goals (
             go_wp2
             repeat (go_quiet (fail); try go_wp2)
             first
              | (go_ret
                 first | (exact ⟨z_4, z_19⟩) | (exact ⟨by first | rfl | (simp [errW_none, errW_some] <;> rfl) | (simp only [← hji19]; first | rfl | (simp [errW_none, errW_some] <;> rfl)) | (simp [*, errW_none, errW_some] <;> rfl), z_19⟩))
              | (go_roundg k2
                 case measure => have := HJ1.out; have := HK2.out; omega
                 case rel => exact ⟨(wrap64 (x3_2 + 1)), (z_5), H', ⟨by have := HJ1.out; have := HK2.out; omega⟩, ⟨z_18⟩, ⟨z_19⟩⟩))

/-! ### spec_ClockOk: function 41 -/
def spec_ClockOk.f (a0_0 : Int) (a0_1 : Int) (a0_2 : Int) : Option (Bool) := (spec_l1In.f a0_0 0 80000).bind fun t117 => (if t117 = true then ((spec_l1In.f a0_1 0 80000).bind fun t118 => (if t118 = true then ((spec_l1In.f a0_2 4 200).bind fun t119 => (some t119)) else (some false))) else (some false))
set_option maxHeartbeats 8000000 in
set_option maxRecDepth 100000 in
theorem spec_ClockOk.calls (a0_0 : Int) (a0_1 : Int) (a0_2 : Int) (r : Bool) (w : World) (h : spec_ClockOk.f a0_0 a0_1 a0_2 = some r) :
    Calls Try.prog 41 #[.agg #[.int .i64 a0_0, .int .i64 a0_1, .int .i64 a0_2]] w fun e w' => e = .returned (.bool r) ∧ Below w.heap.size w w' := by
  have hu30 := Try.underlying30
  have HB := Aside0.mk (Below.refl w.heap.size w)
  have H : ((spec_l1In.f a0_0 0 80000).bind fun t117 => (if t117 = true then ((spec_l1In.f a0_1 0 80000).bind fun t118 => (if t118 = true then ((spec_l1In.f a0_2 4 200).bind fun t119 => (some t119)) else (some false))) else (some false))) = some r := h
  clear h
  replace H := Option.bind_eq_some_iff.mp H
  obtain ⟨t117, A20, H⟩ := H
  have A2 := Aside0.mk A20
  clear A20
  by_cases c3 : t117 = true
  subst c3
  rw [if_pos rfl] at H
  replace H := Option.bind_eq_some_iff.mp H
  obtain ⟨t118, A40, H⟩ := H
  have A4 := Aside0.mk A40
  clear A40
  by_cases c5 : t118 = true
  subst c5
  rw [if_pos rfl] at H
  replace H := Option.bind_eq_some_iff.mp H
  obtain ⟨t119, A60, H⟩ := H
  have A6 := Aside0.mk A60
  clear A60
  obtain rfl := Option.some.inj H
  rotate_left
  replace c5 := Bool.eq_false_iff.mpr c5
  subst c5
  rw [if_neg (show ¬ (false = true) by decide)] at H
  obtain rfl := Option.some.inj H
  rotate_left
  replace c3 := Bool.eq_false_iff.mpr c3
  subst c3
  rw [if_neg (show ¬ (false = true) by decide)] at H
  obtain rfl := Option.some.inj H
  rotate_left
  all_goals (
   go_enter Try.func41, Try.ntmps41
   go_wp2_with (first | ((with_reducible refine gate_dst (N := 1) rfl ?_); refine box_event ?hg (N := 1) ?hd (cs := #[.int .i64 a0_0, .int .i64 a0_1, .int .i64 a0_2]) (t := 30) ?hr ?_; (case hd => rfl); (case hg => rfl); (case hr => exact z_0); intro gb116 hg w7 hbox hb; have n0_ := Aside0.mk (below_step (z_1) hb); have n1_ := Aside0.mk (hbox); have n2_ := Aside0.mk ((z_2 : w.heap.size ≤ gb116)); have n3_ := Aside0.mk ((z_2 : w.heap.size ≤ gb116)); clear HB; have HB := n0_; have BK116 := n1_; have GW116 := n2_; have GE116 := n3_; clear n0_ n1_ n2_ n3_; clear hb hbox hg; obtain ⟨hcz8_0, hcz8_1, hcz8_2, hfz8_0, hfz8_1, hfz8_2⟩ := cells_3 BK116.out) | ((with_reducible refine gate_callee (f := 38) rfl ?_); refine goesL_ (some 5) rfl rfl Try.func38 (z_3) rfl #[.int .i64 a0_0, .int .i64 0, .int .i64 80000] rfl (z_20) ?_; (with_reducible refine (spec_l1In.calls a0_0 0 80000 _ _ A2.out).mono ?_); rintro e w' ⟨rfl, ⟨nd, rfl⟩⟩; refine ⟨_, rfl, ?_⟩) | (go_at_call 38; (with_reducible refine (spec_l1In.calls a0_1 0 80000 _ _ A4.out).mono ?_); rintro e w' ⟨rfl, ⟨nd, rfl⟩⟩) | (go_at_call 38; (with_reducible refine (spec_l1In.calls a0_2 4 200 t119 _ A6.out).mono ?_); rintro e w' ⟨rfl, ⟨nd, rfl⟩⟩))
   go_ret
   exact ⟨z_4, by repeat (first | (with_reducible first | exact HB.out | apply below_alloc | apply pw_below_drewN | apply below_drew1 | refine below_set ?_ GE116.out) | exact HB.out)⟩)

end Go.Proofs.Ytpadgacbkkjjfaa.GFnExactEndNew
