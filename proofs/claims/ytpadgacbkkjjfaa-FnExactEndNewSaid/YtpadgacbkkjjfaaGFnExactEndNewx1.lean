/- What the Go functions that FnExactEndNew reaches come to, walked step by step; there is no condition beyond those each statement names. -/
import Derived.Test.YtpadgacbkkjjfaaGFnExactEndNewx0
namespace Go.Proofs.Ytpadgacbkkjjfaa.GFnExactEndNew
open Go.RowKit Go.Proofs.YtpadgacbkkjjfaaVExactEndNew.PrintWords Go.Proofs.YtpadgacbkkjjfaaVExactEndNew.PrintLast Go.Proofs.YtpadgacbkkjjfaaVExactEndNew.PrintMore
attribute [local go_sem] max2_int min2_int max_two min_two max_three min_three max_four min_four   -- for this text's walks alone
set_option linter.unusedVariables false
set_option linter.unusedSimpArgs false

/-! ### spec_ClockNew: function 14 -/
def spec_ClockNew.f (a0 : Int) : Option (Int × Int × Int) := some (0, 0, 24)
set_option maxHeartbeats 8000000 in
set_option maxRecDepth 100000 in
theorem spec_ClockNew.calls (a0 : Int) (r1 : Int) (r2 : Int) (r3 : Int) (w : World) (h : spec_ClockNew.f a0 = some (r1, r2, r3)) :
    Calls Try.prog 14 #[.int .i64 a0] w fun e w' => e = .returned (.agg #[.int .i64 r1, .int .i64 r2, .int .i64 r3]) ∧ Below w.heap.size w w' := by
  have hu30 := Try.underlying30
  have HB := Aside0.mk (Below.refl w.heap.size w)
  have H : (some (0, 0, 24)) = some (r1, r2, r3) := h
  clear h
  simp only [Option.some.injEq, Prod.mk.injEq] at H
  obtain ⟨rfl, rfl, rfl⟩ := H
  go_enter Try.func14, Try.ntmps14
  go_wp2_with (first | ((with_reducible refine gate_dst (N := 2) rfl ?_); refine box_event ?hg (N := 2) ?hd (cs := #[.int .i64 0, .int .i64 0, .int .i64 0]) (t := 30) ?hr ?_; (case hd => rfl); (case hg => rfl); (case hr => exact z_0); intro gb101 hg w2 hbox hb; have n0_ := Aside0.mk (below_step (z_1) hb); have n1_ := Aside0.mk (hbox); have n2_ := Aside0.mk ((z_2 : w.heap.size ≤ gb101)); have n3_ := Aside0.mk ((z_2 : w.heap.size ≤ gb101)); clear HB; have HB := n0_; have BK101 := n1_; have GW101 := n2_; have GE101 := n3_; clear n0_ n1_ n2_ n3_; clear hb hbox hg; obtain ⟨hcz3_0, hcz3_1, hcz3_2, hfz3_0, hfz3_1, hfz3_2⟩ := cells_3 BK101.out))
  refine bodyPost_ret (results_cell_row rfl _ _ gb101 30 #[.int .i64 0, .int .i64 0, .int .i64 24] (0, 0) _ rfl (by (with_reducible repeat (first | refine blk_drewN ?_ _ | refine blk_drew ?_ | refine blk_alloc ?_ _)); exact put_3 BK101.out) Try.underlying30 rfl (z_3)) rfl ?_
  exact ⟨z_4, by repeat (first | (with_reducible first | exact HB.out | apply below_alloc | apply pw_below_drewN | apply below_drew1 | refine below_set ?_ GE101.out) | exact HB.out)⟩

/-! ### spec_l1In: function 38 -/
def spec_l1In.f (a0 : Int) (a1 : Int) (a2 : Int) : Option (Bool) := if a0 ≥ a1 then (some (decide (a0 ≤ a2))) else (some false)
set_option maxHeartbeats 8000000 in
set_option maxRecDepth 100000 in
theorem spec_l1In.calls (a0 : Int) (a1 : Int) (a2 : Int) (r : Bool) (w : World) (h : spec_l1In.f a0 a1 a2 = some r) :
    Calls Try.prog 38 #[.int .i64 a0, .int .i64 a1, .int .i64 a2] w fun e w' => e = .returned (.bool r) ∧ Drawn0 w w' := by
  have H : (if a0 ≥ a1 then (some (decide (a0 ≤ a2))) else (some false)) = some r := h
  clear h
  by_cases c4 : a0 ≥ a1
  rw [if_pos c4] at H
  have c4b0 : decide (a1 ≤ a0) = true := decide_eq_true c4
  clear c4
  obtain rfl := Option.some.inj H
  rotate_left
  rw [if_neg c4] at H
  have c4b0 : decide (a1 ≤ a0) = false := decide_eq_false c4
  clear c4
  obtain rfl := Option.some.inj H
  rotate_left
  all_goals (
   go_enter Try.func38, Try.ntmps38
   go_wp2
   go_ret
   exact ⟨z_5, z_6⟩)

/-! ### spec_MouthOk: function 39 -/
mutual
def spec_MouthOk.j0 : Nat → Bool → Int → List Int → Int → Int → List (S69) → Option (Bool)
  | 0, _, _, _, _, _, _ => none
  | k + 1, x35, x103000, x103001, x103002, x103003, x103004 => if x35 = true then (some false) else (spec_MouthOk.l0 k 0 x103000 x103001 x103002 x103003 x103004)
def spec_MouthOk.l0 : Nat → Int → Int → List Int → Int → Int → List (S69) → Option (Bool)
  | 0, _, _, _, _, _, _ => none
  | k + 1, x3, x103000, x103001, x103002, x103003, x103004 => if x3 < (x103004.length : Int) then (if 0 ≤ x3 then (if ((rd_T69 x103004 x3).f0) ≤ x103000 then (some false) else (if ((rd_T69 x103004 x3).f1) ≤ ((rd_T69 x103004 x3).f0) then (some false) else (if ((rd_T69 x103004 x3).f1) > (wrap64 (x103000 + x103002)) then (some false) else (if x3 > 0 then (if 0 ≤ (wrap64 (x3 - 1)) then (if (wrap64 (x3 - 1)) < (x103004.length : Int) then (if ((rd_T69 x103004 (wrap64 (x3 - 1))).f1) ≥ ((rd_T69 x103004 x3).f0) then (some false) else (spec_MouthOk.l0 k (wrap64 (x3 + 1)) x103000 x103001 x103002 x103003 x103004)) else (none)) else (none)) else (spec_MouthOk.l0 k (wrap64 (x3 + 1)) x103000 x103001 x103002 x103003 x103004))))) else (none)) else (some true)
end
def spec_MouthOk.f (k : Nat) (a0_0 : Int) (l0_1 : List Int) (a0_2 : Int) (a0_3 : Int) (l0_4 : List (S69)) : Option (Bool) := (spec_l1In.f a0_0 0 1000000).bind fun t103 => (if t103 = true then (if (l0_1.length : Int) > 32 then (spec_MouthOk.j0 k true a0_0 l0_1 a0_2 a0_3 l0_4) else ((spec_l1In.f a0_2 0 (l0_1.length : Int)).bind fun t104 => (if t104 = true then ((spec_l1In.f a0_3 0 255).bind fun t105 => (if t105 = true then (spec_MouthOk.j0 k (decide ((l0_4.length : Int) > 2)) a0_0 l0_1 a0_2 a0_3 l0_4) else (spec_MouthOk.j0 k true a0_0 l0_1 a0_2 a0_3 l0_4))) else (spec_MouthOk.j0 k true a0_0 l0_1 a0_2 a0_3 l0_4)))) else (spec_MouthOk.j0 k true a0_0 l0_1 a0_2 a0_3 l0_4))
theorem spec_MouthOk.mono_l : ∀ k, (∀ y0 y1 y2 y3 y4 y5, LeO (spec_MouthOk.j0 k y0 y1 y2 y3 y4 y5) (spec_MouthOk.j0 (k + 1) y0 y1 y2 y3 y4 y5)) ∧ (∀ y0 y1 y2 y3 y4 y5, LeO (spec_MouthOk.l0 k y0 y1 y2 y3 y4 y5) (spec_MouthOk.l0 (k + 1) y0 y1 y2 y3 y4 y5))
  | 0 => ⟨fun _ _ _ _ _ _ r h => by simp [spec_MouthOk.j0] at h, fun _ _ _ _ _ _ r h => by simp [spec_MouthOk.l0] at h⟩
  | k + 1 => by
    obtain ⟨ih0, ih1⟩ := spec_MouthOk.mono_l k
    refine ⟨?_, ?_⟩
    · intro y0 y1 y2 y3 y4 y5
      unfold spec_MouthOk.j0
      repeat' first
      | (with_reducible exact ih0 _ _ _ _ _ _)
      | (with_reducible exact ih1 _ _ _ _ _ _)
      | (with_reducible exact LeO.refl _)
      | (with_reducible exact LeO.none _)
      | (with_reducible refine LeO.ite ?_ ?_)
      | (with_reducible refine LeO.bind ?_ (fun _ => ?_))
      | exact ih0 _ _ _ _ _ _
      | exact ih1 _ _ _ _ _ _
      | exact LeO.none _
      | refine LeO.ite ?_ ?_
      | refine LeO.bind ?_ (fun _ => ?_)
    · intro y0 y1 y2 y3 y4 y5
      unfold spec_MouthOk.l0
      repeat' first
      | (with_reducible exact ih0 _ _ _ _ _ _)
      | (with_reducible exact ih1 _ _ _ _ _ _)
      | (with_reducible exact LeO.refl _)
      | (with_reducible exact LeO.none _)
      | (with_reducible refine LeO.ite ?_ ?_)
      | (with_reducible refine LeO.bind ?_ (fun _ => ?_))
      | exact ih0 _ _ _ _ _ _
      | exact ih1 _ _ _ _ _ _
      | exact LeO.none _
      | refine LeO.ite ?_ ?_
      | refine LeO.bind ?_ (fun _ => ?_)
theorem spec_MouthOk.mono : ∀ a0 a1 a2 a3 a4 k, LeO (spec_MouthOk.f k a0 a1 a2 a3 a4) (spec_MouthOk.f (k + 1) a0 a1 a2 a3 a4) := by
  intro a0 a1 a2 a3 a4 k
  obtain ⟨ih0, ih1⟩ := spec_MouthOk.mono_l k
  unfold spec_MouthOk.f
  repeat' first
      | (with_reducible exact ih0 _ _ _ _ _ _)
      | (with_reducible exact ih1 _ _ _ _ _ _)
      | (with_reducible exact LeO.refl _)
      | (with_reducible exact LeO.none _)
      | (with_reducible refine LeO.ite ?_ ?_)
      | (with_reducible refine LeO.bind ?_ (fun _ => ?_))
      | exact ih0 _ _ _ _ _ _
      | exact ih1 _ _ _ _ _ _
      | exact LeO.none _
      | refine LeO.ite ?_ ?_
      | refine LeO.bind ?_ (fun _ => ?_)
set_option maxHeartbeats 8000000 in
set_option maxRecDepth 100000 in
theorem spec_MouthOk.calls (k : Nat) (a0_0 : Int) (A0_1 : Option Addr) (c0_1 : Nat) (l0_1 : List Int) (a0_2 : Int) (a0_3 : Int) (A0_4 : Option Addr) (c0_4 : Nat) (l0_4 : List (S69)) (r : Bool) (w : World) (hr0_1 : Kd.C (Kd.int .u8) w A0_1 l0_1.length l0_1) (hc0_1 : l0_1.length ≤ c0_1) (hr0_4 : Kd.C k69 w A0_4 l0_4.length l0_4) (hc0_4 : l0_4.length ≤ c0_4) (h : spec_MouthOk.f k a0_0 l0_1 a0_2 a0_3 l0_4 = some r) :
    Calls Try.prog 39 #[.agg #[.int .i64 a0_0, .slice A0_1 l0_1.length c0_1, .int .i64 a0_2, .int .i64 a0_3, .slice A0_4 l0_4.length c0_4]] w fun e w' => e = .returned (.bool r) ∧ Below w.heap.size w w' := by
  have hu25 := Try.underlying25
  have hu69 := Try.underlying69
  have HR0_1 := Aside0.mk hr0_1
  have HC0_1 := Aside0.mk hc0_1
  clear hr0_1 hc0_1
  have HR0_4 := Aside0.mk hr0_4
  have HC0_4 := Aside0.mk hc0_4
  clear hr0_4 hc0_4
  have HB := Aside0.mk (Below.refl w.heap.size w)
  have H : ((spec_l1In.f a0_0 0 1000000).bind fun t103 => (if t103 = true then (if (l0_1.length : Int) > 32 then (spec_MouthOk.j0 k true a0_0 l0_1 a0_2 a0_3 l0_4) else ((spec_l1In.f a0_2 0 (l0_1.length : Int)).bind fun t104 => (if t104 = true then ((spec_l1In.f a0_3 0 255).bind fun t105 => (if t105 = true then (spec_MouthOk.j0 k (decide ((l0_4.length : Int) > 2)) a0_0 l0_1 a0_2 a0_3 l0_4) else (spec_MouthOk.j0 k true a0_0 l0_1 a0_2 a0_3 l0_4))) else (spec_MouthOk.j0 k true a0_0 l0_1 a0_2 a0_3 l0_4)))) else (spec_MouthOk.j0 k true a0_0 l0_1 a0_2 a0_3 l0_4))) = some r := h
  clear h
  have HC2 := Aside0.mk H
  clear H
  go_enter Try.func39, Try.ntmps39
  go_upto_region 1 with (first | ((with_reducible refine gate_dst (N := 1) rfl ?_); refine box_event ?hg (N := 1) ?hd (cs := #[.int .i64 a0_0, .slice A0_1 l0_1.length c0_1, .int .i64 a0_2, .int .i64 a0_3, .slice A0_4 l0_4.length c0_4]) (t := 25) ?hr ?_; (case hd => rfl); (case hg => rfl); (case hr => exact z_0); intro gb102 hg w3 hbox hb; have n0_ := Aside0.mk (below_step (z_1) hb); have n1_ := Aside0.mk (hbox); have n2_ := Aside0.mk ((z_2 : w.heap.size ≤ gb102)); have n3_ := Aside0.mk ((z_2 : w.heap.size ≤ gb102)); clear HB; have HB := n0_; have BK102 := n1_; have GW102 := n2_; have GE102 := n3_; clear n0_ n1_ n2_ n3_; clear hb hbox hg))
  repeat (go_quiet (first | ((with_reducible refine gate_dst (N := 1) rfl ?_); refine box_event ?hg (N := 1) ?hd (cs := #[.int .i64 a0_0, .slice A0_1 l0_1.length c0_1, .int .i64 a0_2, .int .i64 a0_3, .slice A0_4 l0_4.length c0_4]) (t := 25) ?hr ?_; (case hd => rfl); (case hg => rfl); (case hr => exact z_0); intro gb102 hg w3 hbox hb; have n0_ := Aside0.mk (below_step (z_1) hb); have n1_ := Aside0.mk (hbox); have n2_ := Aside0.mk ((z_2 : w.heap.size ≤ gb102)); have n3_ := Aside0.mk ((z_2 : w.heap.size ≤ gb102)); clear HB; have HB := n0_; have BK102 := n1_; have GW102 := n2_; have GE102 := n3_; clear n0_ n1_ n2_ n3_; clear hb hbox hg)); go_upto_region 1 with (first | ((with_reducible refine gate_dst (N := 1) rfl ?_); refine box_event ?hg (N := 1) ?hd (cs := #[.int .i64 a0_0, .slice A0_1 l0_1.length c0_1, .int .i64 a0_2, .int .i64 a0_3, .slice A0_4 l0_4.length c0_4]) (t := 25) ?hr ?_; (case hd => rfl); (case hg => rfl); (case hr => exact z_0); intro gb102 hg w3 hbox hb; have n0_ := Aside0.mk (below_step (z_1) hb); have n1_ := Aside0.mk (hbox); have n2_ := Aside0.mk ((z_2 : w.heap.size ≤ gb102)); have n3_ := Aside0.mk ((z_2 : w.heap.size ≤ gb102)); clear HB; have HB := n0_; have BK102 := n1_; have GW102 := n2_; have GE102 := n3_; clear n0_ n1_ n2_ n3_; clear hb hbox hg)))
  (try simp only [Act.put, List.setIfInBounds_toArray, List.set_cons_zero, List.set_cons_succ])
  go_cut [35] (fun v35 wc => ∃ (kq : Nat) (x35_1 : Bool), v35 = .bool x35_1 ∧ Aside0 (spec_MouthOk.j0 kq x35_1 a0_0 l0_1 a0_2 a0_3 l0_4 = some r) ∧ Aside0 (kq ≤ k) ∧ Aside0 (wc.heap[gb102]? = some (.cells #[.int .i64 a0_0, (.slice A0_1 l0_1.length c0_1), .int .i64 a0_2, .int .i64 a0_3, (.slice A0_4 l0_4.length c0_4)] 25 (0, 0))) ∧ Aside0 (Below w.heap.size w wc))
  case first =>
    have H := HC2.out
    clear HC2
    replace H := Option.bind_eq_some_iff.mp H
    obtain ⟨t103, A40, H⟩ := H
    have A4 := Aside0.mk A40
    clear A40
    obtain ⟨hcz13_0, hcz13_1, hcz13_2, hcz13_3, hcz13_4, hfz13_0, hfz13_1, hfz13_2, hfz13_3, hfz13_4⟩ := cells_5 BK102.out
    by_cases c5 : t103 = true
    subst c5
    rw [if_pos rfl] at H
    by_cases c6 : (l0_1.length : Int) > 32
    rw [if_pos c6] at H
    have c6b0 : decide (32 < (l0_1.length : Int)) = true := decide_eq_true c6
    have c6b1 : decide (32 < l0_1.length) = true := decide_eq_true (by omega)
    clear c6
    (first | rw [c6b0] | (simp only [i64_w, i32_w]; rw [c6b0]) | skip)
    have H' := Aside0.mk H
    clear H
    rotate_left
    rw [if_neg c6] at H
    have c6b0 : decide (32 < (l0_1.length : Int)) = false := decide_eq_false c6
    have c6b1 : decide (32 < l0_1.length) = false := decide_eq_false (by omega)
    clear c6
    (first | rw [c6b0] | (simp only [i64_w, i32_w]; rw [c6b0]) | skip)
    replace H := Option.bind_eq_some_iff.mp H
    obtain ⟨t104, A80, H⟩ := H
    have A8 := Aside0.mk A80
    clear A80
    by_cases c9 : t104 = true
    subst c9
    rw [if_pos rfl] at H
    replace H := Option.bind_eq_some_iff.mp H
    obtain ⟨t105, A100, H⟩ := H
    have A10 := Aside0.mk A100
    clear A100
    by_cases c11 : t105 = true
    subst c11
    rw [if_pos rfl] at H
    have H' := Aside0.mk H
    clear H
    rotate_left
    replace c11 := Bool.eq_false_iff.mpr c11
    subst c11
    rw [if_neg (show ¬ (false = true) by decide)] at H
    have H' := Aside0.mk H
    clear H
    rotate_left
    replace c9 := Bool.eq_false_iff.mpr c9
    subst c9
    rw [if_neg (show ¬ (false = true) by decide)] at H
    have H' := Aside0.mk H
    clear H
    rotate_left
    replace c5 := Bool.eq_false_iff.mpr c5
    subst c5
    rw [if_neg (show ¬ (false = true) by decide)] at H
    have H' := Aside0.mk H
    clear H
    rotate_left
    all_goals (
     go_wp2_with (first | (go_at_call 38; (with_reducible refine (spec_l1In.calls a0_0 0 1000000 _ _ A4.out).mono ?_); rintro e w' ⟨rfl, ⟨nd, rfl⟩⟩; (try first | exact ⟨rfl, _, World.drewN_drewN _ _ _⟩ | exact ⟨rfl, _, Eq.trans (World.drewN_drewN _ _ _) (congrArg (World.drewN _) (Nat.add_assoc _ _ _))⟩)) | (go_at_call 38; (with_reducible refine (spec_l1In.calls a0_2 0 (l0_1.length : Int) _ _ A8.out).mono ?_); rintro e w' ⟨rfl, ⟨nd, rfl⟩⟩; (try first | exact ⟨rfl, _, World.drewN_drewN _ _ _⟩ | exact ⟨rfl, _, Eq.trans (World.drewN_drewN _ _ _) (congrArg (World.drewN _) (Nat.add_assoc _ _ _))⟩)) | (go_at_call 38; (with_reducible refine (spec_l1In.calls a0_3 0 255 _ _ A10.out).mono ?_); rintro e w' ⟨rfl, ⟨nd, rfl⟩⟩; (try first | exact ⟨rfl, _, World.drewN_drewN _ _ _⟩ | exact ⟨rfl, _, Eq.trans (World.drewN_drewN _ _ _) (congrArg (World.drewN _) (Nat.add_assoc _ _ _))⟩)))
     repeat (go_quiet (first | (go_at_call 38; (with_reducible refine (spec_l1In.calls a0_0 0 1000000 _ _ A4.out).mono ?_); rintro e w' ⟨rfl, ⟨nd, rfl⟩⟩; (try first | exact ⟨rfl, _, World.drewN_drewN _ _ _⟩ | exact ⟨rfl, _, Eq.trans (World.drewN_drewN _ _ _) (congrArg (World.drewN _) (Nat.add_assoc _ _ _))⟩)) | (go_at_call 38; (with_reducible refine (spec_l1In.calls a0_2 0 (l0_1.length : Int) _ _ A8.out).mono ?_); rintro e w' ⟨rfl, ⟨nd, rfl⟩⟩; (try first | exact ⟨rfl, _, World.drewN_drewN _ _ _⟩ | exact ⟨rfl, _, Eq.trans (World.drewN_drewN _ _ _) (congrArg (World.drewN _) (Nat.add_assoc _ _ _))⟩)) | (go_at_call 38; (with_reducible refine (spec_l1In.calls a0_3 0 255 _ _ A10.out).mono ?_); rintro e w' ⟨rfl, ⟨nd, rfl⟩⟩; (try first | exact ⟨rfl, _, World.drewN_drewN _ _ _⟩ | exact ⟨rfl, _, Eq.trans (World.drewN_drewN _ _ _) (congrArg (World.drewN _) (Nat.add_assoc _ _ _))⟩))); try go_wp2_with (first | (go_at_call 38; (with_reducible refine (spec_l1In.calls a0_0 0 1000000 _ _ A4.out).mono ?_); rintro e w' ⟨rfl, ⟨nd, rfl⟩⟩; (try first | exact ⟨rfl, _, World.drewN_drewN _ _ _⟩ | exact ⟨rfl, _, Eq.trans (World.drewN_drewN _ _ _) (congrArg (World.drewN _) (Nat.add_assoc _ _ _))⟩)) | (go_at_call 38; (with_reducible refine (spec_l1In.calls a0_2 0 (l0_1.length : Int) _ _ A8.out).mono ?_); rintro e w' ⟨rfl, ⟨nd, rfl⟩⟩; (try first | exact ⟨rfl, _, World.drewN_drewN _ _ _⟩ | exact ⟨rfl, _, Eq.trans (World.drewN_drewN _ _ _) (congrArg (World.drewN _) (Nat.add_assoc _ _ _))⟩)) | (go_at_call 38; (with_reducible refine (spec_l1In.calls a0_3 0 255 _ _ A10.out).mono ?_); rintro e w' ⟨rfl, ⟨nd, rfl⟩⟩; (try first | exact ⟨rfl, _, World.drewN_drewN _ _ _⟩ | exact ⟨rfl, _, Eq.trans (World.drewN_drewN _ _ _) (congrArg (World.drewN _) (Nat.add_assoc _ _ _))⟩))))
     go_meet
     case rel => first | (exact ⟨_, (true), (z_5), H', ⟨z_7⟩, ⟨z_8⟩, ⟨z_9⟩⟩) | (exact ⟨_, (decide ((l0_4.length : Int) > 2)), (z_5), H', ⟨z_7⟩, ⟨z_8⟩, ⟨z_9⟩⟩))
  case rest =>
    clear HC2
    obtain ⟨kq, x35_1, rfl, HA, HJ1, BK102, HB⟩ := hcut
    cases kq with
    | zero => exact absurd HA.out (by simp [spec_MouthOk.j0])
    | succ kj1 =>
      have H := HA.out
      clear HA
      simp only [spec_MouthOk.j0] at H
      by_cases c16 : x35_1 = true
      · subst c16
        rw [if_pos rfl] at H
        obtain rfl := Option.some.inj H
        go_wp2
        repeat (go_quiet (fail); try go_wp2)
        go_ret
        exact ⟨z_4, z_9⟩
      · replace c16 := Bool.eq_false_iff.mpr c16
        subst c16
        rw [if_neg (show ¬ (false = true) by decide)] at H
        have H' := Aside0.mk H
        clear H
        go_wp2
        repeat (go_quiet (fail); try go_wp2)
        go_loopg [3] kj1 (fun kq v3 w' => ∃ (x3_2 : Int), v3 = .int .i64 x3_2 ∧ Aside0 (spec_MouthOk.l0 kq x3_2 a0_0 l0_1 a0_2 a0_3 l0_4 = some r) ∧ Aside0 (kq ≤ kj1) ∧ Aside0 (w'.heap[gb102]? = some (.cells #[.int .i64 a0_0, (.slice A0_1 l0_1.length c0_1), .int .i64 a0_2, .int .i64 a0_3, (.slice A0_4 l0_4.length c0_4)] 25 (0, 0))) ∧ Aside0 (Below w.heap.size w w'))
        case atStart => exact ⟨(0), (z_5), H', ⟨Nat.le_refl _⟩, ⟨z_8⟩, ⟨z_9⟩⟩
        case round =>
          clear H'
          try clear c16
          obtain ⟨x3_2, rfl, HA, HK2, BK102, HB⟩ := hrel
          cases gk with
          | zero => exact absurd HA.out (by simp [spec_MouthOk.l0])
          | succ k2 =>
            have H := HA.out
            clear HA
            simp only [spec_MouthOk.l0] at H
            by_cases c17 : x3_2 < (l0_4.length : Int)
            rw [if_pos c17] at H
            have c17b0 : decide (x3_2 < (l0_4.length : Int)) = true := decide_eq_true c17
            clear c17
            by_cases c18 : 0 ≤ x3_2
            rw [if_pos c18] at H
            have c18b0 : decide (0 ≤ x3_2) = true := decide_eq_true c18
            clear c18
            by_cases c19 : ((rd_T69 l0_4 x3_2).f0) ≤ a0_0
            rw [if_pos c19] at H
            have c19b0 : decide (((rd_T69 l0_4 x3_2).f0) ≤ a0_0) = true := decide_eq_true c19
            clear c19
            obtain rfl := Option.some.inj H
            have p106 : 0 ≤ (x3_2 : Int) := of_decide_eq_true (z_10)
            have q106 : x3_2 < (l0_4.length : Int) := of_decide_eq_true (z_10)
            obtain ⟨ad106, e106, hx106_0, hx106_1⟩ := at_T69 HR0_4.out x3_2 p106 q106
            cases e106
            replace hx106_0 := pw_cell_below HB.out hx106_0
            replace hx106_1 := pw_cell_below HB.out hx106_1
            replace p106 := eq_true p106
            replace q106 := eq_true q106
            obtain ⟨hcz20_0, hcz20_1, hcz20_2, hcz20_3, hcz20_4, hfz20_0, hfz20_1, hfz20_2, hfz20_3, hfz20_4⟩ := cells_5 BK102.out
            rotate_left
            rw [if_neg c19] at H
            have c19b0 : decide (((rd_T69 l0_4 x3_2).f0) ≤ a0_0) = false := decide_eq_false c19
            clear c19
            by_cases c25 : ((rd_T69 l0_4 x3_2).f1) ≤ ((rd_T69 l0_4 x3_2).f0)
            rw [if_pos c25] at H
            have c25b0 : decide (((rd_T69 l0_4 x3_2).f1) ≤ ((rd_T69 l0_4 x3_2).f0)) = true := decide_eq_true c25
            clear c25
            obtain rfl := Option.some.inj H
            have p106 : 0 ≤ (x3_2 : Int) := of_decide_eq_true (z_10)
            have q106 : x3_2 < (l0_4.length : Int) := of_decide_eq_true (z_10)
            obtain ⟨ad106, e106, hx106_0, hx106_1⟩ := at_T69 HR0_4.out x3_2 p106 q106
            cases e106
            replace hx106_0 := pw_cell_below HB.out hx106_0
            replace hx106_1 := pw_cell_below HB.out hx106_1
            replace p106 := eq_true p106
            replace q106 := eq_true q106
            obtain ⟨hcz26_0, hcz26_1, hcz26_2, hcz26_3, hcz26_4, hfz26_0, hfz26_1, hfz26_2, hfz26_3, hfz26_4⟩ := cells_5 BK102.out
            rotate_left
            rw [if_neg c25] at H
            have c25b0 : decide (((rd_T69 l0_4 x3_2).f1) ≤ ((rd_T69 l0_4 x3_2).f0)) = false := decide_eq_false c25
            clear c25
            by_cases c31 : ((rd_T69 l0_4 x3_2).f1) > (wrap64 (a0_0 + a0_2))
            rw [if_pos c31] at H
            have c31b0 : decide ((wrap64 (a0_0 + a0_2)) < ((rd_T69 l0_4 x3_2).f1)) = true := decide_eq_true c31
            clear c31
            obtain rfl := Option.some.inj H
            have p106 : 0 ≤ (x3_2 : Int) := of_decide_eq_true (z_10)
            have q106 : x3_2 < (l0_4.length : Int) := of_decide_eq_true (z_10)
            obtain ⟨ad106, e106, hx106_0, hx106_1⟩ := at_T69 HR0_4.out x3_2 p106 q106
            cases e106
            replace hx106_0 := pw_cell_below HB.out hx106_0
            replace hx106_1 := pw_cell_below HB.out hx106_1
            replace p106 := eq_true p106
            replace q106 := eq_true q106
            obtain ⟨hcz32_0, hcz32_1, hcz32_2, hcz32_3, hcz32_4, hfz32_0, hfz32_1, hfz32_2, hfz32_3, hfz32_4⟩ := cells_5 BK102.out
            rotate_left
            rw [if_neg c31] at H
            have c31b0 : decide ((wrap64 (a0_0 + a0_2)) < ((rd_T69 l0_4 x3_2).f1)) = false := decide_eq_false c31
            clear c31
            by_cases c37 : x3_2 > 0
            rw [if_pos c37] at H
            have c37b0 : decide (0 < x3_2) = true := decide_eq_true c37
            clear c37
            obtain ⟨ji38, hji38⟩ : ∃ j_ : Int, (wrap64 (x3_2 - 1)) = j_ := ⟨_, rfl⟩
            replace H : (if 0 ≤ (ji38) then (if (ji38) < (l0_4.length : Int) then (if ((rd_T69 l0_4 (ji38)).f1) ≥ ((rd_T69 l0_4 x3_2).f0) then (some false) else (spec_MouthOk.l0 k2 (wrap64 (x3_2 + 1)) a0_0 l0_1 a0_2 a0_3 l0_4)) else (none)) else (none)) = some r := by first | (rw [hji38] at H; exact H) | (simp only [hji38] at H ⊢; exact H)
            have hji38w : (IntKind.i64.wrap (x3_2 - 1)) = ji38 := (i64_w _).trans hji38
            by_cases c39 : 0 ≤ (ji38)
            rw [if_pos c39] at H
            have c39b0 : decide (0 ≤ (ji38)) = true := decide_eq_true c39
            clear c39
            by_cases c40 : (ji38) < (l0_4.length : Int)
            rw [if_pos c40] at H
            have c40b0 : decide ((ji38) < (l0_4.length : Int)) = true := decide_eq_true c40
            clear c40
            by_cases c41 : ((rd_T69 l0_4 (ji38)).f1) ≥ ((rd_T69 l0_4 x3_2).f0)
            rw [if_pos c41] at H
            have c41b0 : decide (((rd_T69 l0_4 x3_2).f0) ≤ ((rd_T69 l0_4 (ji38)).f1)) = true := decide_eq_true c41
            clear c41
            obtain rfl := Option.some.inj H
            have p106 : 0 ≤ (x3_2 : Int) := of_decide_eq_true (z_10)
            have q106 : x3_2 < (l0_4.length : Int) := of_decide_eq_true (z_10)
            obtain ⟨ad106, e106, hx106_0, hx106_1⟩ := at_T69 HR0_4.out x3_2 p106 q106
            cases e106
            replace hx106_0 := pw_cell_below HB.out hx106_0
            replace hx106_1 := pw_cell_below HB.out hx106_1
            replace p106 := eq_true p106
            replace q106 := eq_true q106
            obtain ⟨hcz42_0, hcz42_1, hcz42_2, hcz42_3, hcz42_4, hfz42_0, hfz42_1, hfz42_2, hfz42_3, hfz42_4⟩ := cells_5 BK102.out
            rotate_left
            rw [if_neg c41] at H
            have c41b0 : decide (((rd_T69 l0_4 x3_2).f0) ≤ ((rd_T69 l0_4 (ji38)).f1)) = false := decide_eq_false c41
            clear c41
            have H' := Aside0.mk H
            clear H
            have p106 : 0 ≤ (x3_2 : Int) := of_decide_eq_true (z_10)
            have q106 : x3_2 < (l0_4.length : Int) := of_decide_eq_true (z_10)
            obtain ⟨ad106, e106, hx106_0, hx106_1⟩ := at_T69 HR0_4.out x3_2 p106 q106
            cases e106
            replace hx106_0 := pw_cell_below HB.out hx106_0
            replace hx106_1 := pw_cell_below HB.out hx106_1
            replace p106 := eq_true p106
            replace q106 := eq_true q106
            obtain ⟨hcz47_0, hcz47_1, hcz47_2, hcz47_3, hcz47_4, hfz47_0, hfz47_1, hfz47_2, hfz47_3, hfz47_4⟩ := cells_5 BK102.out
            rotate_left
            rw [if_neg c40] at H
            exact absurd H (by simp)
            rw [if_neg c39] at H
            exact absurd H (by simp)
            rw [if_neg c37] at H
            have c37b0 : decide (0 < x3_2) = false := decide_eq_false c37
            clear c37
            have H' := Aside0.mk H
            clear H
            have p106 : 0 ≤ (x3_2 : Int) := of_decide_eq_true (z_10)
            have q106 : x3_2 < (l0_4.length : Int) := of_decide_eq_true (z_10)
            obtain ⟨ad106, e106, hx106_0, hx106_1⟩ := at_T69 HR0_4.out x3_2 p106 q106
            cases e106
            replace hx106_0 := pw_cell_below HB.out hx106_0
            replace hx106_1 := pw_cell_below HB.out hx106_1
            replace p106 := eq_true p106
            replace q106 := eq_true q106
            obtain ⟨hcz52_0, hcz52_1, hcz52_2, hcz52_3, hcz52_4, hfz52_0, hfz52_1, hfz52_2, hfz52_3, hfz52_4⟩ := cells_5 BK102.out
            rotate_left
            rw [if_neg c18] at H
            exact absurd H (by simp)
            rw [if_neg c17] at H
            have c17b0 : decide (x3_2 < (l0_4.length : Int)) = false := decide_eq_false c17
            clear c17
            obtain rfl := Option.some.inj H
            obtain ⟨hcz57_0, hcz57_1, hcz57_2, hcz57_3, hcz57_4, hfz57_0, hfz57_1, hfz57_2, hfz57_3, hfz57_4⟩ := cells_5 BK102.out
            rotate_left
            all_goals (
             try go_wp2_with (first | ((with_reducible refine gate_dst (N := 4) rfl ?_); refine box_event ?hg (N := 4) ?hd (cs := #[.int .i64 0, .int .i64 0]) (t := 69) ?hr ?_; (case hd => rfl); (case hg => rfl); (case hr => exact z_0); intro gb107 hg w43 hbox hb; have n0_ := Aside0.mk (blk_below (g := gb102) (o := .cells #[.int .i64 a0_0, .slice A0_1 l0_1.length c0_1, .int .i64 a0_2, .int .i64 a0_3, .slice (some ad106) l0_4.length c0_4] 25 (0, 0)) (z_8) hb); have n1_ := Aside0.mk (below_step (z_9) hb); have n2_ := Aside0.mk (hbox); have n3_ := Aside0.mk ((z_11 : w.heap.size ≤ gb107)); have n4_ := Aside0.mk ((z_11 : w.heap.size ≤ gb107)); have n5_ := Aside0.mk ((z_12 : gb102 ≠ gb107)); have n6_ := Aside0.mk ((z_13 : gb107 ≠ gb102)); clear BK102; clear HB; have BK102 := n0_; have HB := n1_; have BK107 := n2_; have GW107 := n3_; have GE107 := n4_; have NB102_107 := n5_; have NB107_102 := n6_; clear n0_ n1_ n2_ n3_ n4_ n5_ n6_; clear hb hbox hg; have hnb44 := NB107_102.out; have hnc44 := NB102_107.out; obtain ⟨hcz45_0, hcz45_1, hfz45_0, hfz45_1⟩ := cells_2 BK107.out; obtain ⟨hcz46_0, hcz46_1, hcz46_2, hcz46_3, hcz46_4, hfz46_0, hfz46_1, hfz46_2, hfz46_3, hfz46_4⟩ := cells_5 BK102.out; have p108 : 0 ≤ ((ji38) : Int) := of_decide_eq_true (z_10); have q108 : (ji38) < (l0_4.length : Int) := of_decide_eq_true (z_10); obtain ⟨ad108, e108, hx108_0, hx108_1⟩ := at_T69 HR0_4.out (ji38) p108 q108; obtain rfl : ad106 = ad108 := (by injection e108); have hn108_0 : ad106.block ≠ gb107 := Nat.ne_of_lt (Nat.lt_of_lt_of_le (z_14) GW107.out); have hn108_1 : ad106.block ≠ gb107 := Nat.ne_of_lt (Nat.lt_of_lt_of_le (z_14) GW107.out); replace hx108_0 := pw_cell_below HB.out hx108_0; replace hx108_1 := pw_cell_below HB.out hx108_1; replace hx108_0 := (cell_far (p := ⟨gb107, 0, none⟩) (z_15) (.int .i64 ((rd_T69 l0_4 x3_2).f0))).trans hx108_0; replace hx108_1 := (cell_far (p := ⟨gb107, 0, none⟩) (z_15) (.int .i64 ((rd_T69 l0_4 x3_2).f0))).trans hx108_1; replace hx108_0 := (cell_far (p := ⟨gb107, 1, none⟩) (z_16) (.int .i64 ((rd_T69 l0_4 x3_2).f1))).trans hx108_0; replace hx108_1 := (cell_far (p := ⟨gb107, 1, none⟩) (z_16) (.int .i64 ((rd_T69 l0_4 x3_2).f1))).trans hx108_1; (try have hy108_0 := fun (n_ : Nat) => (show ((((w43.drewN n_).setCell ⟨gb107, 0, none⟩ (.int .i64 ((rd_T69 l0_4 x3_2).f0))).setCell ⟨gb107, 1, none⟩ (.int .i64 ((rd_T69 l0_4 x3_2).f1)))).cell? _ = some _ from hx108_0)); (try have hy108_1 := fun (n_ : Nat) => (show ((((w43.drewN n_).setCell ⟨gb107, 0, none⟩ (.int .i64 ((rd_T69 l0_4 x3_2).f0))).setCell ⟨gb107, 1, none⟩ (.int .i64 ((rd_T69 l0_4 x3_2).f1)))).cell? _ = some _ from hx108_1)); clear hn108_0; clear hn108_1; replace p108 := eq_true p108; replace q108 := eq_true q108) | ((with_reducible refine gate_dst (N := 4) rfl ?_); refine box_event ?hg (N := 4) ?hd (cs := #[.int .i64 0, .int .i64 0]) (t := 69) ?hr ?_; (case hd => rfl); (case hg => rfl); (case hr => exact z_0); intro gb107 hg w21 hbox hb; have n0_ := Aside0.mk (blk_below (g := gb102) (o := .cells #[.int .i64 a0_0, .slice A0_1 l0_1.length c0_1, .int .i64 a0_2, .int .i64 a0_3, .slice (some ad106) l0_4.length c0_4] 25 (0, 0)) (z_8) hb); have n1_ := Aside0.mk (below_step (z_9) hb); have n2_ := Aside0.mk (hbox); have n3_ := Aside0.mk ((z_11 : w.heap.size ≤ gb107)); have n4_ := Aside0.mk ((z_11 : w.heap.size ≤ gb107)); have n5_ := Aside0.mk ((z_12 : gb102 ≠ gb107)); have n6_ := Aside0.mk ((z_13 : gb107 ≠ gb102)); clear BK102; clear HB; have BK102 := n0_; have HB := n1_; have BK107 := n2_; have GW107 := n3_; have GE107 := n4_; have NB102_107 := n5_; have NB107_102 := n6_; clear n0_ n1_ n2_ n3_ n4_ n5_ n6_; clear hb hbox hg; have hnb22 := NB107_102.out; have hnc22 := NB102_107.out; obtain ⟨hcz23_0, hcz23_1, hfz23_0, hfz23_1⟩ := cells_2 BK107.out; obtain ⟨hcz24_0, hcz24_1, hcz24_2, hcz24_3, hcz24_4, hfz24_0, hfz24_1, hfz24_2, hfz24_3, hfz24_4⟩ := cells_5 BK102.out))
             repeat (go_quiet (first | ((with_reducible refine gate_dst (N := 4) rfl ?_); refine box_event ?hg (N := 4) ?hd (cs := #[.int .i64 0, .int .i64 0]) (t := 69) ?hr ?_; (case hd => rfl); (case hg => rfl); (case hr => exact z_0); intro gb107 hg w43 hbox hb; have n0_ := Aside0.mk (blk_below (g := gb102) (o := .cells #[.int .i64 a0_0, .slice A0_1 l0_1.length c0_1, .int .i64 a0_2, .int .i64 a0_3, .slice (some ad106) l0_4.length c0_4] 25 (0, 0)) (z_8) hb); have n1_ := Aside0.mk (below_step (z_9) hb); have n2_ := Aside0.mk (hbox); have n3_ := Aside0.mk ((z_11 : w.heap.size ≤ gb107)); have n4_ := Aside0.mk ((z_11 : w.heap.size ≤ gb107)); have n5_ := Aside0.mk ((z_12 : gb102 ≠ gb107)); have n6_ := Aside0.mk ((z_13 : gb107 ≠ gb102)); clear BK102; clear HB; have BK102 := n0_; have HB := n1_; have BK107 := n2_; have GW107 := n3_; have GE107 := n4_; have NB102_107 := n5_; have NB107_102 := n6_; clear n0_ n1_ n2_ n3_ n4_ n5_ n6_; clear hb hbox hg; have hnb44 := NB107_102.out; have hnc44 := NB102_107.out; obtain ⟨hcz45_0, hcz45_1, hfz45_0, hfz45_1⟩ := cells_2 BK107.out; obtain ⟨hcz46_0, hcz46_1, hcz46_2, hcz46_3, hcz46_4, hfz46_0, hfz46_1, hfz46_2, hfz46_3, hfz46_4⟩ := cells_5 BK102.out; have p108 : 0 ≤ ((ji38) : Int) := of_decide_eq_true (z_10); have q108 : (ji38) < (l0_4.length : Int) := of_decide_eq_true (z_10); obtain ⟨ad108, e108, hx108_0, hx108_1⟩ := at_T69 HR0_4.out (ji38) p108 q108; obtain rfl : ad106 = ad108 := (by injection e108); have hn108_0 : ad106.block ≠ gb107 := Nat.ne_of_lt (Nat.lt_of_lt_of_le (z_14) GW107.out); have hn108_1 : ad106.block ≠ gb107 := Nat.ne_of_lt (Nat.lt_of_lt_of_le (z_14) GW107.out); replace hx108_0 := pw_cell_below HB.out hx108_0; replace hx108_1 := pw_cell_below HB.out hx108_1; replace hx108_0 := (cell_far (p := ⟨gb107, 0, none⟩) (z_15) (.int .i64 ((rd_T69 l0_4 x3_2).f0))).trans hx108_0; replace hx108_1 := (cell_far (p := ⟨gb107, 0, none⟩) (z_15) (.int .i64 ((rd_T69 l0_4 x3_2).f0))).trans hx108_1; replace hx108_0 := (cell_far (p := ⟨gb107, 1, none⟩) (z_16) (.int .i64 ((rd_T69 l0_4 x3_2).f1))).trans hx108_0; replace hx108_1 := (cell_far (p := ⟨gb107, 1, none⟩) (z_16) (.int .i64 ((rd_T69 l0_4 x3_2).f1))).trans hx108_1; (try have hy108_0 := fun (n_ : Nat) => (show ((((w43.drewN n_).setCell ⟨gb107, 0, none⟩ (.int .i64 ((rd_T69 l0_4 x3_2).f0))).setCell ⟨gb107, 1, none⟩ (.int .i64 ((rd_T69 l0_4 x3_2).f1)))).cell? _ = some _ from hx108_0)); (try have hy108_1 := fun (n_ : Nat) => (show ((((w43.drewN n_).setCell ⟨gb107, 0, none⟩ (.int .i64 ((rd_T69 l0_4 x3_2).f0))).setCell ⟨gb107, 1, none⟩ (.int .i64 ((rd_T69 l0_4 x3_2).f1)))).cell? _ = some _ from hx108_1)); clear hn108_0; clear hn108_1; replace p108 := eq_true p108; replace q108 := eq_true q108) | ((with_reducible refine gate_dst (N := 4) rfl ?_); refine box_event ?hg (N := 4) ?hd (cs := #[.int .i64 0, .int .i64 0]) (t := 69) ?hr ?_; (case hd => rfl); (case hg => rfl); (case hr => exact z_0); intro gb107 hg w21 hbox hb; have n0_ := Aside0.mk (blk_below (g := gb102) (o := .cells #[.int .i64 a0_0, .slice A0_1 l0_1.length c0_1, .int .i64 a0_2, .int .i64 a0_3, .slice (some ad106) l0_4.length c0_4] 25 (0, 0)) (z_8) hb); have n1_ := Aside0.mk (below_step (z_9) hb); have n2_ := Aside0.mk (hbox); have n3_ := Aside0.mk ((z_11 : w.heap.size ≤ gb107)); have n4_ := Aside0.mk ((z_11 : w.heap.size ≤ gb107)); have n5_ := Aside0.mk ((z_12 : gb102 ≠ gb107)); have n6_ := Aside0.mk ((z_13 : gb107 ≠ gb102)); clear BK102; clear HB; have BK102 := n0_; have HB := n1_; have BK107 := n2_; have GW107 := n3_; have GE107 := n4_; have NB102_107 := n5_; have NB107_102 := n6_; clear n0_ n1_ n2_ n3_ n4_ n5_ n6_; clear hb hbox hg; have hnb22 := NB107_102.out; have hnc22 := NB102_107.out; obtain ⟨hcz23_0, hcz23_1, hfz23_0, hfz23_1⟩ := cells_2 BK107.out; obtain ⟨hcz24_0, hcz24_1, hcz24_2, hcz24_3, hcz24_4, hfz24_0, hfz24_1, hfz24_2, hfz24_3, hfz24_4⟩ := cells_5 BK102.out)); try go_wp2_with (first | ((with_reducible refine gate_dst (N := 4) rfl ?_); refine box_event ?hg (N := 4) ?hd (cs := #[.int .i64 0, .int .i64 0]) (t := 69) ?hr ?_; (case hd => rfl); (case hg => rfl); (case hr => exact z_0); intro gb107 hg w43 hbox hb; have n0_ := Aside0.mk (blk_below (g := gb102) (o := .cells #[.int .i64 a0_0, .slice A0_1 l0_1.length c0_1, .int .i64 a0_2, .int .i64 a0_3, .slice (some ad106) l0_4.length c0_4] 25 (0, 0)) (z_8) hb); have n1_ := Aside0.mk (below_step (z_9) hb); have n2_ := Aside0.mk (hbox); have n3_ := Aside0.mk ((z_11 : w.heap.size ≤ gb107)); have n4_ := Aside0.mk ((z_11 : w.heap.size ≤ gb107)); have n5_ := Aside0.mk ((z_12 : gb102 ≠ gb107)); have n6_ := Aside0.mk ((z_13 : gb107 ≠ gb102)); clear BK102; clear HB; have BK102 := n0_; have HB := n1_; have BK107 := n2_; have GW107 := n3_; have GE107 := n4_; have NB102_107 := n5_; have NB107_102 := n6_; clear n0_ n1_ n2_ n3_ n4_ n5_ n6_; clear hb hbox hg; have hnb44 := NB107_102.out; have hnc44 := NB102_107.out; obtain ⟨hcz45_0, hcz45_1, hfz45_0, hfz45_1⟩ := cells_2 BK107.out; obtain ⟨hcz46_0, hcz46_1, hcz46_2, hcz46_3, hcz46_4, hfz46_0, hfz46_1, hfz46_2, hfz46_3, hfz46_4⟩ := cells_5 BK102.out; have p108 : 0 ≤ ((ji38) : Int) := of_decide_eq_true (z_10); have q108 : (ji38) < (l0_4.length : Int) := of_decide_eq_true (z_10); obtain ⟨ad108, e108, hx108_0, hx108_1⟩ := at_T69 HR0_4.out (ji38) p108 q108; obtain rfl : ad106 = ad108 := (by injection e108); have hn108_0 : ad106.block ≠ gb107 := Nat.ne_of_lt (Nat.lt_of_lt_of_le (z_14) GW107.out); have hn108_1 : ad106.block ≠ gb107 := Nat.ne_of_lt (Nat.lt_of_lt_of_le (z_14) GW107.out); replace hx108_0 := pw_cell_below HB.out hx108_0; replace hx108_1 := pw_cell_below HB.out hx108_1; replace hx108_0 := (cell_far (p := ⟨gb107, 0, none⟩) (z_15) (.int .i64 ((rd_T69 l0_4 x3_2).f0))).trans hx108_0; replace hx108_1 := (cell_far (p := ⟨gb107, 0, none⟩) (z_15) (.int .i64 ((rd_T69 l0_4 x3_2).f0))).trans hx108_1; replace hx108_0 := (cell_far (p := ⟨gb107, 1, none⟩) (z_16) (.int .i64 ((rd_T69 l0_4 x3_2).f1))).trans hx108_0; replace hx108_1 := (cell_far (p := ⟨gb107, 1, none⟩) (z_16) (.int .i64 ((rd_T69 l0_4 x3_2).f1))).trans hx108_1; (try have hy108_0 := fun (n_ : Nat) => (show ((((w43.drewN n_).setCell ⟨gb107, 0, none⟩ (.int .i64 ((rd_T69 l0_4 x3_2).f0))).setCell ⟨gb107, 1, none⟩ (.int .i64 ((rd_T69 l0_4 x3_2).f1)))).cell? _ = some _ from hx108_0)); (try have hy108_1 := fun (n_ : Nat) => (show ((((w43.drewN n_).setCell ⟨gb107, 0, none⟩ (.int .i64 ((rd_T69 l0_4 x3_2).f0))).setCell ⟨gb107, 1, none⟩ (.int .i64 ((rd_T69 l0_4 x3_2).f1)))).cell? _ = some _ from hx108_1)); clear hn108_0; clear hn108_1; replace p108 := eq_true p108; replace q108 := eq_true q108) | ((with_reducible refine gate_dst (N := 4) rfl ?_); refine box_event ?hg (N := 4) ?hd (cs := #[.int .i64 0, .int .i64 0]) (t := 69) ?hr ?_; (case hd => rfl); (case hg => rfl); (case hr => exact z_0); intro gb107 hg w21 hbox hb; have n0_ := Aside0.mk (blk_below (g := gb102) (o := .cells #[.int .i64 a0_0, .slice A0_1 l0_1.length c0_1, .int .i64 a0_2, .int .i64 a0_3, .slice (some ad106) l0_4.length c0_4] 25 (0, 0)) (z_8) hb); have n1_ := Aside0.mk (below_step (z_9) hb); have n2_ := Aside0.mk (hbox); have n3_ := Aside0.mk ((z_11 : w.heap.size ≤ gb107)); have n4_ := Aside0.mk ((z_11 : w.heap.size ≤ gb107)); have n5_ := Aside0.mk ((z_12 : gb102 ≠ gb107)); have n6_ := Aside0.mk ((z_13 : gb107 ≠ gb102)); clear BK102; clear HB; have BK102 := n0_; have HB := n1_; have BK107 := n2_; have GW107 := n3_; have GE107 := n4_; have NB102_107 := n5_; have NB107_102 := n6_; clear n0_ n1_ n2_ n3_ n4_ n5_ n6_; clear hb hbox hg; have hnb22 := NB107_102.out; have hnc22 := NB102_107.out; obtain ⟨hcz23_0, hcz23_1, hfz23_0, hfz23_1⟩ := cells_2 BK107.out; obtain ⟨hcz24_0, hcz24_1, hcz24_2, hcz24_3, hcz24_4, hfz24_0, hfz24_1, hfz24_2, hfz24_3, hfz24_4⟩ := cells_5 BK102.out)))
             first
              | (go_ret
                 first | (exact ⟨z_4, z_17⟩) | (exact ⟨by first | rfl | (simp [errW_none, errW_some] <;> rfl) | (simp only [← hji38]; first | rfl | (simp [errW_none, errW_some] <;> rfl)) | (simp [*, errW_none, errW_some] <;> rfl), z_17⟩))
              | (go_roundg k2
                 case measure => have := HJ1.out; have := HK2.out; omega
                 case rel => exact ⟨(wrap64 (x3_2 + 1)), (z_5), H', ⟨by have := HJ1.out; have := HK2.out; omega⟩, ⟨by (with_reducible repeat (first | refine blk_drewN ?_ _ | refine blk_drew ?_ | refine blk_alloc ?_ _)); refine blk_far ?_ NB102_107.out _; (with_reducible repeat (first | refine blk_drewN ?_ _ | refine blk_drew ?_ | refine blk_alloc ?_ _)); refine blk_far ?_ NB102_107.out _; (with_reducible repeat (first | refine blk_drewN ?_ _ | refine blk_drew ?_ | refine blk_alloc ?_ _)); exact BK102.out⟩, ⟨z_17⟩⟩))

end Go.Proofs.Ytpadgacbkkjjfaa.GFnExactEndNew
