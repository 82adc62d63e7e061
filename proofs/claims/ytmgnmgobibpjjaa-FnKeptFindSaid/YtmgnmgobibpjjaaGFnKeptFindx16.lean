/- What the Go functions that FnKeptFind reaches come to, walked step by step; there is no condition beyond those each statement names. -/
import Derived.Test.YtmgnmgobibpjjaaGFnKeptFindx0
import Derived.Test.YtmgnmgobibpjjaaGFnKeptFindx2
import Derived.Test.YtmgnmgobibpjjaaGFnKeptFindx3
import Derived.Test.YtmgnmgobibpjjaaGFnKeptFindx5
import Derived.Test.YtmgnmgobibpjjaaGFnKeptFindx6
import Derived.Test.YtmgnmgobibpjjaaGFnKeptFindx12
import Derived.Test.YtmgnmgobibpjjaaGFnKeptFindx15
namespace Go.Proofs.Ytmgnmgobibpjjaa.GFnKeptFind
open Go.RowKit Go.Proofs.YtmgnmgobibpjjaaVKeptFind.PrintWords Go.Proofs.YtmgnmgobibpjjaaVKeptFind.PrintLast Go.Proofs.YtmgnmgobibpjjaaVKeptFind.PrintMore
attribute [local go_sem] max2_int min2_int max_two min_two max_three min_three max_four min_four   -- for this text's walks alone
set_option linter.unusedVariables false
set_option linter.unusedSimpArgs false

/-! ### laws_FnKeptFind: function 15 -/
mutual
def laws_FnKeptFind.j0 : Nat → List (S83) → List (S26) → ByteArray → Int → List (S83) → Bool → Bool → Option (Bool)
 | 0, _, _, _, _, _, _, _ => none
 | k + 1, x3, x4, x5, x6, x7, x9, x59 => if x59 = true then (some false) else ((impl_KeptOk.f k x3).bind fun t452 => (if t452 = true then ((impl_NamesOk.f k x4).bind fun t453 => (laws_FnKeptFind.j1 k x4 x5 x6 x7 x9 (!t453))) else (laws_FnKeptFind.j1 k x4 x5 x6 x7 x9 true)))
def laws_FnKeptFind.j1 : Nat → List (S26) → ByteArray → Int → List (S83) → Bool → Bool → Option (Bool)
 | 0, _, _, _, _, _, _ => none
 | k + 1, x4, x5, x6, x7, x9, x67 => if x67 = true then (if (x7.length : Int) = 0 then (if x9 = true then (some false) else ((laws_alive.f k).bind fun t454 => (some t454))) else (some false)) else ((impl_KeptFind.f k ([] : List (S83)) x4 x5 x6).bind fun bt455 => ((impl_NameFind.f k x4 x5).bind fun bt460 => ((impl_KeptOk.f k x7).bind fun t462 => (if t462 = true then (if (bt455.2.2 == bt460.2) = true then (if bt455.2.1 = bt460.1 then ((laws_alive.f k).bind fun t463 => (some t463)) else (some false)) else (some false)) else (some false)))))
end
def laws_FnKeptFind.f (k : Nat) (l0 : List Int) : Option (Bool) := if (l0.length : Int) > 1048576 then (some true) else ((spec_DrawKeptFind.f k l0).bind fun bt433 => ((impl_KeptFind.f k bt433.1 bt433.2.1 bt433.2.2.1 bt433.2.2.2).bind fun bt441 => ((spec_KeptFind.f k bt433.1 bt433.2.1 bt433.2.2.1 bt433.2.2.2).bind fun bt446 => (if (bt441.2.2 != bt446.2.2) = true then (laws_FnKeptFind.j0 k bt433.1 bt433.2.1 bt433.2.2.1 bt433.2.2.2 bt441.1 bt441.2.2 true) else (if bt441.2.1 = bt446.2.1 then ((laws_sameKept.f k bt441.1 bt446.1).bind fun t451 => (laws_FnKeptFind.j0 k bt433.1 bt433.2.1 bt433.2.2.1 bt433.2.2.2 bt441.1 bt441.2.2 (!t451))) else (laws_FnKeptFind.j0 k bt433.1 bt433.2.1 bt433.2.2.1 bt433.2.2.2 bt441.1 bt441.2.2 true))))))
theorem laws_FnKeptFind.mono_l : ∀ k, (∀ y0 y1 y2 y3 y4 y5 y6, LeO (laws_FnKeptFind.j0 k y0 y1 y2 y3 y4 y5 y6) (laws_FnKeptFind.j0 (k + 1) y0 y1 y2 y3 y4 y5 y6)) ∧ (∀ y0 y1 y2 y3 y4 y5, LeO (laws_FnKeptFind.j1 k y0 y1 y2 y3 y4 y5) (laws_FnKeptFind.j1 (k + 1) y0 y1 y2 y3 y4 y5))
 | 0 => ⟨fun _ _ _ _ _ _ _ r h => by simp [laws_FnKeptFind.j0] at h, fun _ _ _ _ _ _ r h => by simp [laws_FnKeptFind.j1] at h⟩
 | k + 1 => by
  obtain ⟨ih0, ih1⟩ := laws_FnKeptFind.mono_l k
  refine ⟨?_, ?_⟩
  ·intro y0 y1 y2 y3 y4 y5 y6
   unfold laws_FnKeptFind.j0
   repeat' first
   | (with_reducible exact ih0 _ _ _ _ _ _ _)
   | (with_reducible exact ih1 _ _ _ _ _ _)
   | (with_reducible exact impl_KeptFind.mono _ _ _ _ _)
   | (with_reducible exact impl_KeptOk.mono _ _)
   | (with_reducible exact impl_NameFind.mono _ _ _)
   | (with_reducible exact impl_NamesOk.mono _ _)
   | (with_reducible exact laws_alive.mono _)
   | (with_reducible exact laws_sameKept.mono _ _ _)
   | (with_reducible exact spec_DrawKeptFind.mono _ _)
   | (with_reducible exact spec_KeptFind.mono _ _ _ _ _)
   | (with_reducible exact LeO.refl _)
   | (with_reducible exact LeO.none _)
   | (with_reducible refine LeO.ite ?_ ?_)
   | (with_reducible refine LeO.bind ?_ (fun _ => ?_))
   | exact ih0 _ _ _ _ _ _ _
   | exact ih1 _ _ _ _ _ _
   | exact impl_KeptFind.mono _ _ _ _ _
   | exact impl_KeptOk.mono _ _
   | exact impl_NameFind.mono _ _ _
   | exact impl_NamesOk.mono _ _
   | exact laws_alive.mono _
   | exact laws_sameKept.mono _ _ _
   | exact spec_DrawKeptFind.mono _ _
   | exact spec_KeptFind.mono _ _ _ _ _
   | exact LeO.none _
   | refine LeO.ite ?_ ?_
   | refine LeO.bind ?_ (fun _ => ?_)
  ·intro y0 y1 y2 y3 y4 y5
   unfold laws_FnKeptFind.j1
   repeat' first
   | (with_reducible exact ih0 _ _ _ _ _ _ _)
   | (with_reducible exact ih1 _ _ _ _ _ _)
   | (with_reducible exact impl_KeptFind.mono _ _ _ _ _)
   | (with_reducible exact impl_KeptOk.mono _ _)
   | (with_reducible exact impl_NameFind.mono _ _ _)
   | (with_reducible exact impl_NamesOk.mono _ _)
   | (with_reducible exact laws_alive.mono _)
   | (with_reducible exact laws_sameKept.mono _ _ _)
   | (with_reducible exact spec_DrawKeptFind.mono _ _)
   | (with_reducible exact spec_KeptFind.mono _ _ _ _ _)
   | (with_reducible exact LeO.refl _)
   | (with_reducible exact LeO.none _)
   | (with_reducible refine LeO.ite ?_ ?_)
   | (with_reducible refine LeO.bind ?_ (fun _ => ?_))
   | exact ih0 _ _ _ _ _ _ _
   | exact ih1 _ _ _ _ _ _
   | exact impl_KeptFind.mono _ _ _ _ _
   | exact impl_KeptOk.mono _ _
   | exact impl_NameFind.mono _ _ _
   | exact impl_NamesOk.mono _ _
   | exact laws_alive.mono _
   | exact laws_sameKept.mono _ _ _
   | exact spec_DrawKeptFind.mono _ _
   | exact spec_KeptFind.mono _ _ _ _ _
   | exact LeO.none _
   | refine LeO.ite ?_ ?_
   | refine LeO.bind ?_ (fun _ => ?_)
theorem laws_FnKeptFind.mono : ∀ a0 k, LeO (laws_FnKeptFind.f k a0) (laws_FnKeptFind.f (k + 1) a0) := by
 intro a0 k
 obtain ⟨ih0, ih1⟩ := laws_FnKeptFind.mono_l k
 unfold laws_FnKeptFind.f
 repeat' first
   | (with_reducible exact ih0 _ _ _ _ _ _ _)
   | (with_reducible exact ih1 _ _ _ _ _ _)
   | (with_reducible exact impl_KeptFind.mono _ _ _ _ _)
   | (with_reducible exact impl_KeptOk.mono _ _)
   | (with_reducible exact impl_NameFind.mono _ _ _)
   | (with_reducible exact impl_NamesOk.mono _ _)
   | (with_reducible exact laws_alive.mono _)
   | (with_reducible exact laws_sameKept.mono _ _ _)
   | (with_reducible exact spec_DrawKeptFind.mono _ _)
   | (with_reducible exact spec_KeptFind.mono _ _ _ _ _)
   | (with_reducible exact LeO.refl _)
   | (with_reducible exact LeO.none _)
   | (with_reducible refine LeO.ite ?_ ?_)
   | (with_reducible refine LeO.bind ?_ (fun _ => ?_))
   | exact ih0 _ _ _ _ _ _ _
   | exact ih1 _ _ _ _ _ _
   | exact impl_KeptFind.mono _ _ _ _ _
   | exact impl_KeptOk.mono _ _
   | exact impl_NameFind.mono _ _ _
   | exact impl_NamesOk.mono _ _
   | exact laws_alive.mono _
   | exact laws_sameKept.mono _ _ _
   | exact spec_DrawKeptFind.mono _ _
   | exact spec_KeptFind.mono _ _ _ _ _
   | exact LeO.none _
   | refine LeO.ite ?_ ?_
   | refine LeO.bind ?_ (fun _ => ?_)
set_option maxHeartbeats 8000000 in
set_option maxRecDepth 100000 in
theorem laws_FnKeptFind.calls (k : Nat) (A0 : Option Addr) (c0 : Nat) (l0 : List Int) (r : Bool) (w : World) (hr0 : Kd.C (Kd.int .u8) w A0 l0.length l0) (hc0 : l0.length ≤ c0) (h : laws_FnKeptFind.f k l0 = some r) :
  Calls Try.prog 15 #[.slice A0 l0.length c0] w fun e w' => e = .returned (.bool r) ∧ Below w.heap.size w w' := by
 have HR0 := Aside0.mk hr0
 have HC0 := Aside0.mk hc0
 clear hr0 hc0
 have HB := Aside0.mk (Below.refl w.heap.size w)
 have H : (if (l0.length : Int) > 1048576 then (some true) else ((spec_DrawKeptFind.f k l0).bind fun bt433 => ((impl_KeptFind.f k bt433.1 bt433.2.1 bt433.2.2.1 bt433.2.2.2).bind fun bt441 => ((spec_KeptFind.f k bt433.1 bt433.2.1 bt433.2.2.1 bt433.2.2.2).bind fun bt446 => (if (bt441.2.2 != bt446.2.2) = true then (laws_FnKeptFind.j0 k bt433.1 bt433.2.1 bt433.2.2.1 bt433.2.2.2 bt441.1 bt441.2.2 true) else (if bt441.2.1 = bt446.2.1 then ((laws_sameKept.f k bt441.1 bt446.1).bind fun t451 => (laws_FnKeptFind.j0 k bt433.1 bt433.2.1 bt433.2.2.1 bt433.2.2.2 bt441.1 bt441.2.2 (!t451))) else (laws_FnKeptFind.j0 k bt433.1 bt433.2.1 bt433.2.2.1 bt433.2.2.2 bt441.1 bt441.2.2 true))))))) = some r := h
 clear h
 by_cases c2 : (l0.length : Int) > 1048576
 ·rw [if_pos c2] at H
  have c2b0 : decide (1048576 < (l0.length : Int)) = true := decide_eq_true c2
  have c2b1 : decide (1048576 < l0.length) = true := decide_eq_true (z_6)
  clear c2
  obtain rfl := Option.some.inj H
  go_enter Try.func15, Try.ntmps15
  go_wp2
  go_ret
  exact ⟨z_13, z_8⟩
 ·rw [if_neg c2] at H
  have c2b0 : decide (1048576 < (l0.length : Int)) = false := decide_eq_false c2
  have c2b1 : decide (1048576 < l0.length) = false := decide_eq_false (z_6)
  clear c2
  replace H := Option.bind_eq_some_iff.mp H
  obtain ⟨⟨t433, t434, t435, t436⟩, A30, H⟩ := H
  replace H : ((impl_KeptFind.f k t433 t434 t435 t436).bind fun bt441 => ((spec_KeptFind.f k t433 t434 t435 t436).bind fun bt446 => (if (bt441.2.2 != bt446.2.2) = true then (laws_FnKeptFind.j0 k t433 t434 t435 t436 bt441.1 bt441.2.2 true) else (if bt441.2.1 = bt446.2.1 then ((laws_sameKept.f k bt441.1 bt446.1).bind fun t451 => (laws_FnKeptFind.j0 k t433 t434 t435 t436 bt441.1 bt441.2.2 (!t451))) else (laws_FnKeptFind.j0 k t433 t434 t435 t436 bt441.1 bt441.2.2 true))))) = some r := H
  have A3 := Aside0.mk A30
  clear A30
  replace H := Option.bind_eq_some_iff.mp H
  obtain ⟨⟨t441, t442, t443⟩, A40, H⟩ := H
  replace H : ((spec_KeptFind.f k t433 t434 t435 t436).bind fun bt446 => (if (t443 != bt446.2.2) = true then (laws_FnKeptFind.j0 k t433 t434 t435 t436 t441 t443 true) else (if t442 = bt446.2.1 then ((laws_sameKept.f k t441 bt446.1).bind fun t451 => (laws_FnKeptFind.j0 k t433 t434 t435 t436 t441 t443 (!t451))) else (laws_FnKeptFind.j0 k t433 t434 t435 t436 t441 t443 true)))) = some r := H
  have A4 := Aside0.mk A40
  clear A40
  replace H := Option.bind_eq_some_iff.mp H
  obtain ⟨⟨t446, t449, t450⟩, A50, H⟩ := H
  replace H : (if (t443 != t450) = true then (laws_FnKeptFind.j0 k t433 t434 t435 t436 t441 t443 true) else (if t442 = t449 then ((laws_sameKept.f k t441 t446).bind fun t451 => (laws_FnKeptFind.j0 k t433 t434 t435 t436 t441 t443 (!t451))) else (laws_FnKeptFind.j0 k t433 t434 t435 t436 t441 t443 true))) = some r := H
  have A5 := Aside0.mk A50
  clear A50
  have HC6 := Aside0.mk H
  clear H
  go_enter Try.func15, Try.ntmps15
  go_upto_region 6 with (first | ((with_reducible refine gate_callee (f := 48) rfl ?_); refine goesL_ (some 23) rfl rfl Try.func48 (z_0) rfl #[.slice A0 l0.length c0] rfl (z_14) ?_; (with_reducible refine (spec_DrawKeptFind.calls k _ _ l0 t433 t434 t435 t436 _ ?side1 ?side2 A3.out).mono ?_); (case side1 => exact z_93); (case side2 => exact HC0.out); rintro e w7 ⟨v437, v439, rfl, ho0, ho1, hb⟩; refine ⟨_, rfl, ?_⟩; have n0_ := Aside0.mk (Kd.Q_lower ho0 (below_size (z_8))); have n1_ := Aside0.mk (Kd.R_lower ho1 (below_size (z_8))); have n2_ := Aside0.mk (below_step (z_8) hb); clear HB; have HO438 := n0_; have HO440 := n1_; have HB := n2_; clear n0_ n1_ n2_; (try clear hb); (try clear hb2); (try clear hk); (try clear hi); (try clear ho0); (try clear ho1); obtain ⟨Ao8, co8, eo8, _⟩ := Kd.Q_slice HO438.out; subst eo8; obtain ⟨Ao9, co9, eo9⟩ := Kd.R_slice HO440.out; subst eo9) | ((with_reducible refine gate_callee (f := 49) rfl ?_); refine goesL_ (some 33) rfl rfl Try.func49 (z_0) rfl #[.slice Ao8 t433.length co8, .slice Ao9 t434.length co9, .string t435, .int .i64 t436] rfl (z_14) ?_; (with_reducible refine (impl_KeptFind.calls k _ _ t433 _ _ t434 t435 t436 t441 t442 t443 _ ?side1 ?side2 ?side3 ?side4 A4.out).mono ?_); (case side1 => repeat (first | exact (Kd.Q_reads' HO438.out).2.2 | (with_reducible refine Kd.C_alloc ?_ _) | (with_reducible refine Kd.C_drewN ?_ _) | (with_reducible refine Kd.C_drew ?_))); (case side2 => exact (Kd.Q_reads' HO438.out).2.1); (case side3 => exact z_143); (case side4 => exact (Kd.R_reads' HO440.out).2.1); rintro e w10 ⟨v444, rfl, ho0, hb⟩; refine ⟨_, rfl, ?_⟩; have n0_ := Aside0.mk (Kd.Q_elder' (z_144) (Kd.R_base ho0) hb); have n1_ := Aside0.mk (Kd.R_below (z_145) hb); have n2_ := Aside0.mk (Kd.R_lower (Kd.R_new' ho0 (Kd.Q_lt (z_144))) (below_size (z_8))); have n3_ := Aside0.mk (below_step (z_8) hb); clear HO438; clear HO440; clear HB; have HO438 := n0_; have HO440 := n1_; have HO445 := n2_; have HB := n3_; clear n0_ n1_ n2_ n3_; (try clear hb); (try clear hb2); (try clear hk); (try clear hi); (try clear ho0)) | ((with_reducible refine gate_callee (f := 50) rfl ?_); refine goesL_ (some 42) rfl rfl Try.func50 (z_0) rfl #[.slice Ao8 t433.length co8, .slice Ao9 t434.length co9, .string t435, .int .i64 t436] rfl (z_14) ?_; (with_reducible refine (spec_KeptFind.calls k (fun k_ => some k_ = (.slice Ao8 t433.length co8 : Value).ownBlock) _ _ t433 _ _ t434 t435 t436 t446 t449 t450 _ ?side1 ?side2 ?side3 A5.out).mono ?_); (case side1 => exact Kd.Q_V (Kd.Q_tight rfl (Kd.Q_apart' (HO438.out) (Kd.R_typed HO440.out) (z_5)))); (case side2 => exact z_143); (case side3 => exact (Kd.R_reads' HO440.out).2.1); rintro e w11 ⟨v447, rfl, ho0, hb⟩; refine ⟨_, rfl, ?_⟩; have n0_ := Aside0.mk (Kd.Q_below (z_144) hb); have n1_ := Aside0.mk (Kd.R_below (z_145) hb); have n2_ := Aside0.mk (Kd.R_below (z_146) hb); have n3_ := Aside0.mk (Kd.V_lower (Kd.V_mono (ok' := fun k_ => some k_ ≠ (.slice Ao9 t434.length co9 : Value).ownBlock ∧ some k_ ≠ (v444 : Value).ownBlock) ho0 (fun k_ hk_ => ⟨Or.elim hk_ (fun hs_ => ((Kd.Q_apart' (HO438.out) (Kd.R_typed HO440.out) (z_5)).1 k_ hs_.symm).2) (fun hn_ => (Kd.fresh' (Kd.R_lt (z_145)) k_ hn_)), Or.elim hk_ (fun hs_ => ((Kd.Q_apart' (HO438.out) (Kd.R_typed HO440.out) (z_5)).1 k_ hs_.symm).1.2) (fun hn_ => (Kd.fresh' (Kd.R_lt (z_146)) k_ hn_))⟩)) (below_size (z_8))); have n4_ := Aside0.mk (below_step (z_8) hb); clear HO438; clear HO440; clear HO445; clear HB; have HO438 := n0_; have HO440 := n1_; have HO445 := n2_; have HO448 := n3_; have HB := n4_; clear n0_ n1_ n2_ n3_ n4_; (try clear hb); (try clear hb2); (try clear hk); (try clear hi); (try clear ho0)))
  (try simp only [Act.put, List.setIfInBounds_toArray, List.set_cons_zero, List.set_cons_succ])
  go_cut [59] (fun v59 wc => ∃ (kq : Nat) (x59_5 : Bool), v59 = .bool x59_5 ∧ Aside0 (laws_FnKeptFind.j0 kq t433 t434 t435 t436 t441 t443 x59_5 = some r) ∧ Aside0 (kq ≤ k) ∧ Aside0 (Kd.Q k83 83 wc w.heap.size (fun k_ => some k_ ≠ (v444 : Value).ownBlock) (.slice Ao8 t433.length co8) t433) ∧ Aside0 (Kd.R k26 26 wc w.heap.size (fun _ => True) (.slice Ao9 t434.length co9) t434) ∧ Aside0 (Kd.R k83 83 wc w.heap.size (fun k_ => some k_ ≠ ((.slice Ao8 t433.length co8) : Value).ownBlock) v444 t441) ∧ Aside0 (Below w.heap.size w wc))
  case first =>
   have H := HC6.out
   clear HC6
   by_cases c12 : (t443 != t450) = true
   ·rw [if_pos c12] at H
    have c12b0 : (t443 != t450) = true := c12
    (try (have c12b1 : decide (t443 = t450) = false := by simpa using c12))
    (try (have c12b2 : (t443 == t450) = false := by simpa using c12))
    (try (have c12b3 : ¬ (t443 = t450) := by simpa using c12))
    clear c12
    (first | rw [c12b0] | (simp only [i64_w, i32_w]; rw [c12b0]) | skip)
    have H' := Aside0.mk H
    clear H
    go_wp2
    go_meet
    case rel => exact ⟨_, (true), (z_3), H', ⟨z_23⟩, ⟨z_147⟩, ⟨z_145⟩, ⟨z_148⟩, ⟨z_8⟩⟩
   ·rw [if_neg c12] at H
    have c12b0 : (t443 != t450) = false := by simpa using c12
    (try (have c12b1 : decide (t443 = t450) = true := by simpa using c12))
    (try (have c12b2 : (t443 == t450) = true := by simpa using c12))
    clear c12
    (first | rw [c12b0] | (simp only [i64_w, i32_w]; rw [c12b0]) | skip)
    by_cases c13 : t442 = t449
    ·rw [if_pos c13] at H
     have c13b0 : (t442 == t449) = true := beq_iff_eq.mpr c13
     have c13b1 : (t442 != t449) = false := bne_eq_false_iff_eq.mpr c13
     clear c13
     replace H := Option.bind_eq_some_iff.mp H
     obtain ⟨t451, A140, H⟩ := H
     have A14 := Aside0.mk A140
     clear A140
     have H' := Aside0.mk H
     clear H
     obtain ⟨Ao15, co15, eo15⟩ := Kd.R_slice HO445.out
     subst eo15
     obtain ⟨Ao16, co16, eo16⟩ := Kd.V_slice HO448.out
     subst eo16
     go_wp2_with (first | (go_at_call 46; (with_reducible refine (laws_sameKept.calls k _ _ t441 _ _ t446 t451 _ ?side1 ?side2 ?side3 ?side4 A14.out).mono ?_); (case side1 => repeat (first | exact (Kd.R_reads' HO445.out).2.2 | (with_reducible refine Kd.C_alloc ?_ _) | (with_reducible refine Kd.C_drewN ?_ _) | (with_reducible refine Kd.C_drew ?_))); (case side2 => exact (Kd.R_reads' HO445.out).2.1); (case side3 => repeat (first | exact (Kd.V_reads' HO448.out).2.2 | (with_reducible refine Kd.C_alloc ?_ _) | (with_reducible refine Kd.C_drewN ?_ _) | (with_reducible refine Kd.C_drew ?_))); (case side4 => exact (Kd.V_reads' HO448.out).2.1); rintro e w' ⟨rfl, ⟨nd, rfl⟩⟩))
     go_meet
     case rel => exact ⟨_, (!t451), (z_3), H', ⟨z_23⟩, ⟨z_147⟩, ⟨z_145⟩, ⟨z_148⟩, ⟨z_8⟩⟩
    ·rw [if_neg c13] at H
     have c13b0 : (t442 == t449) = false := beq_eq_false_iff_ne.mpr c13
     have c13b1 : (t442 != t449) = true := bne_iff_ne.mpr c13
     have H' := Aside0.mk H
     clear H
     go_wp2
     go_meet
     case rel => exact ⟨_, (true), (z_3), H', ⟨z_23⟩, ⟨z_147⟩, ⟨z_145⟩, ⟨z_148⟩, ⟨z_8⟩⟩
  case rest =>
   clear HC6
   try clear c1
   try clear c2
   try clear c2b0
   try clear c2b1
   try clear p2
   try clear c4
   try clear c5
   try clear c12
   try clear c12b0
   try clear c12b1
   try clear c12b2
   try clear c13
   try clear c13b0
   try clear c13b1
   try clear c15
   obtain ⟨kq, x59_5, rfl, HA, HJ5, HO_3, HO_4, HO_7, HB⟩ := hcut
   cases kq with
   | zero => exact absurd HA.out (by simp [laws_FnKeptFind.j0])
   | succ kj5 =>
    have H := HA.out
    clear HA
    simp only [laws_FnKeptFind.j0] at H
    by_cases c17 : x59_5 = true
    ·subst c17
     rw [if_pos rfl] at H
     obtain rfl := Option.some.inj H
     go_wp2
     go_ret
     exact ⟨z_13, z_8⟩
    ·replace c17 := Bool.eq_false_iff.mpr c17
     subst c17
     rw [if_neg (show ¬ (false = true) by decide)] at H
     have HC18 := Aside0.mk H
     clear H
     go_upto_region 8 with (fail)
     go_cut [67] (fun v67 wc => ∃ (kq : Nat) (x67_17 : Bool), v67 = .bool x67_17 ∧ Aside0 (laws_FnKeptFind.j1 kq t434 t435 t436 t441 t443 x67_17 = some r) ∧ Aside0 (kq ≤ kj5) ∧ Aside0 (Kd.R k26 26 wc w.heap.size (fun _ => True) (.slice Ao9 t434.length co9) t434) ∧ Aside0 (Kd.R k83 83 wc w.heap.size (fun _ => True) v444 t441) ∧ Aside0 (Below w.heap.size w wc))
     case first =>
      have H := HC18.out
      clear HC18
      replace H := Option.bind_eq_some_iff.mp H
      obtain ⟨t452, A190, H⟩ := H
      have A19 := Aside0.mk A190
      clear A190
      by_cases c20 : t452 = true
      ·subst c20
       rw [if_pos rfl] at H
       replace H := Option.bind_eq_some_iff.mp H
       obtain ⟨t453, A210, H⟩ := H
       have A21 := Aside0.mk A210
       clear A210
       have H' := Aside0.mk H
       clear H
       go_wp2_with (first | ((with_reducible refine gate_callee (f := 36) rfl ?_); refine goesL_ (some 61) rfl rfl Try.func36 (z_0) rfl #[.slice Ao8 t433.length co8] rfl (z_14) ?_; (with_reducible refine (impl_KeptOk.calls kj5 _ _ t433 true _ ?side1 ?side2 A19.out).mono ?_); (case side1 => exact z_149); (case side2 => exact (Kd.Q_reads' HO_3.out).2.1); rintro e w22 ⟨rfl, hb⟩; refine ⟨_, rfl, ?_⟩; have n0_ := Aside0.mk (Kd.Q_below (z_150) hb); have n1_ := Aside0.mk (Kd.R_below (z_151) hb); have n2_ := Aside0.mk (Kd.R_below (z_152) hb); have n3_ := Aside0.mk (below_step (z_8) hb); clear HO_3; clear HO_4; clear HO_7; clear HB; have HO_3 := n0_; have HO_4 := n1_; have HO_7 := n2_; have HB := n3_; clear n0_ n1_ n2_ n3_; (try clear hb); (try clear hb2); (try clear hk); (try clear hi)) | (go_at_call 27; (with_reducible refine (impl_NamesOk.calls kj5 _ _ t434 t453 _ ?side1 ?side2 A21.out).mono ?_); (case side1 => exact z_153); (case side2 => exact z_154); rintro e w23 ⟨rfl, hb⟩; have n0_ := Aside0.mk (Kd.Q_below (z_150) hb); have n1_ := Aside0.mk (Kd.R_below (z_151) hb); have n2_ := Aside0.mk (Kd.R_below (z_152) hb); have n3_ := Aside0.mk (below_step (z_8) hb); clear HO_3; clear HO_4; clear HO_7; clear HB; have HO_3 := n0_; have HO_4 := n1_; have HO_7 := n2_; have HB := n3_; clear n0_ n1_ n2_ n3_; (try clear hb); (try clear hb2); (try clear hk); (try clear hi)))
       go_meet
       case rel => exact ⟨_, (!t453), (z_3), H', ⟨by have := HJ5.out; first | omega | exact Nat.le_refl _⟩, ⟨z_151⟩, ⟨z_155⟩, ⟨z_8⟩⟩
      ·replace c20 := Bool.eq_false_iff.mpr c20
       subst c20
       rw [if_neg (show ¬ (false = true) by decide)] at H
       have H' := Aside0.mk H
       clear H
       go_wp2_with (first | ((with_reducible refine gate_callee (f := 36) rfl ?_); refine goesL_ (some 61) rfl rfl Try.func36 (z_0) rfl #[.slice Ao8 t433.length co8] rfl (z_14) ?_; (with_reducible refine (impl_KeptOk.calls kj5 _ _ t433 false _ ?side1 ?side2 A19.out).mono ?_); (case side1 => exact z_149); (case side2 => exact (Kd.Q_reads' HO_3.out).2.1); rintro e w24 ⟨rfl, hb⟩; refine ⟨_, rfl, ?_⟩; have n0_ := Aside0.mk (Kd.Q_below (z_150) hb); have n1_ := Aside0.mk (Kd.R_below (z_151) hb); have n2_ := Aside0.mk (Kd.R_below (z_152) hb); have n3_ := Aside0.mk (below_step (z_8) hb); clear HO_3; clear HO_4; clear HO_7; clear HB; have HO_3 := n0_; have HO_4 := n1_; have HO_7 := n2_; have HB := n3_; clear n0_ n1_ n2_ n3_; (try clear hb); (try clear hb2); (try clear hk); (try clear hi)))
       go_meet
       case rel => exact ⟨_, (true), (z_3), H', ⟨by have := HJ5.out; first | omega | exact Nat.le_refl _⟩, ⟨z_151⟩, ⟨z_155⟩, ⟨z_8⟩⟩
     case rest =>
      clear HC18
      try clear c1
      try clear c2
      try clear c2b0
      try clear c2b1
      try clear p2
      try clear c3
      try clear c4
      try clear c5
      try clear c12
      try clear c12b0
      try clear c12b1
      try clear c12b2
      try clear c13
      try clear c13b0
      try clear c13b1
      try clear c15
      try clear c17
      try clear c20
      try clear p2
      obtain ⟨kq, x67_17, rfl, HA, HJ17, HO_4, HO_7, HB⟩ := hcut
      cases kq with
      | zero => exact absurd HA.out (by simp [laws_FnKeptFind.j1])
      | succ kj17 =>
       have H := HA.out
       clear HA
       simp only [laws_FnKeptFind.j1] at H
       by_cases c25 : x67_17 = true
       ·subst c25
        rw [if_pos rfl] at H
        by_cases c26 : (t441.length : Int) = 0
        ·rw [if_pos c26] at H
         have c26b0 : ((t441.length : Int) == 0) = true := beq_iff_eq.mpr c26
         have c26b1 : ((t441.length : Int) != 0) = false := bne_eq_false_iff_eq.mpr c26
         clear c26
         by_cases c27 : t443 = true
         ·subst c27
          rw [if_pos rfl] at H
          obtain rfl := Option.some.inj H
          obtain ⟨Ao28, co28, eo28⟩ := Kd.R_slice HO_7.out
          subst eo28
          go_wp2
          go_ret
          exact ⟨z_13, z_8⟩
         ·replace c27 := Bool.eq_false_iff.mpr c27
          subst c27
          rw [if_neg (show ¬ (false = true) by decide)] at H
          replace H := Option.bind_eq_some_iff.mp H
          obtain ⟨t454, A290, H⟩ := H
          have A29 := Aside0.mk A290
          clear A290
          obtain rfl := Option.some.inj H
          obtain ⟨Ao30, co30, eo30⟩ := Kd.R_slice HO_7.out
          subst eo30
          go_wp2_with (first | (go_at_call 23; (with_reducible refine (laws_alive.calls kj17  t454 _ A29.out).mono ?_); rintro e w31 ⟨rfl, hb⟩; have n0_ := Aside0.mk (Kd.R_below (z_151) hb); have n1_ := Aside0.mk (Kd.R_below (z_152) hb); have n2_ := Aside0.mk (below_step (z_8) hb); clear HO_4; clear HO_7; clear HB; have HO_4 := n0_; have HO_7 := n1_; have HB := n2_; clear n0_ n1_ n2_; (try clear hb); (try clear hb2); (try clear hk); (try clear hi)))
          go_ret
          exact ⟨z_13, z_8⟩
        ·rw [if_neg c26] at H
         have c26b0 : ((t441.length : Int) == 0) = false := beq_eq_false_iff_ne.mpr c26
         have c26b1 : ((t441.length : Int) != 0) = true := bne_iff_ne.mpr c26
         have c26b2 : ¬ (t441 = []) := fun h_ => c26 (by rw [h_]; rfl)
         obtain rfl := Option.some.inj H
         obtain ⟨Ao32, co32, eo32⟩ := Kd.R_slice HO_7.out
         subst eo32
         go_wp2
         go_ret
         exact ⟨z_13, z_8⟩
       ·replace c25 := Bool.eq_false_iff.mpr c25
        subst c25
        rw [if_neg (show ¬ (false = true) by decide)] at H
        replace H := Option.bind_eq_some_iff.mp H
        obtain ⟨⟨t455, t456, t457⟩, A330, H⟩ := H
        replace H : ((impl_NameFind.f kj17 t434 t435).bind fun bt460 => ((impl_KeptOk.f kj17 t441).bind fun t462 => (if t462 = true then (if (t457 == bt460.2) = true then (if t456 = bt460.1 then ((laws_alive.f kj17).bind fun t463 => (some t463)) else (some false)) else (some false)) else (some false)))) = some r := H
        have A33 := Aside0.mk A330
        clear A330
        replace H := Option.bind_eq_some_iff.mp H
        obtain ⟨⟨t460, t461⟩, A340, H⟩ := H
        replace H : ((impl_KeptOk.f kj17 t441).bind fun t462 => (if t462 = true then (if (t457 == t461) = true then (if t456 = t460 then ((laws_alive.f kj17).bind fun t463 => (some t463)) else (some false)) else (some false)) else (some false))) = some r := H
        have A34 := Aside0.mk A340
        clear A340
        replace H := Option.bind_eq_some_iff.mp H
        obtain ⟨t462, A350, H⟩ := H
        have A35 := Aside0.mk A350
        clear A350
        by_cases c36 : t462 = true
        ·subst c36
         rw [if_pos rfl] at H
         by_cases c37 : (t457 == t461) = true
         ·rw [if_pos c37] at H
          have c37b0 : (t457 == t461) = true := c37
          (try (have c37b1 : decide (t457 = t461) = true := by simpa using c37))
          (try (have c37b2 : (t457 == t461) = true := by simpa using c37))
          clear c37
          by_cases c38 : t456 = t460
          ·rw [if_pos c38] at H
           have c38b0 : (t456 == t460) = true := beq_iff_eq.mpr c38
           have c38b1 : (t456 != t460) = false := bne_eq_false_iff_eq.mpr c38
           clear c38
           replace H := Option.bind_eq_some_iff.mp H
           obtain ⟨t463, A390, H⟩ := H
           have A39 := Aside0.mk A390
           clear A390
           obtain rfl := Option.some.inj H
           go_wp2_with (first | ((with_reducible refine gate_callee (f := 49) rfl ?_); refine goesL_ (some 82) rfl rfl Try.func49 (z_0) rfl #[.slice none 0 0, .slice Ao9 t434.length co9, .string t435, .int .i64 t436] rfl (z_14) ?_; (refine (impl_KeptFind.calls kj17 _ _ ([] : List (S83)) _ _ t434 t435 t436 t455 t456 t457 _ ?side1 ?side2 ?side3 ?side4 A33.out).mono ?_); (case side1 => exact Kd.C_nil _ _); (case side2 => exact Nat.le_refl _); (case side3 => exact z_153); (case side4 => exact z_154); rintro e w40 ⟨v458, rfl, ho0, hb⟩; refine ⟨_, rfl, ?_⟩; have n0_ := Aside0.mk (Kd.R_below (z_151) hb); have n1_ := Aside0.mk (Kd.R_elder' (z_152) (Kd.R_base ho0) hb); have n2_ := Aside0.mk (Kd.R_lower (Kd.R_new' ho0 (Kd.R_lt (z_152))) (below_size (z_8))); have n3_ := Aside0.mk (below_step (z_8) hb); clear HO_4; clear HO_7; clear HB; have HO_4 := n0_; have HO_7 := n1_; have HO459 := n2_; have HB := n3_; clear n0_ n1_ n2_ n3_; (try clear hb); (try clear hb2); (try clear hk); (try clear hi); (try clear ho0)) | ((with_reducible refine gate_callee (f := 40) rfl ?_); refine goesL_ (some 89) rfl rfl Try.func40 (z_0) rfl #[.slice Ao9 t434.length co9, .string t435] rfl (z_14) ?_; (with_reducible refine (impl_NameFind.calls kj17 _ _ t434 t435 t460 t461 _ ?side1 ?side2 A34.out).mono ?_); (case side1 => exact z_153); (case side2 => exact z_154); rintro e w41 ⟨rfl, hb⟩; refine ⟨_, rfl, ?_⟩; have n0_ := Aside0.mk (Kd.R_below (z_151) hb); have n1_ := Aside0.mk (Kd.R_below (z_152) hb); have n2_ := Aside0.mk (Kd.R_below (z_156) hb); have n3_ := Aside0.mk (below_step (z_8) hb); clear HO_4; clear HO_7; clear HO459; clear HB; have HO_4 := n0_; have HO_7 := n1_; have HO459 := n2_; have HB := n3_; clear n0_ n1_ n2_ n3_; (try clear hb); (try clear hb2); (try clear hk); (try clear hi); obtain ⟨Ao42, co42, eo42⟩ := Kd.R_slice HO_7.out; subst eo42) | ((with_reducible refine gate_callee (f := 36) rfl ?_); refine goesL_ (some 93) rfl rfl Try.func36 (z_0) rfl #[.slice Ao42 t441.length co42] rfl (z_14) ?_; (with_reducible refine (impl_KeptOk.calls kj17 _ _ t441 true _ ?side1 ?side2 A35.out).mono ?_); (case side1 => exact z_157); (case side2 => exact (Kd.R_reads' HO_7.out).2.1); rintro e w43 ⟨rfl, hb⟩; refine ⟨_, rfl, ?_⟩; have n0_ := Aside0.mk (Kd.R_below (z_151) hb); have n1_ := Aside0.mk (Kd.R_below (z_152) hb); have n2_ := Aside0.mk (Kd.R_below (z_156) hb); have n3_ := Aside0.mk (below_step (z_8) hb); clear HO_4; clear HO_7; clear HO459; clear HB; have HO_4 := n0_; have HO_7 := n1_; have HO459 := n2_; have HB := n3_; clear n0_ n1_ n2_ n3_; (try clear hb); (try clear hb2); (try clear hk); (try clear hi)) | (go_at_call 23; (with_reducible refine (laws_alive.calls kj17  t463 _ A39.out).mono ?_); rintro e w44 ⟨rfl, hb⟩; have n0_ := Aside0.mk (Kd.R_below (z_151) hb); have n1_ := Aside0.mk (Kd.R_below (z_152) hb); have n2_ := Aside0.mk (Kd.R_below (z_156) hb); have n3_ := Aside0.mk (below_step (z_8) hb); clear HO_4; clear HO_7; clear HO459; clear HB; have HO_4 := n0_; have HO_7 := n1_; have HO459 := n2_; have HB := n3_; clear n0_ n1_ n2_ n3_; (try clear hb); (try clear hb2); (try clear hk); (try clear hi)))
           go_ret
           exact ⟨z_13, z_8⟩
          ·rw [if_neg c38] at H
           have c38b0 : (t456 == t460) = false := beq_eq_false_iff_ne.mpr c38
           have c38b1 : (t456 != t460) = true := bne_iff_ne.mpr c38
           obtain rfl := Option.some.inj H
           go_wp2_with (first | ((with_reducible refine gate_callee (f := 49) rfl ?_); refine goesL_ (some 82) rfl rfl Try.func49 (z_0) rfl #[.slice none 0 0, .slice Ao9 t434.length co9, .string t435, .int .i64 t436] rfl (z_14) ?_; (refine (impl_KeptFind.calls kj17 _ _ ([] : List (S83)) _ _ t434 t435 t436 t455 t456 t457 _ ?side1 ?side2 ?side3 ?side4 A33.out).mono ?_); (case side1 => exact Kd.C_nil _ _); (case side2 => exact Nat.le_refl _); (case side3 => exact z_153); (case side4 => exact z_154); rintro e w45 ⟨v458, rfl, ho0, hb⟩; refine ⟨_, rfl, ?_⟩; have n0_ := Aside0.mk (Kd.R_below (z_151) hb); have n1_ := Aside0.mk (Kd.R_elder' (z_152) (Kd.R_base ho0) hb); have n2_ := Aside0.mk (Kd.R_lower (Kd.R_new' ho0 (Kd.R_lt (z_152))) (below_size (z_8))); have n3_ := Aside0.mk (below_step (z_8) hb); clear HO_4; clear HO_7; clear HB; have HO_4 := n0_; have HO_7 := n1_; have HO459 := n2_; have HB := n3_; clear n0_ n1_ n2_ n3_; (try clear hb); (try clear hb2); (try clear hk); (try clear hi); (try clear ho0)) | ((with_reducible refine gate_callee (f := 40) rfl ?_); refine goesL_ (some 89) rfl rfl Try.func40 (z_0) rfl #[.slice Ao9 t434.length co9, .string t435] rfl (z_14) ?_; (with_reducible refine (impl_NameFind.calls kj17 _ _ t434 t435 t460 t461 _ ?side1 ?side2 A34.out).mono ?_); (case side1 => exact z_153); (case side2 => exact z_154); rintro e w46 ⟨rfl, hb⟩; refine ⟨_, rfl, ?_⟩; have n0_ := Aside0.mk (Kd.R_below (z_151) hb); have n1_ := Aside0.mk (Kd.R_below (z_152) hb); have n2_ := Aside0.mk (Kd.R_below (z_156) hb); have n3_ := Aside0.mk (below_step (z_8) hb); clear HO_4; clear HO_7; clear HO459; clear HB; have HO_4 := n0_; have HO_7 := n1_; have HO459 := n2_; have HB := n3_; clear n0_ n1_ n2_ n3_; (try clear hb); (try clear hb2); (try clear hk); (try clear hi); obtain ⟨Ao47, co47, eo47⟩ := Kd.R_slice HO_7.out; subst eo47) | ((with_reducible refine gate_callee (f := 36) rfl ?_); refine goesL_ (some 93) rfl rfl Try.func36 (z_0) rfl #[.slice Ao47 t441.length co47] rfl (z_14) ?_; (with_reducible refine (impl_KeptOk.calls kj17 _ _ t441 true _ ?side1 ?side2 A35.out).mono ?_); (case side1 => exact z_157); (case side2 => exact (Kd.R_reads' HO_7.out).2.1); rintro e w48 ⟨rfl, hb⟩; refine ⟨_, rfl, ?_⟩; have n0_ := Aside0.mk (Kd.R_below (z_151) hb); have n1_ := Aside0.mk (Kd.R_below (z_152) hb); have n2_ := Aside0.mk (Kd.R_below (z_156) hb); have n3_ := Aside0.mk (below_step (z_8) hb); clear HO_4; clear HO_7; clear HO459; clear HB; have HO_4 := n0_; have HO_7 := n1_; have HO459 := n2_; have HB := n3_; clear n0_ n1_ n2_ n3_; (try clear hb); (try clear hb2); (try clear hk); (try clear hi)))
           go_ret
           exact ⟨z_13, z_8⟩
         ·rw [if_neg c37] at H
          have c37b0 : (t457 == t461) = false := by simpa using c37
          (try (have c37b1 : decide (t457 = t461) = false := by simpa using c37))
          (try (have c37b2 : (t457 == t461) = false := by simpa using c37))
          (try (have c37b3 : ¬ (t457 = t461) := by simpa using c37))
          clear c37
          obtain rfl := Option.some.inj H
          go_wp2_with (first | ((with_reducible refine gate_callee (f := 49) rfl ?_); refine goesL_ (some 82) rfl rfl Try.func49 (z_0) rfl #[.slice none 0 0, .slice Ao9 t434.length co9, .string t435, .int .i64 t436] rfl (z_14) ?_; (refine (impl_KeptFind.calls kj17 _ _ ([] : List (S83)) _ _ t434 t435 t436 t455 t456 t457 _ ?side1 ?side2 ?side3 ?side4 A33.out).mono ?_); (case side1 => exact Kd.C_nil _ _); (case side2 => exact Nat.le_refl _); (case side3 => exact z_153); (case side4 => exact z_154); rintro e w49 ⟨v458, rfl, ho0, hb⟩; refine ⟨_, rfl, ?_⟩; have n0_ := Aside0.mk (Kd.R_below (z_151) hb); have n1_ := Aside0.mk (Kd.R_elder' (z_152) (Kd.R_base ho0) hb); have n2_ := Aside0.mk (Kd.R_lower (Kd.R_new' ho0 (Kd.R_lt (z_152))) (below_size (z_8))); have n3_ := Aside0.mk (below_step (z_8) hb); clear HO_4; clear HO_7; clear HB; have HO_4 := n0_; have HO_7 := n1_; have HO459 := n2_; have HB := n3_; clear n0_ n1_ n2_ n3_; (try clear hb); (try clear hb2); (try clear hk); (try clear hi); (try clear ho0)) | ((with_reducible refine gate_callee (f := 40) rfl ?_); refine goesL_ (some 89) rfl rfl Try.func40 (z_0) rfl #[.slice Ao9 t434.length co9, .string t435] rfl (z_14) ?_; (with_reducible refine (impl_NameFind.calls kj17 _ _ t434 t435 t460 t461 _ ?side1 ?side2 A34.out).mono ?_); (case side1 => exact z_153); (case side2 => exact z_154); rintro e w50 ⟨rfl, hb⟩; refine ⟨_, rfl, ?_⟩; have n0_ := Aside0.mk (Kd.R_below (z_151) hb); have n1_ := Aside0.mk (Kd.R_below (z_152) hb); have n2_ := Aside0.mk (Kd.R_below (z_156) hb); have n3_ := Aside0.mk (below_step (z_8) hb); clear HO_4; clear HO_7; clear HO459; clear HB; have HO_4 := n0_; have HO_7 := n1_; have HO459 := n2_; have HB := n3_; clear n0_ n1_ n2_ n3_; (try clear hb); (try clear hb2); (try clear hk); (try clear hi); obtain ⟨Ao51, co51, eo51⟩ := Kd.R_slice HO_7.out; subst eo51) | ((with_reducible refine gate_callee (f := 36) rfl ?_); refine goesL_ (some 93) rfl rfl Try.func36 (z_0) rfl #[.slice Ao51 t441.length co51] rfl (z_14) ?_; (with_reducible refine (impl_KeptOk.calls kj17 _ _ t441 true _ ?side1 ?side2 A35.out).mono ?_); (case side1 => exact z_157); (case side2 => exact (Kd.R_reads' HO_7.out).2.1); rintro e w52 ⟨rfl, hb⟩; refine ⟨_, rfl, ?_⟩; have n0_ := Aside0.mk (Kd.R_below (z_151) hb); have n1_ := Aside0.mk (Kd.R_below (z_152) hb); have n2_ := Aside0.mk (Kd.R_below (z_156) hb); have n3_ := Aside0.mk (below_step (z_8) hb); clear HO_4; clear HO_7; clear HO459; clear HB; have HO_4 := n0_; have HO_7 := n1_; have HO459 := n2_; have HB := n3_; clear n0_ n1_ n2_ n3_; (try clear hb); (try clear hb2); (try clear hk); (try clear hi)))
          go_ret
          exact ⟨z_13, z_8⟩
        ·replace c36 := Bool.eq_false_iff.mpr c36
         subst c36
         rw [if_neg (show ¬ (false = true) by decide)] at H
         obtain rfl := Option.some.inj H
         go_wp2_with (first | ((with_reducible refine gate_callee (f := 49) rfl ?_); refine goesL_ (some 82) rfl rfl Try.func49 (z_0) rfl #[.slice none 0 0, .slice Ao9 t434.length co9, .string t435, .int .i64 t436] rfl (z_14) ?_; (refine (impl_KeptFind.calls kj17 _ _ ([] : List (S83)) _ _ t434 t435 t436 t455 t456 t457 _ ?side1 ?side2 ?side3 ?side4 A33.out).mono ?_); (case side1 => exact Kd.C_nil _ _); (case side2 => exact Nat.le_refl _); (case side3 => exact z_153); (case side4 => exact z_154); rintro e w53 ⟨v458, rfl, ho0, hb⟩; refine ⟨_, rfl, ?_⟩; have n0_ := Aside0.mk (Kd.R_below (z_151) hb); have n1_ := Aside0.mk (Kd.R_elder' (z_152) (Kd.R_base ho0) hb); have n2_ := Aside0.mk (Kd.R_lower (Kd.R_new' ho0 (Kd.R_lt (z_152))) (below_size (z_8))); have n3_ := Aside0.mk (below_step (z_8) hb); clear HO_4; clear HO_7; clear HB; have HO_4 := n0_; have HO_7 := n1_; have HO459 := n2_; have HB := n3_; clear n0_ n1_ n2_ n3_; (try clear hb); (try clear hb2); (try clear hk); (try clear hi); (try clear ho0)) | ((with_reducible refine gate_callee (f := 40) rfl ?_); refine goesL_ (some 89) rfl rfl Try.func40 (z_0) rfl #[.slice Ao9 t434.length co9, .string t435] rfl (z_14) ?_; (with_reducible refine (impl_NameFind.calls kj17 _ _ t434 t435 t460 t461 _ ?side1 ?side2 A34.out).mono ?_); (case side1 => exact z_153); (case side2 => exact z_154); rintro e w54 ⟨rfl, hb⟩; refine ⟨_, rfl, ?_⟩; have n0_ := Aside0.mk (Kd.R_below (z_151) hb); have n1_ := Aside0.mk (Kd.R_below (z_152) hb); have n2_ := Aside0.mk (Kd.R_below (z_156) hb); have n3_ := Aside0.mk (below_step (z_8) hb); clear HO_4; clear HO_7; clear HO459; clear HB; have HO_4 := n0_; have HO_7 := n1_; have HO459 := n2_; have HB := n3_; clear n0_ n1_ n2_ n3_; (try clear hb); (try clear hb2); (try clear hk); (try clear hi); obtain ⟨Ao55, co55, eo55⟩ := Kd.R_slice HO_7.out; subst eo55) | ((with_reducible refine gate_callee (f := 36) rfl ?_); refine goesL_ (some 93) rfl rfl Try.func36 (z_0) rfl #[.slice Ao55 t441.length co55] rfl (z_14) ?_; (with_reducible refine (impl_KeptOk.calls kj17 _ _ t441 false _ ?side1 ?side2 A35.out).mono ?_); (case side1 => exact z_157); (case side2 => exact (Kd.R_reads' HO_7.out).2.1); rintro e w56 ⟨rfl, hb⟩; refine ⟨_, rfl, ?_⟩; have n0_ := Aside0.mk (Kd.R_below (z_151) hb); have n1_ := Aside0.mk (Kd.R_below (z_152) hb); have n2_ := Aside0.mk (Kd.R_below (z_156) hb); have n3_ := Aside0.mk (below_step (z_8) hb); clear HO_4; clear HO_7; clear HO459; clear HB; have HO_4 := n0_; have HO_7 := n1_; have HO459 := n2_; have HB := n3_; clear n0_ n1_ n2_ n3_; (try clear hb); (try clear hb2); (try clear hk); (try clear hi)))
         go_ret
         exact ⟨z_13, z_8⟩

/-- THE ONE PURE STATEMENT of laws_FnKeptFind: yours. -/
def laws_FnKeptFind.Pure : Prop := ∀ (l0 : List Int), l0.length ≤ maxLen → l0.length * 1 ≤ 140737488351232 → (∀ x ∈ l0, (Lit.int .u8 x).wf = true) → ∃ k, laws_FnKeptFind.f k l0 = some true
theorem laws_FnKeptFind.walk (P : laws_FnKeptFind.Pure) (a0 : Option Addr) (len0 cap0 : Nat) (z0 : List Int) (w : World) (w0 : (a0 = none ∧ len0 = 0 ∧ cap0 = 0 ∧ z0 = []) ∨ ∃ x, a0 = some x ∧ len0 ≤ cap0 ∧ cap0 ≤ maxLen ∧ z0.length = cap0 ∧ (∀ i, i < z0.length → w.cell? (x.add i) = some (.int .u8 (z0.getD i 0))) ∧ ∀ n ∈ z0, (Lit.int .u8 n).wf = true) (y0 : len0 * 1 ≤ 140737488351232) :
  Calls Try.prog 15 #[.slice a0 len0 cap0] w fun e w' => e = .returned (.bool true) ∧ Below w.heap.size w w' := by
 obtain ⟨l0, rfl, hr0, hm0, hw0, hc0⟩ := ReadsInt.ofRowC w0
 obtain ⟨k, h⟩ := P l0 hm0 y0 hw0
 refine (laws_FnKeptFind.calls k _ _ l0 true w (Kd.C_of_reads (d := (0 : Int)) (h1 := fun _ => rfl) hr0) hc0 h).mono ?_
 rintro e w' ⟨rfl, hd⟩
 exact ⟨rfl, hd⟩

end Go.Proofs.Ytmgnmgobibpjjaa.GFnKeptFind
