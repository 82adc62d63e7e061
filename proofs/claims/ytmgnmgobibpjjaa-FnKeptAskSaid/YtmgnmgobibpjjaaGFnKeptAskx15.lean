/- What the Go functions that FnKeptAsk reaches come to, walked step by step; there is no condition beyond those each statement names. -/
import Derived.Test.YtmgnmgobibpjjaaGFnKeptAskx0
import Derived.Test.YtmgnmgobibpjjaaGFnKeptAskx1
import Derived.Test.YtmgnmgobibpjjaaGFnKeptAskx3
import Derived.Test.YtmgnmgobibpjjaaGFnKeptAskx5
import Derived.Test.YtmgnmgobibpjjaaGFnKeptAskx6
import Derived.Test.YtmgnmgobibpjjaaGFnKeptAskx8
import Derived.Test.YtmgnmgobibpjjaaGFnKeptAskx12
import Derived.Test.YtmgnmgobibpjjaaGFnKeptAskx13
import Derived.Test.YtmgnmgobibpjjaaGFnKeptAskx14
namespace Go.Proofs.Ytmgnmgobibpjjaa.GFnKeptAsk
open Go.RowKit Go.Proofs.YtmgnmgobibpjjaaVKeptAsk.PrintWords Go.Proofs.YtmgnmgobibpjjaaVKeptAsk.PrintLast Go.Proofs.YtmgnmgobibpjjaaVKeptAsk.PrintMore
attribute [local go_sem] max2_int min2_int max_two min_two max_three min_three max_four min_four   -- for this text's walks alone
set_option linter.unusedVariables false
set_option linter.unusedSimpArgs false

attribute [local go_sem high] eqA26
/-! ### laws_FnKeptAsk: function 14 -/
mutual
def laws_FnKeptAsk.j0 : Nat → List (S83) → List (S26) → ByteArray → Int → List (S83) → Bool → Bool → ByteArray → Int → Int → ByteArray → Int → Option (Bool)
 | 0, _, _, _, _, _, _, _, _, _, _, _, _ => none
 | k + 1, x3, x4, x5, x6, x7, x9, x59, x423000, x423001, x423002, x423003, x423004 => if x59 = true then (some false) else ((impl_NameAsk.f k x4 x5).bind fun bt434 => (if bt434.2.2.2.2.2 = true then ((impl_KeptOk.f k x3).bind fun t441 => (laws_FnKeptAsk.j1 k x3 x4 x5 x6 x7 x9 (!t441) x423000 x423001 x423002 x423003 x423004 bt434.1 bt434.2.1 bt434.2.2.1 bt434.2.2.2.1 bt434.2.2.2.2.1)) else (laws_FnKeptAsk.j1 k x3 x4 x5 x6 x7 x9 true x423000 x423001 x423002 x423003 x423004 bt434.1 bt434.2.1 bt434.2.2.1 bt434.2.2.2.1 bt434.2.2.2.2.1)))
def laws_FnKeptAsk.j1 : Nat → List (S83) → List (S26) → ByteArray → Int → List (S83) → Bool → Bool → ByteArray → Int → Int → ByteArray → Int → ByteArray → Int → Int → ByteArray → Int → Option (Bool)
 | 0, _, _, _, _, _, _, _, _, _, _, _, _, _, _, _, _, _ => none
 | k + 1, x3, x4, x5, x6, x7, x9, x72, x423000, x423001, x423002, x423003, x423004, x441000, x441001, x441002, x441003, x441004 => if x72 = true then (if (x7.length : Int) = 0 then (if x9 = true then (some false) else ((laws_alive.f k).bind fun t442 => (some t442))) else (some false)) else ((impl_KeptAsk.f k x7 x4 x5 x6).bind fun bt443 => ((impl_KeptOk.f k x7).bind fun t453 => (if t453 = true then (if bt443.2.2.2.2.2.2 = true then (if (bt443.2.1.toList == x423000.toList && (bt443.2.2.1 == x423001 && (bt443.2.2.2.1 == x423002 && (bt443.2.2.2.2.1.toList == x423003.toList && (bt443.2.2.2.2.2.1 == x423004))))) = true then ((laws_sameKept.f k bt443.1 x7).bind fun t454 => (if t454 = true then (if x9 = true then ((laws_sameKept.f k x7 x3).bind fun t455 => (if t455 = true then ((laws_alive.f k).bind fun t456 => (some t456)) else (some false))) else (if (x423000.toList == x441000.toList && (x423001 == x441001 && (x423002 == x441002 && (x423003.toList == x441003.toList && (x423004 == x441004))))) = true then ((laws_alive.f k).bind fun t457 => (some t457)) else (some false))) else (some false))) else (some false)) else (some false)) else (some false))))
end
def laws_FnKeptAsk.f (k : Nat) (l0 : List Int) : Option (Bool) := if (l0.length : Int) > 1048576 then (some true) else ((spec_DrawKeptAsk.f k l0).bind fun bt405 => ((impl_KeptAsk.f k bt405.1 bt405.2.1 bt405.2.2.1 bt405.2.2.2).bind fun bt413 => ((spec_KeptAsk.f k bt405.1 bt405.2.1 bt405.2.2.1 bt405.2.2.2).bind fun bt423 => (if (bt413.2.2.2.2.2.2 != bt423.2.2.2.2.2.2) = true then (laws_FnKeptAsk.j0 k bt405.1 bt405.2.1 bt405.2.2.1 bt405.2.2.2 bt413.1 bt413.2.2.2.2.2.2 true bt413.2.1 bt413.2.2.1 bt413.2.2.2.1 bt413.2.2.2.2.1 bt413.2.2.2.2.2.1) else (if (!(bt413.2.1.toList == bt423.2.1.toList) || (!(bt413.2.2.1 == bt423.2.2.1) || (!(bt413.2.2.2.1 == bt423.2.2.2.1) || (!(bt413.2.2.2.2.1.toList == bt423.2.2.2.2.1.toList) || (!(bt413.2.2.2.2.2.1 == bt423.2.2.2.2.2.1)))))) = true then (laws_FnKeptAsk.j0 k bt405.1 bt405.2.1 bt405.2.2.1 bt405.2.2.2 bt413.1 bt413.2.2.2.2.2.2 true bt413.2.1 bt413.2.2.1 bt413.2.2.2.1 bt413.2.2.2.2.1 bt413.2.2.2.2.2.1) else ((laws_sameKept.f k bt413.1 bt423.1).bind fun t433 => (laws_FnKeptAsk.j0 k bt405.1 bt405.2.1 bt405.2.2.1 bt405.2.2.2 bt413.1 bt413.2.2.2.2.2.2 (!t433) bt413.2.1 bt413.2.2.1 bt413.2.2.2.1 bt413.2.2.2.2.1 bt413.2.2.2.2.2.1)))))))
theorem laws_FnKeptAsk.mono_l : ∀ k, (∀ y0 y1 y2 y3 y4 y5 y6 y7 y8 y9 y10 y11, LeO (laws_FnKeptAsk.j0 k y0 y1 y2 y3 y4 y5 y6 y7 y8 y9 y10 y11) (laws_FnKeptAsk.j0 (k + 1) y0 y1 y2 y3 y4 y5 y6 y7 y8 y9 y10 y11)) ∧ (∀ y0 y1 y2 y3 y4 y5 y6 y7 y8 y9 y10 y11 y12 y13 y14 y15 y16, LeO (laws_FnKeptAsk.j1 k y0 y1 y2 y3 y4 y5 y6 y7 y8 y9 y10 y11 y12 y13 y14 y15 y16) (laws_FnKeptAsk.j1 (k + 1) y0 y1 y2 y3 y4 y5 y6 y7 y8 y9 y10 y11 y12 y13 y14 y15 y16))
 | 0 => ⟨fun _ _ _ _ _ _ _ _ _ _ _ _ r h => by simp [laws_FnKeptAsk.j0] at h, fun _ _ _ _ _ _ _ _ _ _ _ _ _ _ _ _ _ r h => by simp [laws_FnKeptAsk.j1] at h⟩
 | k + 1 => by
  obtain ⟨ih0, ih1⟩ := laws_FnKeptAsk.mono_l k
  refine ⟨?_, ?_⟩
  ·intro y0 y1 y2 y3 y4 y5 y6 y7 y8 y9 y10 y11
   unfold laws_FnKeptAsk.j0
   repeat' first
   | (with_reducible exact ih0 _ _ _ _ _ _ _ _ _ _ _ _)
   | (with_reducible exact ih1 _ _ _ _ _ _ _ _ _ _ _ _ _ _ _ _ _)
   | (with_reducible exact impl_KeptAsk.mono _ _ _ _ _)
   | (with_reducible exact impl_KeptOk.mono _ _)
   | (with_reducible exact impl_NameAsk.mono _ _ _)
   | (with_reducible exact laws_alive.mono _)
   | (with_reducible exact laws_sameKept.mono _ _ _)
   | (with_reducible exact spec_DrawKeptAsk.mono _ _)
   | (with_reducible exact spec_KeptAsk.mono _ _ _ _ _)
   | (with_reducible exact LeO.refl _)
   | (with_reducible exact LeO.none _)
   | (with_reducible refine LeO.ite ?_ ?_)
   | (with_reducible refine LeO.bind ?_ (fun _ => ?_))
   | exact ih0 _ _ _ _ _ _ _ _ _ _ _ _
   | exact ih1 _ _ _ _ _ _ _ _ _ _ _ _ _ _ _ _ _
   | exact impl_KeptAsk.mono _ _ _ _ _
   | exact impl_KeptOk.mono _ _
   | exact impl_NameAsk.mono _ _ _
   | exact laws_alive.mono _
   | exact laws_sameKept.mono _ _ _
   | exact spec_DrawKeptAsk.mono _ _
   | exact spec_KeptAsk.mono _ _ _ _ _
   | exact LeO.none _
   | refine LeO.ite ?_ ?_
   | refine LeO.bind ?_ (fun _ => ?_)
  ·intro y0 y1 y2 y3 y4 y5 y6 y7 y8 y9 y10 y11 y12 y13 y14 y15 y16
   unfold laws_FnKeptAsk.j1
   repeat' first
   | (with_reducible exact ih0 _ _ _ _ _ _ _ _ _ _ _ _)
   | (with_reducible exact ih1 _ _ _ _ _ _ _ _ _ _ _ _ _ _ _ _ _)
   | (with_reducible exact impl_KeptAsk.mono _ _ _ _ _)
   | (with_reducible exact impl_KeptOk.mono _ _)
   | (with_reducible exact impl_NameAsk.mono _ _ _)
   | (with_reducible exact laws_alive.mono _)
   | (with_reducible exact laws_sameKept.mono _ _ _)
   | (with_reducible exact spec_DrawKeptAsk.mono _ _)
   | (with_reducible exact spec_KeptAsk.mono _ _ _ _ _)
   | (with_reducible exact LeO.refl _)
   | (with_reducible exact LeO.none _)
   | (with_reducible refine LeO.ite ?_ ?_)
   | (with_reducible refine LeO.bind ?_ (fun _ => ?_))
   | exact ih0 _ _ _ _ _ _ _ _ _ _ _ _
   | exact ih1 _ _ _ _ _ _ _ _ _ _ _ _ _ _ _ _ _
   | exact impl_KeptAsk.mono _ _ _ _ _
   | exact impl_KeptOk.mono _ _
   | exact impl_NameAsk.mono _ _ _
   | exact laws_alive.mono _
   | exact laws_sameKept.mono _ _ _
   | exact spec_DrawKeptAsk.mono _ _
   | exact spec_KeptAsk.mono _ _ _ _ _
   | exact LeO.none _
   | refine LeO.ite ?_ ?_
   | refine LeO.bind ?_ (fun _ => ?_)
theorem laws_FnKeptAsk.mono : ∀ a0 k, LeO (laws_FnKeptAsk.f k a0) (laws_FnKeptAsk.f (k + 1) a0) := by
 intro a0 k
 obtain ⟨ih0, ih1⟩ := laws_FnKeptAsk.mono_l k
 unfold laws_FnKeptAsk.f
 repeat' first
   | (with_reducible exact ih0 _ _ _ _ _ _ _ _ _ _ _ _)
   | (with_reducible exact ih1 _ _ _ _ _ _ _ _ _ _ _ _ _ _ _ _ _)
   | (with_reducible exact impl_KeptAsk.mono _ _ _ _ _)
   | (with_reducible exact impl_KeptOk.mono _ _)
   | (with_reducible exact impl_NameAsk.mono _ _ _)
   | (with_reducible exact laws_alive.mono _)
   | (with_reducible exact laws_sameKept.mono _ _ _)
   | (with_reducible exact spec_DrawKeptAsk.mono _ _)
   | (with_reducible exact spec_KeptAsk.mono _ _ _ _ _)
   | (with_reducible exact LeO.refl _)
   | (with_reducible exact LeO.none _)
   | (with_reducible refine LeO.ite ?_ ?_)
   | (with_reducible refine LeO.bind ?_ (fun _ => ?_))
   | exact ih0 _ _ _ _ _ _ _ _ _ _ _ _
   | exact ih1 _ _ _ _ _ _ _ _ _ _ _ _ _ _ _ _ _
   | exact impl_KeptAsk.mono _ _ _ _ _
   | exact impl_KeptOk.mono _ _
   | exact impl_NameAsk.mono _ _ _
   | exact laws_alive.mono _
   | exact laws_sameKept.mono _ _ _
   | exact spec_DrawKeptAsk.mono _ _
   | exact spec_KeptAsk.mono _ _ _ _ _
   | exact LeO.none _
   | refine LeO.ite ?_ ?_
   | refine LeO.bind ?_ (fun _ => ?_)
set_option maxHeartbeats 8000000 in
set_option maxRecDepth 100000 in
theorem laws_FnKeptAsk.calls (k : Nat) (A0 : Option Addr) (c0 : Nat) (l0 : List Int) (r : Bool) (w : World) (hr0 : Kd.C (Kd.int .u8) w A0 l0.length l0) (hc0 : l0.length ≤ c0) (h : laws_FnKeptAsk.f k l0 = some r) :
  Calls Try.prog 14 #[.slice A0 l0.length c0] w fun e w' => e = .returned (.bool r) ∧ Below w.heap.size w w' := by
 have hu26 := Try.underlying26
 have HR0 := Aside0.mk hr0
 have HC0 := Aside0.mk hc0
 clear hr0 hc0
 have HB := Aside0.mk (Below.refl w.heap.size w)
 have H : (if (l0.length : Int) > 1048576 then (some true) else ((spec_DrawKeptAsk.f k l0).bind fun bt405 => ((impl_KeptAsk.f k bt405.1 bt405.2.1 bt405.2.2.1 bt405.2.2.2).bind fun bt413 => ((spec_KeptAsk.f k bt405.1 bt405.2.1 bt405.2.2.1 bt405.2.2.2).bind fun bt423 => (if (bt413.2.2.2.2.2.2 != bt423.2.2.2.2.2.2) = true then (laws_FnKeptAsk.j0 k bt405.1 bt405.2.1 bt405.2.2.1 bt405.2.2.2 bt413.1 bt413.2.2.2.2.2.2 true bt413.2.1 bt413.2.2.1 bt413.2.2.2.1 bt413.2.2.2.2.1 bt413.2.2.2.2.2.1) else (if (!(bt413.2.1.toList == bt423.2.1.toList) || (!(bt413.2.2.1 == bt423.2.2.1) || (!(bt413.2.2.2.1 == bt423.2.2.2.1) || (!(bt413.2.2.2.2.1.toList == bt423.2.2.2.2.1.toList) || (!(bt413.2.2.2.2.2.1 == bt423.2.2.2.2.2.1)))))) = true then (laws_FnKeptAsk.j0 k bt405.1 bt405.2.1 bt405.2.2.1 bt405.2.2.2 bt413.1 bt413.2.2.2.2.2.2 true bt413.2.1 bt413.2.2.1 bt413.2.2.2.1 bt413.2.2.2.2.1 bt413.2.2.2.2.2.1) else ((laws_sameKept.f k bt413.1 bt423.1).bind fun t433 => (laws_FnKeptAsk.j0 k bt405.1 bt405.2.1 bt405.2.2.1 bt405.2.2.2 bt413.1 bt413.2.2.2.2.2.2 (!t433) bt413.2.1 bt413.2.2.1 bt413.2.2.2.1 bt413.2.2.2.2.1 bt413.2.2.2.2.2.1)))))))) = some r := h
 clear h
 by_cases c2 : (l0.length : Int) > 1048576
 ·rw [if_pos c2] at H
  have c2b0 : decide (1048576 < (l0.length : Int)) = true := decide_eq_true c2
  have c2b1 : decide (1048576 < l0.length) = true := decide_eq_true (z_6)
  clear c2
  obtain rfl := Option.some.inj H
  go_enter Try.func14, Try.ntmps14
  go_wp2
  go_ret
  exact ⟨z_13, z_8⟩
 ·rw [if_neg c2] at H
  have c2b0 : decide (1048576 < (l0.length : Int)) = false := decide_eq_false c2
  have c2b1 : decide (1048576 < l0.length) = false := decide_eq_false (z_6)
  clear c2
  replace H := Option.bind_eq_some_iff.mp H
  obtain ⟨⟨t405, t406, t407, t408⟩, A30, H⟩ := H
  replace H : ((impl_KeptAsk.f k t405 t406 t407 t408).bind fun bt413 => ((spec_KeptAsk.f k t405 t406 t407 t408).bind fun bt423 => (if (bt413.2.2.2.2.2.2 != bt423.2.2.2.2.2.2) = true then (laws_FnKeptAsk.j0 k t405 t406 t407 t408 bt413.1 bt413.2.2.2.2.2.2 true bt413.2.1 bt413.2.2.1 bt413.2.2.2.1 bt413.2.2.2.2.1 bt413.2.2.2.2.2.1) else (if (!(bt413.2.1.toList == bt423.2.1.toList) || (!(bt413.2.2.1 == bt423.2.2.1) || (!(bt413.2.2.2.1 == bt423.2.2.2.1) || (!(bt413.2.2.2.2.1.toList == bt423.2.2.2.2.1.toList) || (!(bt413.2.2.2.2.2.1 == bt423.2.2.2.2.2.1)))))) = true then (laws_FnKeptAsk.j0 k t405 t406 t407 t408 bt413.1 bt413.2.2.2.2.2.2 true bt413.2.1 bt413.2.2.1 bt413.2.2.2.1 bt413.2.2.2.2.1 bt413.2.2.2.2.2.1) else ((laws_sameKept.f k bt413.1 bt423.1).bind fun t433 => (laws_FnKeptAsk.j0 k t405 t406 t407 t408 bt413.1 bt413.2.2.2.2.2.2 (!t433) bt413.2.1 bt413.2.2.1 bt413.2.2.2.1 bt413.2.2.2.2.1 bt413.2.2.2.2.2.1)))))) = some r := H
  have A3 := Aside0.mk A30
  clear A30
  replace H := Option.bind_eq_some_iff.mp H
  obtain ⟨⟨t413, t416, t417, t418, t419, t420, t421⟩, A40, H⟩ := H
  replace H : ((spec_KeptAsk.f k t405 t406 t407 t408).bind fun bt423 => (if (t421 != bt423.2.2.2.2.2.2) = true then (laws_FnKeptAsk.j0 k t405 t406 t407 t408 t413 t421 true t416 t417 t418 t419 t420) else (if (!(t416.toList == bt423.2.1.toList) || (!(t417 == bt423.2.2.1) || (!(t418 == bt423.2.2.2.1) || (!(t419.toList == bt423.2.2.2.2.1.toList) || (!(t420 == bt423.2.2.2.2.2.1)))))) = true then (laws_FnKeptAsk.j0 k t405 t406 t407 t408 t413 t421 true t416 t417 t418 t419 t420) else ((laws_sameKept.f k t413 bt423.1).bind fun t433 => (laws_FnKeptAsk.j0 k t405 t406 t407 t408 t413 t421 (!t433) t416 t417 t418 t419 t420))))) = some r := H
  have A4 := Aside0.mk A40
  clear A40
  replace H := Option.bind_eq_some_iff.mp H
  obtain ⟨⟨t423, t426, t427, t428, t429, t430, t431⟩, A50, H⟩ := H
  replace H : (if (t421 != t431) = true then (laws_FnKeptAsk.j0 k t405 t406 t407 t408 t413 t421 true t416 t417 t418 t419 t420) else (if (!(t416.toList == t426.toList) || (!(t417 == t427) || (!(t418 == t428) || (!(t419.toList == t429.toList) || (!(t420 == t430)))))) = true then (laws_FnKeptAsk.j0 k t405 t406 t407 t408 t413 t421 true t416 t417 t418 t419 t420) else ((laws_sameKept.f k t413 t423).bind fun t433 => (laws_FnKeptAsk.j0 k t405 t406 t407 t408 t413 t421 (!t433) t416 t417 t418 t419 t420)))) = some r := H
  have A5 := Aside0.mk A50
  clear A50
  have HC6 := Aside0.mk H
  clear H
  go_enter Try.func14, Try.ntmps14
  go_upto_region 6 with (first | ((with_reducible refine gate_callee (f := 47) rfl ?_); refine goesL_ (some 23) rfl rfl Try.func47 (z_0) rfl #[.slice A0 l0.length c0] rfl (z_14) ?_; (with_reducible refine (spec_DrawKeptAsk.calls k _ _ l0 t405 t406 t407 t408 _ ?side1 ?side2 A3.out).mono ?_); (case side1 => exact z_31); (case side2 => exact HC0.out); rintro e w7 ⟨v409, v411, rfl, ho0, ho1, hb⟩; refine ⟨_, rfl, ?_⟩; have n0_ := Aside0.mk (Kd.Q_lower ho0 (below_size (z_8))); have n1_ := Aside0.mk (Kd.R_lower ho1 (below_size (z_8))); have n2_ := Aside0.mk (below_step (z_8) hb); clear HB; have HO410 := n0_; have HO412 := n1_; have HB := n2_; clear n0_ n1_ n2_; (try clear hb); (try clear hb2); (try clear hk); (try clear hi); (try clear ho0); (try clear ho1); obtain ⟨Ao8, co8, eo8, _⟩ := Kd.Q_slice HO410.out; subst eo8; obtain ⟨Ao9, co9, eo9⟩ := Kd.R_slice HO412.out; subst eo9) | ((with_reducible refine gate_callee (f := 44) rfl ?_); refine goesL_ (some 33) rfl rfl Try.func44 (z_0) rfl #[.slice Ao8 t405.length co8, .slice Ao9 t406.length co9, .string t407, .int .i64 t408] rfl (z_14) ?_; (with_reducible refine (impl_KeptAsk.calls k _ _ t405 _ _ t406 t407 t408 t413 t416 t417 t418 t419 t420 t421 _ ?side1 ?side2 ?side3 ?side4 A4.out).mono ?_); (case side1 => repeat (first | exact (Kd.Q_reads' HO410.out).2.2 | (with_reducible refine Kd.C_alloc ?_ _) | (with_reducible refine Kd.C_drewN ?_ _) | (with_reducible refine Kd.C_drew ?_))); (case side2 => exact (Kd.Q_reads' HO410.out).2.1); (case side3 => repeat (first | exact (Kd.R_reads' HO412.out).2.2 | (with_reducible refine Kd.C_alloc ?_ _) | (with_reducible refine Kd.C_drewN ?_ _) | (with_reducible refine Kd.C_drew ?_))); (case side4 => exact (Kd.R_reads' HO412.out).2.1); rintro e w10 ⟨v414, rfl, ho0, hb⟩; refine ⟨_, rfl, ?_⟩; have n0_ := Aside0.mk (Kd.Q_elder' (z_125) (Kd.R_base ho0) hb); have n1_ := Aside0.mk (Kd.R_below (z_126) hb); have n2_ := Aside0.mk (Kd.R_lower (Kd.R_new' ho0 (Kd.Q_lt (z_125))) (below_size (z_8))); have n3_ := Aside0.mk (below_step (z_8) hb); clear HO410; clear HO412; clear HB; have HO410 := n0_; have HO412 := n1_; have HO415 := n2_; have HB := n3_; clear n0_ n1_ n2_ n3_; (try clear hb); (try clear hb2); (try clear hk); (try clear hi); (try clear ho0)) | ((with_reducible refine gate_dst (N := 8) rfl ?_); refine box_event ?hg (N := 8) ?hd (cs := #[.string (⟨#[]⟩ : ByteArray), .int .i64 0, .int .i64 0, .string (⟨#[]⟩ : ByteArray), .int .i64 0]) (t := 26) ?hr ?_; (case hd => rfl); (case hg => rfl); (case hr => exact z_9); intro gb422 hg w11 hbox hb; have n0_ := Aside0.mk (Kd.Q_below (z_125) hb); have n1_ := Aside0.mk (Kd.R_below (Kd.R_elderB (z_126) gb422 (Nat.le_of_eq hg.symm)) hb); have n2_ := Aside0.mk (Kd.R_below (z_127) hb); have n3_ := Aside0.mk (below_step (z_8) hb); have n4_ := Aside0.mk (hbox); have n5_ := Aside0.mk ((z_20 : w.heap.size ≤ gb422)); have n6_ := Aside0.mk ((z_20 : w.heap.size ≤ gb422)); clear HO410; clear HO412; clear HO415; clear HB; have HO410 := n0_; have HO412 := n1_; have HO415 := n2_; have HB := n3_; have BK422 := n4_; have GW422 := n5_; have GE422 := n6_; clear n0_ n1_ n2_ n3_ n4_ n5_ n6_; clear hb hbox hg; have hcz12_0 : w11.cell? ⟨gb422, 0, none⟩ = some (.string (⟨#[]⟩ : ByteArray)) := (blk_cell BK422.out 0).trans rfl; have hcz12_1 : w11.cell? ⟨gb422, 1, none⟩ = some (.int .i64 0) := (blk_cell BK422.out 1).trans rfl; have hcz12_2 : w11.cell? ⟨gb422, 2, none⟩ = some (.int .i64 0) := (blk_cell BK422.out 2).trans rfl; have hcz12_3 : w11.cell? ⟨gb422, 3, none⟩ = some (.string (⟨#[]⟩ : ByteArray)) := (blk_cell BK422.out 3).trans rfl; have hcz12_4 : w11.cell? ⟨gb422, 4, none⟩ = some (.int .i64 0) := (blk_cell BK422.out 4).trans rfl; have hfz12_0 := blk_frozen BK422.out 0; have hfz12_1 := blk_frozen BK422.out 1; have hfz12_2 := blk_frozen BK422.out 2; have hfz12_3 := blk_frozen BK422.out 3; have hfz12_4 := blk_frozen BK422.out 4) | ((with_reducible refine gate_callee (f := 45) rfl ?_); refine goesL_ (some 42) rfl rfl Try.func45 (z_0) rfl #[.slice Ao8 t405.length co8, .slice Ao9 t406.length co9, .string t407, .int .i64 t408] rfl (z_14) ?_; (with_reducible refine (spec_KeptAsk.calls k _ _ t405 _ _ t406 t407 t408 t423 t426 t427 t428 t429 t430 t431 _ ?side1 ?side2 ?side3 ?side4 A5.out).mono ?_); (case side1 => refine (Kd.Q_reads' (e := 83) (base := w.heap.size) (ok := fun k_ => (True ∧ some k_ ≠ (v414 : Value).ownBlock)) (n := t405.length) (c := co8) ?_).2.2; exact (z_128)); (case side2 => exact (Kd.Q_reads' HO410.out).2.1); (case side3 => refine (Kd.R_reads' (e := 26) (base := w.heap.size) (ok := fun k_ => (True ∧ k_ ≠ gb422)) (n := t406.length) (c := co9) ?_).2.2; exact (z_129)); (case side4 => exact (Kd.R_reads' HO412.out).2.1); rintro e w13 ⟨v424, rfl, ho0, hb⟩; refine ⟨_, rfl, ?_⟩; have n0_ := Aside0.mk (Kd.Q_elder' (z_128) (Kd.Q_base ho0) hb); have n1_ := Aside0.mk (Kd.R_below (z_129) hb); have n2_ := Aside0.mk (Kd.R_elder' (z_130) (Kd.Q_base ho0) hb); have n3_ := Aside0.mk (Kd.Q_lower (Kd.Q_new' (Kd.Q_new' ho0 (Kd.Q_lt (z_128))) (Kd.R_lt (z_130))) (below_size (z_131))); have n4_ := Aside0.mk (blk_below (g := gb422) (o := .cells #[.string t416, .int .i64 t417, .int .i64 t418, .string t419, .int .i64 t420] 26 (0, 0)) (by (with_reducible repeat (first | refine blk_drewN ?_ _ | refine blk_drew ?_ | refine blk_alloc ?_ _)); refine blk_put (cs := #[.string t416, .int .i64 t417, .int .i64 t418, .string t419, .int .i64 0]) ?_ 4 _ rfl; (with_reducible repeat (first | refine blk_drewN ?_ _ | refine blk_drew ?_ | refine blk_alloc ?_ _)); refine blk_put (cs := #[.string t416, .int .i64 t417, .int .i64 t418, .string (⟨#[]⟩ : ByteArray), .int .i64 0]) ?_ 3 _ rfl; (with_reducible repeat (first | refine blk_drewN ?_ _ | refine blk_drew ?_ | refine blk_alloc ?_ _)); refine blk_put (cs := #[.string t416, .int .i64 t417, .int .i64 0, .string (⟨#[]⟩ : ByteArray), .int .i64 0]) ?_ 2 _ rfl; (with_reducible repeat (first | refine blk_drewN ?_ _ | refine blk_drew ?_ | refine blk_alloc ?_ _)); refine blk_put (cs := #[.string t416, .int .i64 0, .int .i64 0, .string (⟨#[]⟩ : ByteArray), .int .i64 0]) ?_ 1 _ rfl; (with_reducible repeat (first | refine blk_drewN ?_ _ | refine blk_drew ?_ | refine blk_alloc ?_ _)); refine blk_put (cs := #[.string (⟨#[]⟩ : ByteArray), .int .i64 0, .int .i64 0, .string (⟨#[]⟩ : ByteArray), .int .i64 0]) ?_ 0 _ rfl; (with_reducible repeat (first | refine blk_drewN ?_ _ | refine blk_drew ?_ | refine blk_alloc ?_ _)); exact BK422.out) hb); have n5_ := Aside0.mk (below_step (z_131) hb); clear HO410; clear HO412; clear HO415; clear BK422; clear HB; have HO410 := n0_; have HO412 := n1_; have HO415 := n2_; have HO425 := n3_; have BK422 := n4_; have HB := n5_; clear n0_ n1_ n2_ n3_ n4_ n5_; (try clear hb); (try clear hb2); (try clear hk); (try clear hi); (try clear ho0)) | ((with_reducible refine gate_dst (N := 11) rfl ?_); refine box_event ?hg (N := 11) ?hd (cs := #[.string (⟨#[]⟩ : ByteArray), .int .i64 0, .int .i64 0, .string (⟨#[]⟩ : ByteArray), .int .i64 0]) (t := 26) ?hr ?_; (case hd => rfl); (case hg => rfl); (case hr => exact z_9); intro gb432 hg w14 hbox hb; have n0_ := Aside0.mk (Kd.Q_below (z_125) hb); have n1_ := Aside0.mk (Kd.R_below (Kd.R_elderB (z_126) gb432 (Nat.le_of_eq hg.symm)) hb); have n2_ := Aside0.mk (Kd.R_below (z_127) hb); have n3_ := Aside0.mk (Kd.Q_below (by (with_reducible repeat (first | apply Kd.Q_alloc | apply Kd.Q_drewN | apply Kd.Q_drew)); exact HO425.out) hb); have n4_ := Aside0.mk (blk_below (g := gb422) (o := .cells #[.string t416, .int .i64 t417, .int .i64 t418, .string t419, .int .i64 t420] 26 (0, 0)) (z_132) hb); have n5_ := Aside0.mk (below_step (z_131) hb); have n6_ := Aside0.mk (hbox); have n7_ := Aside0.mk ((z_133 : w.heap.size ≤ gb432)); have n8_ := Aside0.mk ((z_133 : w.heap.size ≤ gb432)); have n9_ := Aside0.mk ((z_134 : gb422 ≠ gb432)); have n10_ := Aside0.mk ((z_135 : gb432 ≠ gb422)); clear HO410; clear HO412; clear HO415; clear HO425; clear BK422; clear HB; have HO410 := n0_; have HO412 := n1_; have HO415 := n2_; have HO425 := n3_; have BK422 := n4_; have HB := n5_; have BK432 := n6_; have GW432 := n7_; have GE432 := n8_; have NB422_432 := n9_; have NB432_422 := n10_; clear n0_ n1_ n2_ n3_ n4_ n5_ n6_ n7_ n8_ n9_ n10_; clear hb hbox hg; have hnb15 := NB432_422.out; have hnc15 := NB422_432.out; have hcz16_0 : w14.cell? ⟨gb432, 0, none⟩ = some (.string (⟨#[]⟩ : ByteArray)) := (blk_cell BK432.out 0).trans rfl; have hcz16_1 : w14.cell? ⟨gb432, 1, none⟩ = some (.int .i64 0) := (blk_cell BK432.out 1).trans rfl; have hcz16_2 : w14.cell? ⟨gb432, 2, none⟩ = some (.int .i64 0) := (blk_cell BK432.out 2).trans rfl; have hcz16_3 : w14.cell? ⟨gb432, 3, none⟩ = some (.string (⟨#[]⟩ : ByteArray)) := (blk_cell BK432.out 3).trans rfl; have hcz16_4 : w14.cell? ⟨gb432, 4, none⟩ = some (.int .i64 0) := (blk_cell BK432.out 4).trans rfl; have hfz16_0 := blk_frozen BK432.out 0; have hfz16_1 := blk_frozen BK432.out 1; have hfz16_2 := blk_frozen BK432.out 2; have hfz16_3 := blk_frozen BK432.out 3; have hfz16_4 := blk_frozen BK432.out 4))
  (try simp only [Act.put, List.setIfInBounds_toArray, List.set_cons_zero, List.set_cons_succ])
  go_cut [59] (fun v59 wc => ∃ (kq : Nat) (x59_5 : Bool), v59 = .bool x59_5 ∧ Aside0 (laws_FnKeptAsk.j0 kq t405 t406 t407 t408 t413 t421 x59_5 t416 t417 t418 t419 t420 = some r) ∧ Aside0 (kq ≤ k) ∧ Aside0 (Kd.Q k83 83 wc w.heap.size (fun k_ => some k_ ≠ (v414 : Value).ownBlock) (.slice Ao8 t405.length co8) t405) ∧ Aside0 (Kd.R k26 26 wc w.heap.size (fun k_ => k_ ≠ gb422 ∧ k_ ≠ gb432) (.slice Ao9 t406.length co9) t406) ∧ Aside0 (Kd.R k83 83 wc w.heap.size (fun k_ => some k_ ≠ ((.slice Ao8 t405.length co8) : Value).ownBlock) v414 t413) ∧ Aside0 (wc.heap[gb422]? = some (.cells #[.string t416, .int .i64 t417, .int .i64 t418, .string t419, .int .i64 t420] 26 (0, 0))) ∧ Aside0 (wc.heap[gb432]? = some (.cells #[.string t426, .int .i64 t427, .int .i64 t428, .string t429, .int .i64 t430] 26 (0, 0))) ∧ Aside0 (Below w.heap.size w wc))
  case first =>
   have H := HC6.out
   clear HC6
   by_cases c17 : (t421 != t431) = true
   ·rw [if_pos c17] at H
    have c17b0 : (t421 != t431) = true := c17
    (try (have c17b1 : decide (t421 = t431) = false := by simpa using c17))
    (try (have c17b2 : (t421 == t431) = false := by simpa using c17))
    (try (have c17b3 : ¬ (t421 = t431) := by simpa using c17))
    clear c17
    (first | rw [c17b0] | (simp only [i64_w, i32_w]; rw [c17b0]) | skip)
    have H' := Aside0.mk H
    clear H
    go_wp2
    go_meet
    case rel => exact ⟨_, (true), (z_3), H', ⟨z_23⟩, ⟨z_136⟩, ⟨z_137⟩, ⟨z_138⟩, ⟨z_139⟩, ⟨z_140⟩, ⟨z_141⟩⟩
   ·rw [if_neg c17] at H
    have c17b0 : (t421 != t431) = false := by simpa using c17
    (try (have c17b1 : decide (t421 = t431) = true := by simpa using c17))
    (try (have c17b2 : (t421 == t431) = true := by simpa using c17))
    clear c17
    (first | rw [c17b0] | (simp only [i64_w, i32_w]; rw [c17b0]) | skip)
    by_cases c18 : (!(t416.toList == t426.toList) || (!(t417 == t427) || (!(t418 == t428) || (!(t419.toList == t429.toList) || (!(t420 == t430)))))) = true
    ·rw [if_pos c18] at H
     have c18b0 : (!(t416.toList == t426.toList) || (!(t417 == t427) || (!(t418 == t428) || (!(t419.toList == t429.toList) || (!(t420 == t430)))))) = true := c18
     clear c18
     have H' := Aside0.mk H
     clear H
     have hnb19 := NB422_432.out
     have hnc19 := NB432_422.out
     have hcz20_0 : w14.cell? ⟨gb422, 0, none⟩ = some (.string t416) := (blk_cell BK422.out 0).trans rfl
     have hcz20_1 : w14.cell? ⟨gb422, 1, none⟩ = some (.int .i64 t417) := (blk_cell BK422.out 1).trans rfl
     have hcz20_2 : w14.cell? ⟨gb422, 2, none⟩ = some (.int .i64 t418) := (blk_cell BK422.out 2).trans rfl
     have hcz20_3 : w14.cell? ⟨gb422, 3, none⟩ = some (.string t419) := (blk_cell BK422.out 3).trans rfl
     have hcz20_4 : w14.cell? ⟨gb422, 4, none⟩ = some (.int .i64 t420) := (blk_cell BK422.out 4).trans rfl
     have hfz20_0 := blk_frozen BK422.out 0
     have hfz20_1 := blk_frozen BK422.out 1
     have hfz20_2 := blk_frozen BK422.out 2
     have hfz20_3 := blk_frozen BK422.out 3
     have hfz20_4 := blk_frozen BK422.out 4
     have hcz21_0 : w14.cell? ⟨gb432, 0, none⟩ = some (.string (⟨#[]⟩ : ByteArray)) := (blk_cell BK432.out 0).trans rfl
     have hcz21_1 : w14.cell? ⟨gb432, 1, none⟩ = some (.int .i64 0) := (blk_cell BK432.out 1).trans rfl
     have hcz21_2 : w14.cell? ⟨gb432, 2, none⟩ = some (.int .i64 0) := (blk_cell BK432.out 2).trans rfl
     have hcz21_3 : w14.cell? ⟨gb432, 3, none⟩ = some (.string (⟨#[]⟩ : ByteArray)) := (blk_cell BK432.out 3).trans rfl
     have hcz21_4 : w14.cell? ⟨gb432, 4, none⟩ = some (.int .i64 0) := (blk_cell BK432.out 4).trans rfl
     have hfz21_0 := blk_frozen BK432.out 0
     have hfz21_1 := blk_frozen BK432.out 1
     have hfz21_2 := blk_frozen BK432.out 2
     have hfz21_3 := blk_frozen BK432.out 3
     have hfz21_4 := blk_frozen BK432.out 4
     go_wp2
     go_meet
     case rel => exact ⟨_, (true), (z_3), H', ⟨z_23⟩, ⟨z_136⟩, ⟨z_137⟩, ⟨z_138⟩, ⟨z_139⟩, ⟨z_140⟩, ⟨z_141⟩⟩
    ·rw [if_neg c18] at H
     have c18b0 : (!(t416.toList == t426.toList) || (!(t417 == t427) || (!(t418 == t428) || (!(t419.toList == t429.toList) || (!(t420 == t430)))))) = false := by simpa using c18
     clear c18
     replace H := Option.bind_eq_some_iff.mp H
     obtain ⟨t433, A220, H⟩ := H
     have A22 := Aside0.mk A220
     clear A220
     have H' := Aside0.mk H
     clear H
     have hnb23 := NB422_432.out
     have hnc23 := NB432_422.out
     have hcz24_0 : w14.cell? ⟨gb422, 0, none⟩ = some (.string t416) := (blk_cell BK422.out 0).trans rfl
     have hcz24_1 : w14.cell? ⟨gb422, 1, none⟩ = some (.int .i64 t417) := (blk_cell BK422.out 1).trans rfl
     have hcz24_2 : w14.cell? ⟨gb422, 2, none⟩ = some (.int .i64 t418) := (blk_cell BK422.out 2).trans rfl
     have hcz24_3 : w14.cell? ⟨gb422, 3, none⟩ = some (.string t419) := (blk_cell BK422.out 3).trans rfl
     have hcz24_4 : w14.cell? ⟨gb422, 4, none⟩ = some (.int .i64 t420) := (blk_cell BK422.out 4).trans rfl
     have hfz24_0 := blk_frozen BK422.out 0
     have hfz24_1 := blk_frozen BK422.out 1
     have hfz24_2 := blk_frozen BK422.out 2
     have hfz24_3 := blk_frozen BK422.out 3
     have hfz24_4 := blk_frozen BK422.out 4
     have hcz25_0 : w14.cell? ⟨gb432, 0, none⟩ = some (.string (⟨#[]⟩ : ByteArray)) := (blk_cell BK432.out 0).trans rfl
     have hcz25_1 : w14.cell? ⟨gb432, 1, none⟩ = some (.int .i64 0) := (blk_cell BK432.out 1).trans rfl
     have hcz25_2 : w14.cell? ⟨gb432, 2, none⟩ = some (.int .i64 0) := (blk_cell BK432.out 2).trans rfl
     have hcz25_3 : w14.cell? ⟨gb432, 3, none⟩ = some (.string (⟨#[]⟩ : ByteArray)) := (blk_cell BK432.out 3).trans rfl
     have hcz25_4 : w14.cell? ⟨gb432, 4, none⟩ = some (.int .i64 0) := (blk_cell BK432.out 4).trans rfl
     have hfz25_0 := blk_frozen BK432.out 0
     have hfz25_1 := blk_frozen BK432.out 1
     have hfz25_2 := blk_frozen BK432.out 2
     have hfz25_3 := blk_frozen BK432.out 3
     have hfz25_4 := blk_frozen BK432.out 4
     obtain ⟨Ao26, co26, eo26⟩ := Kd.R_slice HO415.out
     subst eo26
     obtain ⟨Ao27, co27, eo27, _⟩ := Kd.Q_slice HO425.out
     subst eo27
     go_wp2_with (first | (go_at_call 46; (with_reducible refine (laws_sameKept.calls k _ _ t413 _ _ t423 t433 _ ?side1 ?side2 ?side3 ?side4 A22.out).mono ?_); (case side1 => refine (Kd.R_reads' (e := 83) (base := w.heap.size) (ok := fun k_ => ((True ∧ some k_ ≠ (.slice Ao8 t405.length co8 : Value).ownBlock) ∧ some k_ ≠ (.slice Ao27 t423.length co27 : Value).ownBlock)) (n := t413.length) (c := co26) ?_).2.2; exact (by (with_reducible repeat (first | apply Kd.R_alloc | apply Kd.R_drewN | apply Kd.R_drew)); exact (Kd.R_mono (Kd.R_far (p := ⟨gb432, 4, none⟩) (Kd.R_far (p := ⟨gb432, 3, none⟩) (Kd.R_far (p := ⟨gb432, 2, none⟩) (Kd.R_far (p := ⟨gb432, 1, none⟩) (Kd.R_far (p := ⟨gb432, 0, none⟩) (Kd.R_types HO415.out BK432.out (z_5)) (fun _ hk => hk.2) (.string t426)) (fun _ hk => hk.2) (.int .i64 t427)) (fun _ hk => hk.2) (.int .i64 t428)) (fun _ hk => hk.2) (.string t429)) (fun _ hk => hk.2) (.int .i64 t430)) (fun _ h_ => h_.1)))); (case side2 => exact (Kd.R_reads' HO415.out).2.1); (case side3 => refine (Kd.Q_reads' (e := 83) (base := w.heap.size) (ok := fun k_ => ((True ∧ some k_ ≠ (.slice Ao8 t405.length co8 : Value).ownBlock) ∧ some k_ ≠ (.slice Ao26 t413.length co26 : Value).ownBlock)) (n := t423.length) (c := co27) ?_).2.2; exact (by (with_reducible repeat (first | apply Kd.Q_alloc | apply Kd.Q_drewN | apply Kd.Q_drew)); exact (Kd.Q_mono (Kd.Q_far (p := ⟨gb432, 4, none⟩) (Kd.Q_far (p := ⟨gb432, 3, none⟩) (Kd.Q_far (p := ⟨gb432, 2, none⟩) (Kd.Q_far (p := ⟨gb432, 1, none⟩) (Kd.Q_far (p := ⟨gb432, 0, none⟩) (Kd.Q_types HO425.out BK432.out (z_5)) (fun _ hk => hk.2) (.string t426)) (fun _ hk => hk.2) (.int .i64 t427)) (fun _ hk => hk.2) (.int .i64 t428)) (fun _ hk => hk.2) (.string t429)) (fun _ hk => hk.2) (.int .i64 t430)) (fun _ h_ => h_.1)))); (case side4 => exact (Kd.Q_reads' HO425.out).2.1); rintro e w' ⟨rfl, ⟨nd, rfl⟩⟩))
     go_meet
     case rel => exact ⟨_, (!t433), (z_3), H', ⟨z_23⟩, ⟨z_136⟩, ⟨z_137⟩, ⟨z_138⟩, ⟨z_139⟩, ⟨z_140⟩, ⟨z_141⟩⟩
  case rest =>
   clear HC6
   try clear c1
   try clear c2
   try clear c2b0
   try clear c2b1
   try clear p2
   try clear c4
   try clear c14
   try clear c15
   try clear c17
   try clear c17b0
   try clear c17b1
   try clear c17b2
   try clear c18
   try clear c18b0
   try clear c19
   try clear c23
   try clear hcz12_0
   try clear hcz12_1
   try clear hcz12_2
   try clear hcz12_3
   try clear hcz12_4
   try clear hcz16_0
   try clear hcz16_1
   try clear hcz16_2
   try clear hcz16_3
   try clear hcz16_4
   try clear hcz20_0
   try clear hcz20_1
   try clear hcz20_2
   try clear hcz20_3
   try clear hcz20_4
   try clear hcz21_0
   try clear hcz21_1
   try clear hcz21_2
   try clear hcz21_3
   try clear hcz21_4
   try clear hcz24_0
   try clear hcz24_1
   try clear hcz24_2
   try clear hcz24_3
   try clear hcz24_4
   try clear hcz25_0
   try clear hcz25_1
   try clear hcz25_2
   try clear hcz25_3
   try clear hcz25_4
   try clear hfz12_0
   try clear hfz12_1
   try clear hfz12_2
   try clear hfz12_3
   try clear hfz12_4
   try clear hfz16_0
   try clear hfz16_1
   try clear hfz16_2
   try clear hfz16_3
   try clear hfz16_4
   try clear hfz20_0
   try clear hfz20_1
   try clear hfz20_2
   try clear hfz20_3
   try clear hfz20_4
   try clear hfz21_0
   try clear hfz21_1
   try clear hfz21_2
   try clear hfz21_3
   try clear hfz21_4
   try clear hfz24_0
   try clear hfz24_1
   try clear hfz24_2
   try clear hfz24_3
   try clear hfz24_4
   try clear hfz25_0
   try clear hfz25_1
   try clear hfz25_2
   try clear hfz25_3
   try clear hfz25_4
   obtain ⟨kq, x59_5, rfl, HA, HJ5, HO_3, HO_4, HO_7, BK422, BK432, HB⟩ := hcut
   cases kq with
   | zero => exact absurd HA.out (by simp [laws_FnKeptAsk.j0])
   | succ kj5 =>
    have H := HA.out
    clear HA
    simp only [laws_FnKeptAsk.j0] at H
    by_cases c28 : x59_5 = true
    ·subst c28
     rw [if_pos rfl] at H
     obtain rfl := Option.some.inj H
     go_wp2
     go_ret
     exact ⟨z_13, z_141⟩
    ·replace c28 := Bool.eq_false_iff.mpr c28
     subst c28
     rw [if_neg (show ¬ (false = true) by decide)] at H
     replace H := Option.bind_eq_some_iff.mp H
     obtain ⟨⟨t434, t435, t436, t437, t438, t439⟩, A290, H⟩ := H
     replace H : (if t439 = true then ((impl_KeptOk.f kj5 t405).bind fun t441 => (laws_FnKeptAsk.j1 kj5 t405 t406 t407 t408 t413 t421 (!t441) t416 t417 t418 t419 t420 t434 t435 t436 t437 t438)) else (laws_FnKeptAsk.j1 kj5 t405 t406 t407 t408 t413 t421 true t416 t417 t418 t419 t420 t434 t435 t436 t437 t438)) = some r := H
     have A29 := Aside0.mk A290
     clear A290
     have HC30 := Aside0.mk H
     clear H
     go_upto_region 9 with (first | ((with_reducible refine gate_callee (f := 31) rfl ?_); refine goesL_ (some 63) rfl rfl Try.func31 (z_0) rfl #[.slice Ao9 t406.length co9, .string t407] rfl (z_14) ?_; (with_reducible refine (impl_NameAsk.calls kj5 _ _ t406 t407 t434 t435 t436 t437 t438 t439 _ ?side1 ?side2 A29.out).mono ?_); (case side1 => exact z_142); (case side2 => exact z_143); rintro e w31 ⟨rfl, hb⟩; refine ⟨_, rfl, ?_⟩; have n0_ := Aside0.mk (Kd.Q_below (z_144) hb); have n1_ := Aside0.mk (Kd.R_below (z_145) hb); have n2_ := Aside0.mk (Kd.R_below (z_146) hb); have n3_ := Aside0.mk (blk_below (g := gb422) (o := .cells #[.string t416, .int .i64 t417, .int .i64 t418, .string t419, .int .i64 t420] 26 (0, 0)) (z_132) hb); have n4_ := Aside0.mk (blk_below (g := gb432) (o := .cells #[.string t426, .int .i64 t427, .int .i64 t428, .string t429, .int .i64 t430] 26 (0, 0)) (z_147) hb); have n5_ := Aside0.mk (below_step (z_141) hb); clear HO_3; clear HO_4; clear HO_7; clear BK422; clear BK432; clear HB; have HO_3 := n0_; have HO_4 := n1_; have HO_7 := n2_; have BK422 := n3_; have BK432 := n4_; have HB := n5_; clear n0_ n1_ n2_ n3_ n4_ n5_; (try clear hb); (try clear hb2); (try clear hk); (try clear hi)) | ((with_reducible refine gate_dst (N := 13) rfl ?_); refine box_event ?hg (N := 13) ?hd (cs := #[.string (⟨#[]⟩ : ByteArray), .int .i64 0, .int .i64 0, .string (⟨#[]⟩ : ByteArray), .int .i64 0]) (t := 26) ?hr ?_; (case hd => rfl); (case hg => rfl); (case hr => exact z_9); intro gb440 hg w32 hbox hb; have n0_ := Aside0.mk (Kd.Q_below (z_144) hb); have n1_ := Aside0.mk (Kd.R_below (Kd.R_elderB (z_145) gb440 (Nat.le_of_eq hg.symm)) hb); have n2_ := Aside0.mk (Kd.R_below (z_146) hb); have n3_ := Aside0.mk (blk_below (g := gb422) (o := .cells #[.string t416, .int .i64 t417, .int .i64 t418, .string t419, .int .i64 t420] 26 (0, 0)) (z_132) hb); have n4_ := Aside0.mk (blk_below (g := gb432) (o := .cells #[.string t426, .int .i64 t427, .int .i64 t428, .string t429, .int .i64 t430] 26 (0, 0)) (z_147) hb); have n5_ := Aside0.mk (below_step (z_141) hb); have n6_ := Aside0.mk (hbox); have n7_ := Aside0.mk ((z_148 : w.heap.size ≤ gb440)); have n8_ := Aside0.mk ((z_148 : w.heap.size ≤ gb440)); have n9_ := Aside0.mk ((z_134 : gb422 ≠ gb440)); have n10_ := Aside0.mk ((z_135 : gb440 ≠ gb422)); have n11_ := Aside0.mk ((z_149 : gb432 ≠ gb440)); have n12_ := Aside0.mk ((z_150 : gb440 ≠ gb432)); clear HO_3; clear HO_4; clear HO_7; clear BK422; clear BK432; clear HB; have HO_3 := n0_; have HO_4 := n1_; have HO_7 := n2_; have BK422 := n3_; have BK432 := n4_; have HB := n5_; have BK440 := n6_; have GW440 := n7_; have GE440 := n8_; have NB422_440 := n9_; have NB440_422 := n10_; have NB432_440 := n11_; have NB440_432 := n12_; clear n0_ n1_ n2_ n3_ n4_ n5_ n6_ n7_ n8_ n9_ n10_ n11_ n12_; clear hb hbox hg; have hnb33 := NB440_422.out; have hnc33 := NB422_440.out; have hnb34 := NB440_432.out; have hnc34 := NB432_440.out; have hcz35_0 : w32.cell? ⟨gb440, 0, none⟩ = some (.string (⟨#[]⟩ : ByteArray)) := (blk_cell BK440.out 0).trans rfl; have hcz35_1 : w32.cell? ⟨gb440, 1, none⟩ = some (.int .i64 0) := (blk_cell BK440.out 1).trans rfl; have hcz35_2 : w32.cell? ⟨gb440, 2, none⟩ = some (.int .i64 0) := (blk_cell BK440.out 2).trans rfl; have hcz35_3 : w32.cell? ⟨gb440, 3, none⟩ = some (.string (⟨#[]⟩ : ByteArray)) := (blk_cell BK440.out 3).trans rfl; have hcz35_4 : w32.cell? ⟨gb440, 4, none⟩ = some (.int .i64 0) := (blk_cell BK440.out 4).trans rfl; have hfz35_0 := blk_frozen BK440.out 0; have hfz35_1 := blk_frozen BK440.out 1; have hfz35_2 := blk_frozen BK440.out 2; have hfz35_3 := blk_frozen BK440.out 3; have hfz35_4 := blk_frozen BK440.out 4))
     (try simp only [Act.put, List.setIfInBounds_toArray, List.set_cons_zero, List.set_cons_succ])
     go_cut [72] (fun v72 wc => ∃ (kq : Nat) (x72_29 : Bool), v72 = .bool x72_29 ∧ Aside0 (laws_FnKeptAsk.j1 kq t405 t406 t407 t408 t413 t421 x72_29 t416 t417 t418 t419 t420 t434 t435 t436 t437 t438 = some r) ∧ Aside0 (kq ≤ kj5) ∧ Aside0 (Kd.Q k83 83 wc w.heap.size (fun k_ => some k_ ≠ (v414 : Value).ownBlock) (.slice Ao8 t405.length co8) t405) ∧ Aside0 (Kd.R k26 26 wc w.heap.size (fun k_ => k_ ≠ gb422 ∧ k_ ≠ gb432 ∧ k_ ≠ gb440) (.slice Ao9 t406.length co9) t406) ∧ Aside0 (Kd.R k83 83 wc w.heap.size (fun k_ => some k_ ≠ ((.slice Ao8 t405.length co8) : Value).ownBlock) v414 t413) ∧ Aside0 (wc.heap[gb422]? = some (.cells #[.string t416, .int .i64 t417, .int .i64 t418, .string t419, .int .i64 t420] 26 (0, 0))) ∧ Aside0 (wc.heap[gb432]? = some (.cells #[.string t426, .int .i64 t427, .int .i64 t428, .string t429, .int .i64 t430] 26 (0, 0))) ∧ Aside0 (wc.heap[gb440]? = some (.cells #[.string t434, .int .i64 t435, .int .i64 t436, .string t437, .int .i64 t438] 26 (0, 0))) ∧ Aside0 (Below w.heap.size w wc))
     case first =>
      have H := HC30.out
      clear HC30
      by_cases c36 : t439 = true
      ·subst c36
       rw [if_pos rfl] at H
       replace H := Option.bind_eq_some_iff.mp H
       obtain ⟨t441, A370, H⟩ := H
       have A37 := Aside0.mk A370
       clear A370
       have H' := Aside0.mk H
       clear H
       go_wp2_with (first | (go_at_call 36; (with_reducible refine (impl_KeptOk.calls kj5 _ _ t405 t441 _ ?side1 ?side2 A37.out).mono ?_); (case side1 => refine (Kd.Q_reads' (e := 83) (base := w.heap.size) (ok := fun k_ => some k_ ≠ (v414 : Value).ownBlock) (n := t405.length) (c := co8) ?_).2.2; exact (z_151)); (case side2 => exact (Kd.Q_reads' HO_3.out).2.1); rintro e w38 ⟨rfl, hb⟩; have n0_ := Aside0.mk (Kd.Q_below (z_151) hb); have n1_ := Aside0.mk (Kd.R_below (by (with_reducible repeat (first | apply Kd.R_alloc | apply Kd.R_drewN | apply Kd.R_drew)); exact (Kd.R_mono (Kd.R_far (p := ⟨gb440, 4, none⟩) (Kd.R_far (p := ⟨gb440, 3, none⟩) (Kd.R_far (p := ⟨gb440, 2, none⟩) (Kd.R_far (p := ⟨gb440, 1, none⟩) (Kd.R_far (p := ⟨gb440, 0, none⟩) (Kd.R_mono HO_4.out (fun k_ hk => (⟨hk, hk.2⟩ : _ ∧ k_ ≠ gb440))) (fun _ hk => hk.2) (.string t434)) (fun _ hk => hk.2) (.int .i64 t435)) (fun _ hk => hk.2) (.int .i64 t436)) (fun _ hk => hk.2) (.string t437)) (fun _ hk => hk.2) (.int .i64 t438)) (fun _ h_ => h_.1))) hb); have n2_ := Aside0.mk (Kd.R_below (by (with_reducible repeat (first | apply Kd.R_alloc | apply Kd.R_drewN | apply Kd.R_drew)); exact (Kd.R_mono (Kd.R_far (p := ⟨gb440, 4, none⟩) (Kd.R_far (p := ⟨gb440, 3, none⟩) (Kd.R_far (p := ⟨gb440, 2, none⟩) (Kd.R_far (p := ⟨gb440, 1, none⟩) (Kd.R_far (p := ⟨gb440, 0, none⟩) (Kd.R_types HO_7.out BK440.out (z_5)) (fun _ hk => hk.2) (.string t434)) (fun _ hk => hk.2) (.int .i64 t435)) (fun _ hk => hk.2) (.int .i64 t436)) (fun _ hk => hk.2) (.string t437)) (fun _ hk => hk.2) (.int .i64 t438)) (fun _ h_ => h_.1))) hb); have n3_ := Aside0.mk (blk_below (g := gb422) (o := .cells #[.string t416, .int .i64 t417, .int .i64 t418, .string t419, .int .i64 t420] 26 (0, 0)) (z_152) hb); have n4_ := Aside0.mk (blk_below (g := gb432) (o := .cells #[.string t426, .int .i64 t427, .int .i64 t428, .string t429, .int .i64 t430] 26 (0, 0)) (z_153) hb); have n5_ := Aside0.mk (blk_below (g := gb440) (o := .cells #[.string t434, .int .i64 t435, .int .i64 t436, .string t437, .int .i64 t438] 26 (0, 0)) (z_154) hb); have n6_ := Aside0.mk (below_step (z_155) hb); clear HO_3; clear HO_4; clear HO_7; clear BK422; clear BK432; clear BK440; clear HB; have HO_3 := n0_; have HO_4 := n1_; have HO_7 := n2_; have BK422 := n3_; have BK432 := n4_; have BK440 := n5_; have HB := n6_; clear n0_ n1_ n2_ n3_ n4_ n5_ n6_; (try clear hb); (try clear hb2); (try clear hk); (try clear hi)))
       go_meet
       case rel => exact ⟨_, (!t441), (z_3), H', ⟨by have := HJ5.out; first | omega | exact Nat.le_refl _⟩, ⟨z_144⟩, ⟨by (with_reducible repeat (first | apply Kd.R_alloc | apply Kd.R_drewN | apply Kd.R_drew)); exact Kd.R_mono HO_4.out (fun _ hk => ⟨hk.1.1, ⟨hk.1.2, hk.2⟩⟩)⟩, ⟨z_146⟩, ⟨z_132⟩, ⟨z_147⟩, ⟨z_156⟩, ⟨z_155⟩⟩
      ·replace c36 := Bool.eq_false_iff.mpr c36
       subst c36
       rw [if_neg (show ¬ (false = true) by decide)] at H
       have H' := Aside0.mk H
       clear H
       go_wp2
       go_meet
       case rel => exact ⟨_, (true), (z_3), H', ⟨by have := HJ5.out; first | omega | exact Nat.le_refl _⟩, ⟨by (with_reducible repeat (first | apply Kd.Q_alloc | apply Kd.Q_drewN | apply Kd.Q_drew)); exact Kd.Q_mono (Kd.Q_far (p := ⟨gb440, 4, none⟩) (Kd.Q_far (p := ⟨gb440, 3, none⟩) (Kd.Q_far (p := ⟨gb440, 2, none⟩) (Kd.Q_far (p := ⟨gb440, 1, none⟩) (Kd.Q_far (p := ⟨gb440, 0, none⟩) (Kd.Q_types HO_3.out BK440.out (z_5)) (fun _ hk => hk.2) (.string t434)) (fun _ hk => hk.2) (.int .i64 t435)) (fun _ hk => hk.2) (.int .i64 t436)) (fun _ hk => hk.2) (.string t437)) (fun _ hk => hk.2) (.int .i64 t438)) (fun _ hk => hk.1)⟩, ⟨by (with_reducible repeat (first | apply Kd.R_alloc | apply Kd.R_drewN | apply Kd.R_drew)); exact Kd.R_mono (Kd.R_far (p := ⟨gb440, 4, none⟩) (Kd.R_far (p := ⟨gb440, 3, none⟩) (Kd.R_far (p := ⟨gb440, 2, none⟩) (Kd.R_far (p := ⟨gb440, 1, none⟩) (Kd.R_far (p := ⟨gb440, 0, none⟩) (Kd.R_mono HO_4.out (fun k_ hk => (⟨hk, hk.2⟩ : _ ∧ k_ ≠ gb440))) (fun _ hk => hk.2) (.string t434)) (fun _ hk => hk.2) (.int .i64 t435)) (fun _ hk => hk.2) (.int .i64 t436)) (fun _ hk => hk.2) (.string t437)) (fun _ hk => hk.2) (.int .i64 t438)) (fun _ hk => ⟨hk.1.1.1, ⟨hk.1.1.2, hk.1.2⟩⟩)⟩, ⟨by (with_reducible repeat (first | apply Kd.R_alloc | apply Kd.R_drewN | apply Kd.R_drew)); exact Kd.R_mono (Kd.R_far (p := ⟨gb440, 4, none⟩) (Kd.R_far (p := ⟨gb440, 3, none⟩) (Kd.R_far (p := ⟨gb440, 2, none⟩) (Kd.R_far (p := ⟨gb440, 1, none⟩) (Kd.R_far (p := ⟨gb440, 0, none⟩) (Kd.R_types HO_7.out BK440.out (z_5)) (fun _ hk => hk.2) (.string t434)) (fun _ hk => hk.2) (.int .i64 t435)) (fun _ hk => hk.2) (.int .i64 t436)) (fun _ hk => hk.2) (.string t437)) (fun _ hk => hk.2) (.int .i64 t438)) (fun _ hk => hk.1)⟩, ⟨z_152⟩, ⟨z_153⟩, ⟨z_154⟩, ⟨z_155⟩⟩
     case rest =>
      clear HC30
      try clear c1
      try clear c2
      try clear c2b0
      try clear c2b1
      try clear p2
      try clear c3
      try clear c4
      try clear c14
      try clear c15
      try clear c17
      try clear c17b0
      try clear c17b1
      try clear c17b2
      try clear c18
      try clear c18b0
      try clear c19
      try clear c23
      try clear c28
      try clear c31
      try clear c33
      try clear c34
      try clear c36
      try clear hcz12_0
      try clear hcz12_1
      try clear hcz12_2
      try clear hcz12_3
      try clear hcz12_4
      try clear hcz16_0
      try clear hcz16_1
      try clear hcz16_2
      try clear hcz16_3
      try clear hcz16_4
      try clear hcz20_0
      try clear hcz20_1
      try clear hcz20_2
      try clear hcz20_3
      try clear hcz20_4
      try clear hcz21_0
      try clear hcz21_1
      try clear hcz21_2
      try clear hcz21_3
      try clear hcz21_4
      try clear hcz24_0
      try clear hcz24_1
      try clear hcz24_2
      try clear hcz24_3
      try clear hcz24_4
      try clear hcz25_0
      try clear hcz25_1
      try clear hcz25_2
      try clear hcz25_3
      try clear hcz25_4
      try clear hcz35_0
      try clear hcz35_1
      try clear hcz35_2
      try clear hcz35_3
      try clear hcz35_4
      try clear hfz12_0
      try clear hfz12_1
      try clear hfz12_2
      try clear hfz12_3
      try clear hfz12_4
      try clear hfz16_0
      try clear hfz16_1
      try clear hfz16_2
      try clear hfz16_3
      try clear hfz16_4
      try clear hfz20_0
      try clear hfz20_1
      try clear hfz20_2
      try clear hfz20_3
      try clear hfz20_4
      try clear hfz21_0
      try clear hfz21_1
      try clear hfz21_2
      try clear hfz21_3
      try clear hfz21_4
      try clear hfz24_0
      try clear hfz24_1
      try clear hfz24_2
      try clear hfz24_3
      try clear hfz24_4
      try clear hfz25_0
      try clear hfz25_1
      try clear hfz25_2
      try clear hfz25_3
      try clear hfz25_4
      try clear hfz35_0
      try clear hfz35_1
      try clear hfz35_2
      try clear hfz35_3
      try clear hfz35_4
      try clear p2
      obtain ⟨kq, x72_29, rfl, HA, HJ29, HO_3, HO_4, HO_7, BK422, BK432, BK440, HB⟩ := hcut
      cases kq with
      | zero => exact absurd HA.out (by simp [laws_FnKeptAsk.j1])
      | succ kj29 =>
       have H := HA.out
       clear HA
       simp only [laws_FnKeptAsk.j1] at H
       by_cases c39 : x72_29 = true
       ·subst c39
        rw [if_pos rfl] at H
        by_cases c40 : (t413.length : Int) = 0
        ·rw [if_pos c40] at H
         have c40b0 : ((t413.length : Int) == 0) = true := beq_iff_eq.mpr c40
         have c40b1 : ((t413.length : Int) != 0) = false := bne_eq_false_iff_eq.mpr c40
         clear c40
         by_cases c41 : t421 = true
         ·subst c41
          rw [if_pos rfl] at H
          obtain rfl := Option.some.inj H
          obtain ⟨Ao42, co42, eo42⟩ := Kd.R_slice HO_7.out
          subst eo42
          go_wp2
          go_ret
          exact ⟨z_13, z_155⟩
         ·replace c41 := Bool.eq_false_iff.mpr c41
          subst c41
          rw [if_neg (show ¬ (false = true) by decide)] at H
          replace H := Option.bind_eq_some_iff.mp H
          obtain ⟨t442, A430, H⟩ := H
          have A43 := Aside0.mk A430
          clear A430
          obtain rfl := Option.some.inj H
          obtain ⟨Ao44, co44, eo44⟩ := Kd.R_slice HO_7.out
          subst eo44
          go_wp2_with (first | (go_at_call 23; (with_reducible refine (laws_alive.calls kj29  t442 _ A43.out).mono ?_); rintro e w45 ⟨rfl, hb⟩; have n0_ := Aside0.mk (Kd.Q_below (z_144) hb); have n1_ := Aside0.mk (Kd.R_below (z_145) hb); have n2_ := Aside0.mk (Kd.R_below (z_146) hb); have n3_ := Aside0.mk (blk_below (g := gb422) (o := .cells #[.string t416, .int .i64 t417, .int .i64 t418, .string t419, .int .i64 t420] 26 (0, 0)) (z_132) hb); have n4_ := Aside0.mk (blk_below (g := gb432) (o := .cells #[.string t426, .int .i64 t427, .int .i64 t428, .string t429, .int .i64 t430] 26 (0, 0)) (z_147) hb); have n5_ := Aside0.mk (blk_below (g := gb440) (o := .cells #[.string t434, .int .i64 t435, .int .i64 t436, .string t437, .int .i64 t438] 26 (0, 0)) (z_156) hb); have n6_ := Aside0.mk (below_step (z_155) hb); clear HO_3; clear HO_4; clear HO_7; clear BK422; clear BK432; clear BK440; clear HB; have HO_3 := n0_; have HO_4 := n1_; have HO_7 := n2_; have BK422 := n3_; have BK432 := n4_; have BK440 := n5_; have HB := n6_; clear n0_ n1_ n2_ n3_ n4_ n5_ n6_; (try clear hb); (try clear hb2); (try clear hk); (try clear hi)))
          go_ret
          exact ⟨z_13, z_155⟩
        ·rw [if_neg c40] at H
         have c40b0 : ((t413.length : Int) == 0) = false := beq_eq_false_iff_ne.mpr c40
         have c40b1 : ((t413.length : Int) != 0) = true := bne_iff_ne.mpr c40
         have c40b2 : ¬ (t413 = []) := fun h_ => c40 (by rw [h_]; rfl)
         obtain rfl := Option.some.inj H
         obtain ⟨Ao46, co46, eo46⟩ := Kd.R_slice HO_7.out
         subst eo46
         go_wp2
         go_ret
         exact ⟨z_13, z_155⟩
       ·replace c39 := Bool.eq_false_iff.mpr c39
        subst c39
        rw [if_neg (show ¬ (false = true) by decide)] at H
        replace H := Option.bind_eq_some_iff.mp H
        obtain ⟨⟨t443, t446, t447, t448, t449, t450, t451⟩, A470, H⟩ := H
        replace H : ((impl_KeptOk.f kj29 t413).bind fun t453 => (if t453 = true then (if t451 = true then (if (t446.toList == t416.toList && (t447 == t417 && (t448 == t418 && (t449.toList == t419.toList && (t450 == t420))))) = true then ((laws_sameKept.f kj29 t443 t413).bind fun t454 => (if t454 = true then (if t421 = true then ((laws_sameKept.f kj29 t413 t405).bind fun t455 => (if t455 = true then ((laws_alive.f kj29).bind fun t456 => (some t456)) else (some false))) else (if (t416.toList == t434.toList && (t417 == t435 && (t418 == t436 && (t419.toList == t437.toList && (t420 == t438))))) = true then ((laws_alive.f kj29).bind fun t457 => (some t457)) else (some false))) else (some false))) else (some false)) else (some false)) else (some false))) = some r := H
        have A47 := Aside0.mk A470
        clear A470
        replace H := Option.bind_eq_some_iff.mp H
        obtain ⟨t453, A480, H⟩ := H
        have A48 := Aside0.mk A480
        clear A480
        by_cases c49 : t453 = true
        ·subst c49
         rw [if_pos rfl] at H
         by_cases c50 : t451 = true
         ·subst c50
          rw [if_pos rfl] at H
          by_cases c51 : (t446.toList == t416.toList && (t447 == t417 && (t448 == t418 && (t449.toList == t419.toList && (t450 == t420))))) = true
          ·rw [if_pos c51] at H
           have c51b0 : (t446.toList == t416.toList && (t447 == t417 && (t448 == t418 && (t449.toList == t419.toList && (t450 == t420))))) = true := c51
           (try (have c51b1 : decide (t446.toList = t416.toList && (t447 == t417 && (t448 == t418 && (t449.toList == t419.toList && (t450 == t420))))) = true := by simpa using c51))
           (try (have c51b2 : (t446.toList == t416.toList && (t447 == t417 && (t448 == t418 && (t449.toList == t419.toList && (t450 == t420))))) = true := by simpa using c51))
           clear c51
           replace H := Option.bind_eq_some_iff.mp H
           obtain ⟨t454, A520, H⟩ := H
           have A52 := Aside0.mk A520
           clear A520
           by_cases c53 : t454 = true
           ·subst c53
            rw [if_pos rfl] at H
            by_cases c54 : t421 = true
            ·subst c54
             rw [if_pos rfl] at H
             replace H := Option.bind_eq_some_iff.mp H
             obtain ⟨t455, A550, H⟩ := H
             have A55 := Aside0.mk A550
             clear A550
             by_cases c56 : t455 = true
             ·subst c56
              rw [if_pos rfl] at H
              replace H := Option.bind_eq_some_iff.mp H
              obtain ⟨t456, A570, H⟩ := H
              have A57 := Aside0.mk A570
              clear A570
              obtain rfl := Option.some.inj H
              obtain ⟨Ao58, co58, eo58⟩ := Kd.R_slice HO_7.out
              subst eo58
              go_wp2_with (first | ((with_reducible refine gate_callee (f := 44) rfl ?_); refine goesL_ (some 88) rfl rfl Try.func44 (z_0) rfl #[.slice Ao58 t413.length co58, .slice Ao9 t406.length co9, .string t407, .int .i64 t408] rfl (z_14) ?_; (with_reducible refine (impl_KeptAsk.calls kj29 _ _ t413 _ _ t406 t407 t408 t443 t446 t447 t448 t449 t450 true _ ?side1 ?side2 ?side3 ?side4 A47.out).mono ?_); (case side1 => exact z_157); (case side2 => exact z_158); (case side3 => exact z_142); (case side4 => exact z_143); rintro e w59 ⟨v444, rfl, ho0, hb⟩; refine ⟨_, rfl, ?_⟩; have n0_ := Aside0.mk (Kd.Q_elder' (z_144) (Kd.R_base ho0) hb); have n1_ := Aside0.mk (Kd.R_below (z_145) hb); have n2_ := Aside0.mk (Kd.R_elder' (z_146) (Kd.R_base ho0) hb); have n3_ := Aside0.mk (Kd.R_lower (Kd.R_new' (Kd.R_new' ho0 (Kd.Q_lt (z_144))) (Kd.R_lt (z_146))) (below_size (z_155))); have n4_ := Aside0.mk (blk_below (g := gb422) (o := .cells #[.string t416, .int .i64 t417, .int .i64 t418, .string t419, .int .i64 t420] 26 (0, 0)) (z_132) hb); have n5_ := Aside0.mk (blk_below (g := gb432) (o := .cells #[.string t426, .int .i64 t427, .int .i64 t428, .string t429, .int .i64 t430] 26 (0, 0)) (z_147) hb); have n6_ := Aside0.mk (blk_below (g := gb440) (o := .cells #[.string t434, .int .i64 t435, .int .i64 t436, .string t437, .int .i64 t438] 26 (0, 0)) (z_156) hb); have n7_ := Aside0.mk (below_step (z_155) hb); clear HO_3; clear HO_4; clear HO_7; clear BK422; clear BK432; clear BK440; clear HB; have HO_3 := n0_; have HO_4 := n1_; have HO_7 := n2_; have HO445 := n3_; have BK422 := n4_; have BK432 := n5_; have BK440 := n6_; have HB := n7_; clear n0_ n1_ n2_ n3_ n4_ n5_ n6_ n7_; (try clear hb); (try clear hb2); (try clear hk); (try clear hi); (try clear ho0)) | ((with_reducible refine gate_dst (N := 16) rfl ?_); refine box_event ?hg (N := 16) ?hd (cs := #[.string (⟨#[]⟩ : ByteArray), .int .i64 0, .int .i64 0, .string (⟨#[]⟩ : ByteArray), .int .i64 0]) (t := 26) ?hr ?_; (case hd => rfl); (case hg => rfl); (case hr => exact z_9); intro gb452 hg w60 hbox hb; have n0_ := Aside0.mk (Kd.Q_below (z_144) hb); have n1_ := Aside0.mk (Kd.R_below (Kd.R_elderB (z_145) gb452 (Nat.le_of_eq hg.symm)) hb); have n2_ := Aside0.mk (Kd.R_below (z_146) hb); have n3_ := Aside0.mk (Kd.R_below (z_159) hb); have n4_ := Aside0.mk (blk_below (g := gb422) (o := .cells #[.string t416, .int .i64 t417, .int .i64 t418, .string t419, .int .i64 t420] 26 (0, 0)) (z_132) hb); have n5_ := Aside0.mk (blk_below (g := gb432) (o := .cells #[.string t426, .int .i64 t427, .int .i64 t428, .string t429, .int .i64 t430] 26 (0, 0)) (z_147) hb); have n6_ := Aside0.mk (blk_below (g := gb440) (o := .cells #[.string t434, .int .i64 t435, .int .i64 t436, .string t437, .int .i64 t438] 26 (0, 0)) (z_156) hb); have n7_ := Aside0.mk (below_step (z_155) hb); have n8_ := Aside0.mk (hbox); have n9_ := Aside0.mk ((z_160 : w.heap.size ≤ gb452)); have n10_ := Aside0.mk ((z_160 : w.heap.size ≤ gb452)); have n11_ := Aside0.mk ((z_134 : gb422 ≠ gb452)); have n12_ := Aside0.mk ((z_135 : gb452 ≠ gb422)); have n13_ := Aside0.mk ((z_149 : gb432 ≠ gb452)); have n14_ := Aside0.mk ((z_150 : gb452 ≠ gb432)); have n15_ := Aside0.mk ((z_161 : gb440 ≠ gb452)); have n16_ := Aside0.mk ((z_162 : gb452 ≠ gb440)); clear HO_3; clear HO_4; clear HO_7; clear HO445; clear BK422; clear BK432; clear BK440; clear HB; have HO_3 := n0_; have HO_4 := n1_; have HO_7 := n2_; have HO445 := n3_; have BK422 := n4_; have BK432 := n5_; have BK440 := n6_; have HB := n7_; have BK452 := n8_; have GW452 := n9_; have GE452 := n10_; have NB422_452 := n11_; have NB452_422 := n12_; have NB432_452 := n13_; have NB452_432 := n14_; have NB440_452 := n15_; have NB452_440 := n16_; clear n0_ n1_ n2_ n3_ n4_ n5_ n6_ n7_ n8_ n9_ n10_ n11_ n12_ n13_ n14_ n15_ n16_; clear hb hbox hg; have hnb61 := NB452_422.out; have hnc61 := NB422_452.out; have hnb62 := NB452_432.out; have hnc62 := NB432_452.out; have hnb63 := NB452_440.out; have hnc63 := NB440_452.out; have hcz64_0 : w60.cell? ⟨gb452, 0, none⟩ = some (.string (⟨#[]⟩ : ByteArray)) := (blk_cell BK452.out 0).trans rfl; have hcz64_1 : w60.cell? ⟨gb452, 1, none⟩ = some (.int .i64 0) := (blk_cell BK452.out 1).trans rfl; have hcz64_2 : w60.cell? ⟨gb452, 2, none⟩ = some (.int .i64 0) := (blk_cell BK452.out 2).trans rfl; have hcz64_3 : w60.cell? ⟨gb452, 3, none⟩ = some (.string (⟨#[]⟩ : ByteArray)) := (blk_cell BK452.out 3).trans rfl; have hcz64_4 : w60.cell? ⟨gb452, 4, none⟩ = some (.int .i64 0) := (blk_cell BK452.out 4).trans rfl; have hfz64_0 := blk_frozen BK452.out 0; have hfz64_1 := blk_frozen BK452.out 1; have hfz64_2 := blk_frozen BK452.out 2; have hfz64_3 := blk_frozen BK452.out 3; have hfz64_4 := blk_frozen BK452.out 4) | ((with_reducible refine gate_callee (f := 36) rfl ?_); refine goesL_ (some 93) rfl rfl Try.func36 (z_0) rfl #[.slice Ao58 t413.length co58] rfl (z_14) ?_; (with_reducible refine (impl_KeptOk.calls kj29 _ _ t413 true _ ?side1 ?side2 A48.out).mono ?_); (case side1 => refine (Kd.R_reads' (e := 83) (base := w.heap.size) (ok := fun k_ => (some k_ ≠ (.slice Ao8 t405.length co8 : Value).ownBlock ∧ some k_ ≠ (v444 : Value).ownBlock)) (n := t413.length) (c := co58) ?_).2.2; exact (z_163)); (case side2 => exact z_158); rintro e w65 ⟨rfl, hb⟩; refine ⟨_, rfl, ?_⟩; have n0_ := Aside0.mk (Kd.Q_below (z_164) hb); have n1_ := Aside0.mk (Kd.R_below (z_165) hb); have n2_ := Aside0.mk (Kd.R_below (z_163) hb); have n3_ := Aside0.mk (Kd.R_below (z_166) hb); have n4_ := Aside0.mk (blk_below (g := gb422) (o := .cells #[.string t416, .int .i64 t417, .int .i64 t418, .string t419, .int .i64 t420] 26 (0, 0)) (z_167) hb); have n5_ := Aside0.mk (blk_below (g := gb432) (o := .cells #[.string t426, .int .i64 t427, .int .i64 t428, .string t429, .int .i64 t430] 26 (0, 0)) (z_168) hb); have n6_ := Aside0.mk (blk_below (g := gb440) (o := .cells #[.string t434, .int .i64 t435, .int .i64 t436, .string t437, .int .i64 t438] 26 (0, 0)) (z_169) hb); have n7_ := Aside0.mk (blk_below (g := gb452) (o := .cells #[.string t446, .int .i64 t447, .int .i64 t448, .string t449, .int .i64 t450] 26 (0, 0)) (z_170) hb); have n8_ := Aside0.mk (below_step (z_171) hb); clear HO_3; clear HO_4; clear HO_7; clear HO445; clear BK422; clear BK432; clear BK440; clear BK452; clear HB; have HO_3 := n0_; have HO_4 := n1_; have HO_7 := n2_; have HO445 := n3_; have BK422 := n4_; have BK432 := n5_; have BK440 := n6_; have BK452 := n7_; have HB := n8_; clear n0_ n1_ n2_ n3_ n4_ n5_ n6_ n7_ n8_; (try clear hb); (try clear hb2); (try clear hk); (try clear hi); have hcz66_0 : w65.cell? ⟨gb452, 0, none⟩ = some (.string t446) := (blk_cell BK452.out 0).trans rfl; have hcz66_1 : w65.cell? ⟨gb452, 1, none⟩ = some (.int .i64 t447) := (blk_cell BK452.out 1).trans rfl; have hcz66_2 : w65.cell? ⟨gb452, 2, none⟩ = some (.int .i64 t448) := (blk_cell BK452.out 2).trans rfl; have hcz66_3 : w65.cell? ⟨gb452, 3, none⟩ = some (.string t449) := (blk_cell BK452.out 3).trans rfl; have hcz66_4 : w65.cell? ⟨gb452, 4, none⟩ = some (.int .i64 t450) := (blk_cell BK452.out 4).trans rfl; have hfz66_0 := blk_frozen BK452.out 0; have hfz66_1 := blk_frozen BK452.out 1; have hfz66_2 := blk_frozen BK452.out 2; have hfz66_3 := blk_frozen BK452.out 3; have hfz66_4 := blk_frozen BK452.out 4; have hnb67 := NB422_432.out; have hnc67 := NB432_422.out; have hnb68 := NB422_440.out; have hnc68 := NB440_422.out; have hcz69_0 : w65.cell? ⟨gb422, 0, none⟩ = some (.string t416) := (blk_cell BK422.out 0).trans rfl; have hcz69_1 : w65.cell? ⟨gb422, 1, none⟩ = some (.int .i64 t417) := (blk_cell BK422.out 1).trans rfl; have hcz69_2 : w65.cell? ⟨gb422, 2, none⟩ = some (.int .i64 t418) := (blk_cell BK422.out 2).trans rfl; have hcz69_3 : w65.cell? ⟨gb422, 3, none⟩ = some (.string t419) := (blk_cell BK422.out 3).trans rfl; have hcz69_4 : w65.cell? ⟨gb422, 4, none⟩ = some (.int .i64 t420) := (blk_cell BK422.out 4).trans rfl; have hfz69_0 := blk_frozen BK422.out 0; have hfz69_1 := blk_frozen BK422.out 1; have hfz69_2 := blk_frozen BK422.out 2; have hfz69_3 := blk_frozen BK422.out 3; have hfz69_4 := blk_frozen BK422.out 4; obtain ⟨Ao70, co70, eo70⟩ := Kd.R_slice HO445.out; subst eo70) | (go_at_call 46; (with_reducible refine (laws_sameKept.calls kj29 _ _ t443 _ _ t413 true _ ?side1 ?side2 ?side3 ?side4 A52.out).mono ?_); (case side1 => exact z_172); (case side2 => exact z_173); (case side3 => exact z_157); (case side4 => exact z_158); rintro e w' ⟨rfl, ⟨nd, rfl⟩⟩) | (go_at_call 46; (with_reducible refine (laws_sameKept.calls kj29 _ _ t413 _ _ t405 true _ ?side1 ?side2 ?side3 ?side4 A55.out).mono ?_); (case side1 => exact z_157); (case side2 => exact z_158); (case side3 => exact z_174); (case side4 => exact (Kd.Q_reads' HO_3.out).2.1); rintro e w' ⟨rfl, ⟨nd, rfl⟩⟩) | (go_at_call 23; (with_reducible refine (laws_alive.calls kj29  t456 _ A57.out).mono ?_); rintro e w71 ⟨rfl, hb⟩; have n0_ := Aside0.mk (Kd.Q_below (z_144) hb); have n1_ := Aside0.mk (Kd.R_below (z_145) hb); have n2_ := Aside0.mk (Kd.R_below (z_146) hb); have n3_ := Aside0.mk (Kd.R_below (z_159) hb); have n4_ := Aside0.mk (blk_below (g := gb422) (o := .cells #[.string t416, .int .i64 t417, .int .i64 t418, .string t419, .int .i64 t420] 26 (0, 0)) (z_132) hb); have n5_ := Aside0.mk (blk_below (g := gb432) (o := .cells #[.string t426, .int .i64 t427, .int .i64 t428, .string t429, .int .i64 t430] 26 (0, 0)) (z_147) hb); have n6_ := Aside0.mk (blk_below (g := gb440) (o := .cells #[.string t434, .int .i64 t435, .int .i64 t436, .string t437, .int .i64 t438] 26 (0, 0)) (z_156) hb); have n7_ := Aside0.mk (blk_below (g := gb452) (o := .cells #[.string t446, .int .i64 t447, .int .i64 t448, .string t449, .int .i64 t450] 26 (0, 0)) (z_175) hb); have n8_ := Aside0.mk (below_step (z_171) hb); clear HO_3; clear HO_4; clear HO_7; clear HO445; clear BK422; clear BK432; clear BK440; clear BK452; clear HB; have HO_3 := n0_; have HO_4 := n1_; have HO_7 := n2_; have HO445 := n3_; have BK422 := n4_; have BK432 := n5_; have BK440 := n6_; have BK452 := n7_; have HB := n8_; clear n0_ n1_ n2_ n3_ n4_ n5_ n6_ n7_ n8_; (try clear hb); (try clear hb2); (try clear hk); (try clear hi)))
              go_ret
              exact ⟨z_13, z_171⟩
             ·replace c56 := Bool.eq_false_iff.mpr c56
              subst c56
              rw [if_neg (show ¬ (false = true) by decide)] at H
              obtain rfl := Option.some.inj H
              obtain ⟨Ao72, co72, eo72⟩ := Kd.R_slice HO_7.out
              subst eo72
              go_wp2_with (first | ((with_reducible refine gate_callee (f := 44) rfl ?_); refine goesL_ (some 88) rfl rfl Try.func44 (z_0) rfl #[.slice Ao72 t413.length co72, .slice Ao9 t406.length co9, .string t407, .int .i64 t408] rfl (z_14) ?_; (with_reducible refine (impl_KeptAsk.calls kj29 _ _ t413 _ _ t406 t407 t408 t443 t446 t447 t448 t449 t450 true _ ?side1 ?side2 ?side3 ?side4 A47.out).mono ?_); (case side1 => exact z_157); (case side2 => exact z_158); (case side3 => exact z_142); (case side4 => exact z_143); rintro e w73 ⟨v444, rfl, ho0, hb⟩; refine ⟨_, rfl, ?_⟩; have n0_ := Aside0.mk (Kd.Q_elder' (z_144) (Kd.R_base ho0) hb); have n1_ := Aside0.mk (Kd.R_below (z_145) hb); have n2_ := Aside0.mk (Kd.R_elder' (z_146) (Kd.R_base ho0) hb); have n3_ := Aside0.mk (Kd.R_lower (Kd.R_new' (Kd.R_new' ho0 (Kd.Q_lt (z_144))) (Kd.R_lt (z_146))) (below_size (z_155))); have n4_ := Aside0.mk (blk_below (g := gb422) (o := .cells #[.string t416, .int .i64 t417, .int .i64 t418, .string t419, .int .i64 t420] 26 (0, 0)) (z_132) hb); have n5_ := Aside0.mk (blk_below (g := gb432) (o := .cells #[.string t426, .int .i64 t427, .int .i64 t428, .string t429, .int .i64 t430] 26 (0, 0)) (z_147) hb); have n6_ := Aside0.mk (blk_below (g := gb440) (o := .cells #[.string t434, .int .i64 t435, .int .i64 t436, .string t437, .int .i64 t438] 26 (0, 0)) (z_156) hb); have n7_ := Aside0.mk (below_step (z_155) hb); clear HO_3; clear HO_4; clear HO_7; clear BK422; clear BK432; clear BK440; clear HB; have HO_3 := n0_; have HO_4 := n1_; have HO_7 := n2_; have HO445 := n3_; have BK422 := n4_; have BK432 := n5_; have BK440 := n6_; have HB := n7_; clear n0_ n1_ n2_ n3_ n4_ n5_ n6_ n7_; (try clear hb); (try clear hb2); (try clear hk); (try clear hi); (try clear ho0)) | ((with_reducible refine gate_dst (N := 16) rfl ?_); refine box_event ?hg (N := 16) ?hd (cs := #[.string (⟨#[]⟩ : ByteArray), .int .i64 0, .int .i64 0, .string (⟨#[]⟩ : ByteArray), .int .i64 0]) (t := 26) ?hr ?_; (case hd => rfl); (case hg => rfl); (case hr => exact z_9); intro gb452 hg w74 hbox hb; have n0_ := Aside0.mk (Kd.Q_below (z_144) hb); have n1_ := Aside0.mk (Kd.R_below (Kd.R_elderB (z_145) gb452 (Nat.le_of_eq hg.symm)) hb); have n2_ := Aside0.mk (Kd.R_below (z_146) hb); have n3_ := Aside0.mk (Kd.R_below (z_159) hb); have n4_ := Aside0.mk (blk_below (g := gb422) (o := .cells #[.string t416, .int .i64 t417, .int .i64 t418, .string t419, .int .i64 t420] 26 (0, 0)) (z_132) hb); have n5_ := Aside0.mk (blk_below (g := gb432) (o := .cells #[.string t426, .int .i64 t427, .int .i64 t428, .string t429, .int .i64 t430] 26 (0, 0)) (z_147) hb); have n6_ := Aside0.mk (blk_below (g := gb440) (o := .cells #[.string t434, .int .i64 t435, .int .i64 t436, .string t437, .int .i64 t438] 26 (0, 0)) (z_156) hb); have n7_ := Aside0.mk (below_step (z_155) hb); have n8_ := Aside0.mk (hbox); have n9_ := Aside0.mk ((z_160 : w.heap.size ≤ gb452)); have n10_ := Aside0.mk ((z_160 : w.heap.size ≤ gb452)); have n11_ := Aside0.mk ((z_134 : gb422 ≠ gb452)); have n12_ := Aside0.mk ((z_135 : gb452 ≠ gb422)); have n13_ := Aside0.mk ((z_149 : gb432 ≠ gb452)); have n14_ := Aside0.mk ((z_150 : gb452 ≠ gb432)); have n15_ := Aside0.mk ((z_161 : gb440 ≠ gb452)); have n16_ := Aside0.mk ((z_162 : gb452 ≠ gb440)); clear HO_3; clear HO_4; clear HO_7; clear HO445; clear BK422; clear BK432; clear BK440; clear HB; have HO_3 := n0_; have HO_4 := n1_; have HO_7 := n2_; have HO445 := n3_; have BK422 := n4_; have BK432 := n5_; have BK440 := n6_; have HB := n7_; have BK452 := n8_; have GW452 := n9_; have GE452 := n10_; have NB422_452 := n11_; have NB452_422 := n12_; have NB432_452 := n13_; have NB452_432 := n14_; have NB440_452 := n15_; have NB452_440 := n16_; clear n0_ n1_ n2_ n3_ n4_ n5_ n6_ n7_ n8_ n9_ n10_ n11_ n12_ n13_ n14_ n15_ n16_; clear hb hbox hg; have hnb75 := NB452_422.out; have hnc75 := NB422_452.out; have hnb76 := NB452_432.out; have hnc76 := NB432_452.out; have hnb77 := NB452_440.out; have hnc77 := NB440_452.out; have hcz78_0 : w74.cell? ⟨gb452, 0, none⟩ = some (.string (⟨#[]⟩ : ByteArray)) := (blk_cell BK452.out 0).trans rfl; have hcz78_1 : w74.cell? ⟨gb452, 1, none⟩ = some (.int .i64 0) := (blk_cell BK452.out 1).trans rfl; have hcz78_2 : w74.cell? ⟨gb452, 2, none⟩ = some (.int .i64 0) := (blk_cell BK452.out 2).trans rfl; have hcz78_3 : w74.cell? ⟨gb452, 3, none⟩ = some (.string (⟨#[]⟩ : ByteArray)) := (blk_cell BK452.out 3).trans rfl; have hcz78_4 : w74.cell? ⟨gb452, 4, none⟩ = some (.int .i64 0) := (blk_cell BK452.out 4).trans rfl; have hfz78_0 := blk_frozen BK452.out 0; have hfz78_1 := blk_frozen BK452.out 1; have hfz78_2 := blk_frozen BK452.out 2; have hfz78_3 := blk_frozen BK452.out 3; have hfz78_4 := blk_frozen BK452.out 4) | ((with_reducible refine gate_callee (f := 36) rfl ?_); refine goesL_ (some 93) rfl rfl Try.func36 (z_0) rfl #[.slice Ao72 t413.length co72] rfl (z_14) ?_; (with_reducible refine (impl_KeptOk.calls kj29 _ _ t413 true _ ?side1 ?side2 A48.out).mono ?_); (case side1 => refine (Kd.R_reads' (e := 83) (base := w.heap.size) (ok := fun k_ => (some k_ ≠ (.slice Ao8 t405.length co8 : Value).ownBlock ∧ some k_ ≠ (v444 : Value).ownBlock)) (n := t413.length) (c := co72) ?_).2.2; exact (z_163)); (case side2 => exact z_158); rintro e w79 ⟨rfl, hb⟩; refine ⟨_, rfl, ?_⟩; have n0_ := Aside0.mk (Kd.Q_below (z_164) hb); have n1_ := Aside0.mk (Kd.R_below (z_165) hb); have n2_ := Aside0.mk (Kd.R_below (z_163) hb); have n3_ := Aside0.mk (Kd.R_below (z_166) hb); have n4_ := Aside0.mk (blk_below (g := gb422) (o := .cells #[.string t416, .int .i64 t417, .int .i64 t418, .string t419, .int .i64 t420] 26 (0, 0)) (z_167) hb); have n5_ := Aside0.mk (blk_below (g := gb432) (o := .cells #[.string t426, .int .i64 t427, .int .i64 t428, .string t429, .int .i64 t430] 26 (0, 0)) (z_168) hb); have n6_ := Aside0.mk (blk_below (g := gb440) (o := .cells #[.string t434, .int .i64 t435, .int .i64 t436, .string t437, .int .i64 t438] 26 (0, 0)) (z_169) hb); have n7_ := Aside0.mk (blk_below (g := gb452) (o := .cells #[.string t446, .int .i64 t447, .int .i64 t448, .string t449, .int .i64 t450] 26 (0, 0)) (z_170) hb); have n8_ := Aside0.mk (below_step (z_171) hb); clear HO_3; clear HO_4; clear HO_7; clear HO445; clear BK422; clear BK432; clear BK440; clear BK452; clear HB; have HO_3 := n0_; have HO_4 := n1_; have HO_7 := n2_; have HO445 := n3_; have BK422 := n4_; have BK432 := n5_; have BK440 := n6_; have BK452 := n7_; have HB := n8_; clear n0_ n1_ n2_ n3_ n4_ n5_ n6_ n7_ n8_; (try clear hb); (try clear hb2); (try clear hk); (try clear hi); have hcz80_0 : w79.cell? ⟨gb452, 0, none⟩ = some (.string t446) := (blk_cell BK452.out 0).trans rfl; have hcz80_1 : w79.cell? ⟨gb452, 1, none⟩ = some (.int .i64 t447) := (blk_cell BK452.out 1).trans rfl; have hcz80_2 : w79.cell? ⟨gb452, 2, none⟩ = some (.int .i64 t448) := (blk_cell BK452.out 2).trans rfl; have hcz80_3 : w79.cell? ⟨gb452, 3, none⟩ = some (.string t449) := (blk_cell BK452.out 3).trans rfl; have hcz80_4 : w79.cell? ⟨gb452, 4, none⟩ = some (.int .i64 t450) := (blk_cell BK452.out 4).trans rfl; have hfz80_0 := blk_frozen BK452.out 0; have hfz80_1 := blk_frozen BK452.out 1; have hfz80_2 := blk_frozen BK452.out 2; have hfz80_3 := blk_frozen BK452.out 3; have hfz80_4 := blk_frozen BK452.out 4; have hnb81 := NB422_432.out; have hnc81 := NB432_422.out; have hnb82 := NB422_440.out; have hnc82 := NB440_422.out; have hcz83_0 : w79.cell? ⟨gb422, 0, none⟩ = some (.string t416) := (blk_cell BK422.out 0).trans rfl; have hcz83_1 : w79.cell? ⟨gb422, 1, none⟩ = some (.int .i64 t417) := (blk_cell BK422.out 1).trans rfl; have hcz83_2 : w79.cell? ⟨gb422, 2, none⟩ = some (.int .i64 t418) := (blk_cell BK422.out 2).trans rfl; have hcz83_3 : w79.cell? ⟨gb422, 3, none⟩ = some (.string t419) := (blk_cell BK422.out 3).trans rfl; have hcz83_4 : w79.cell? ⟨gb422, 4, none⟩ = some (.int .i64 t420) := (blk_cell BK422.out 4).trans rfl; have hfz83_0 := blk_frozen BK422.out 0; have hfz83_1 := blk_frozen BK422.out 1; have hfz83_2 := blk_frozen BK422.out 2; have hfz83_3 := blk_frozen BK422.out 3; have hfz83_4 := blk_frozen BK422.out 4; obtain ⟨Ao84, co84, eo84⟩ := Kd.R_slice HO445.out; subst eo84) | (go_at_call 46; (with_reducible refine (laws_sameKept.calls kj29 _ _ t443 _ _ t413 true _ ?side1 ?side2 ?side3 ?side4 A52.out).mono ?_); (case side1 => exact z_172); (case side2 => exact z_173); (case side3 => exact z_157); (case side4 => exact z_158); rintro e w' ⟨rfl, ⟨nd, rfl⟩⟩) | (go_at_call 46; (with_reducible refine (laws_sameKept.calls kj29 _ _ t413 _ _ t405 false _ ?side1 ?side2 ?side3 ?side4 A55.out).mono ?_); (case side1 => exact z_157); (case side2 => exact z_158); (case side3 => exact z_174); (case side4 => exact (Kd.Q_reads' HO_3.out).2.1); rintro e w' ⟨rfl, ⟨nd, rfl⟩⟩))
              go_ret
              exact ⟨z_13, z_171⟩
            ·replace c54 := Bool.eq_false_iff.mpr c54
             subst c54
             rw [if_neg (show ¬ (false = true) by decide)] at H
             by_cases c85 : (t416.toList == t434.toList && (t417 == t435 && (t418 == t436 && (t419.toList == t437.toList && (t420 == t438))))) = true
             ·rw [if_pos c85] at H
              have c85b0 : (t416.toList == t434.toList && (t417 == t435 && (t418 == t436 && (t419.toList == t437.toList && (t420 == t438))))) = true := c85
              (try (have c85b1 : decide (t416.toList = t434.toList && (t417 == t435 && (t418 == t436 && (t419.toList == t437.toList && (t420 == t438))))) = true := by simpa using c85))
              (try (have c85b2 : (t416.toList == t434.toList && (t417 == t435 && (t418 == t436 && (t419.toList == t437.toList && (t420 == t438))))) = true := by simpa using c85))
              clear c85
              replace H := Option.bind_eq_some_iff.mp H
              obtain ⟨t457, A860, H⟩ := H
              have A86 := Aside0.mk A860
              clear A860
              obtain rfl := Option.some.inj H
              obtain ⟨Ao87, co87, eo87⟩ := Kd.R_slice HO_7.out
              subst eo87
              go_wp2_with (first | ((with_reducible refine gate_callee (f := 44) rfl ?_); refine goesL_ (some 88) rfl rfl Try.func44 (z_0) rfl #[.slice Ao87 t413.length co87, .slice Ao9 t406.length co9, .string t407, .int .i64 t408] rfl (z_14) ?_; (with_reducible refine (impl_KeptAsk.calls kj29 _ _ t413 _ _ t406 t407 t408 t443 t446 t447 t448 t449 t450 true _ ?side1 ?side2 ?side3 ?side4 A47.out).mono ?_); (case side1 => exact z_157); (case side2 => exact z_158); (case side3 => exact z_142); (case side4 => exact z_143); rintro e w88 ⟨v444, rfl, ho0, hb⟩; refine ⟨_, rfl, ?_⟩; have n0_ := Aside0.mk (Kd.Q_elder' (z_144) (Kd.R_base ho0) hb); have n1_ := Aside0.mk (Kd.R_below (z_145) hb); have n2_ := Aside0.mk (Kd.R_elder' (z_146) (Kd.R_base ho0) hb); have n3_ := Aside0.mk (Kd.R_lower (Kd.R_new' (Kd.R_new' ho0 (Kd.Q_lt (z_144))) (Kd.R_lt (z_146))) (below_size (z_155))); have n4_ := Aside0.mk (blk_below (g := gb422) (o := .cells #[.string t416, .int .i64 t417, .int .i64 t418, .string t419, .int .i64 t420] 26 (0, 0)) (z_132) hb); have n5_ := Aside0.mk (blk_below (g := gb432) (o := .cells #[.string t426, .int .i64 t427, .int .i64 t428, .string t429, .int .i64 t430] 26 (0, 0)) (z_147) hb); have n6_ := Aside0.mk (blk_below (g := gb440) (o := .cells #[.string t434, .int .i64 t435, .int .i64 t436, .string t437, .int .i64 t438] 26 (0, 0)) (z_156) hb); have n7_ := Aside0.mk (below_step (z_155) hb); clear HO_3; clear HO_4; clear HO_7; clear BK422; clear BK432; clear BK440; clear HB; have HO_3 := n0_; have HO_4 := n1_; have HO_7 := n2_; have HO445 := n3_; have BK422 := n4_; have BK432 := n5_; have BK440 := n6_; have HB := n7_; clear n0_ n1_ n2_ n3_ n4_ n5_ n6_ n7_; (try clear hb); (try clear hb2); (try clear hk); (try clear hi); (try clear ho0)) | ((with_reducible refine gate_dst (N := 16) rfl ?_); refine box_event ?hg (N := 16) ?hd (cs := #[.string (⟨#[]⟩ : ByteArray), .int .i64 0, .int .i64 0, .string (⟨#[]⟩ : ByteArray), .int .i64 0]) (t := 26) ?hr ?_; (case hd => rfl); (case hg => rfl); (case hr => exact z_9); intro gb452 hg w89 hbox hb; have n0_ := Aside0.mk (Kd.Q_below (z_144) hb); have n1_ := Aside0.mk (Kd.R_below (Kd.R_elderB (z_145) gb452 (Nat.le_of_eq hg.symm)) hb); have n2_ := Aside0.mk (Kd.R_below (z_146) hb); have n3_ := Aside0.mk (Kd.R_below (z_159) hb); have n4_ := Aside0.mk (blk_below (g := gb422) (o := .cells #[.string t416, .int .i64 t417, .int .i64 t418, .string t419, .int .i64 t420] 26 (0, 0)) (z_132) hb); have n5_ := Aside0.mk (blk_below (g := gb432) (o := .cells #[.string t426, .int .i64 t427, .int .i64 t428, .string t429, .int .i64 t430] 26 (0, 0)) (z_147) hb); have n6_ := Aside0.mk (blk_below (g := gb440) (o := .cells #[.string t434, .int .i64 t435, .int .i64 t436, .string t437, .int .i64 t438] 26 (0, 0)) (z_156) hb); have n7_ := Aside0.mk (below_step (z_155) hb); have n8_ := Aside0.mk (hbox); have n9_ := Aside0.mk ((z_160 : w.heap.size ≤ gb452)); have n10_ := Aside0.mk ((z_160 : w.heap.size ≤ gb452)); have n11_ := Aside0.mk ((z_134 : gb422 ≠ gb452)); have n12_ := Aside0.mk ((z_135 : gb452 ≠ gb422)); have n13_ := Aside0.mk ((z_149 : gb432 ≠ gb452)); have n14_ := Aside0.mk ((z_150 : gb452 ≠ gb432)); have n15_ := Aside0.mk ((z_161 : gb440 ≠ gb452)); have n16_ := Aside0.mk ((z_162 : gb452 ≠ gb440)); clear HO_3; clear HO_4; clear HO_7; clear HO445; clear BK422; clear BK432; clear BK440; clear HB; have HO_3 := n0_; have HO_4 := n1_; have HO_7 := n2_; have HO445 := n3_; have BK422 := n4_; have BK432 := n5_; have BK440 := n6_; have HB := n7_; have BK452 := n8_; have GW452 := n9_; have GE452 := n10_; have NB422_452 := n11_; have NB452_422 := n12_; have NB432_452 := n13_; have NB452_432 := n14_; have NB440_452 := n15_; have NB452_440 := n16_; clear n0_ n1_ n2_ n3_ n4_ n5_ n6_ n7_ n8_ n9_ n10_ n11_ n12_ n13_ n14_ n15_ n16_; clear hb hbox hg; have hnb90 := NB452_422.out; have hnc90 := NB422_452.out; have hnb91 := NB452_432.out; have hnc91 := NB432_452.out; have hnb92 := NB452_440.out; have hnc92 := NB440_452.out; have hcz93_0 : w89.cell? ⟨gb452, 0, none⟩ = some (.string (⟨#[]⟩ : ByteArray)) := (blk_cell BK452.out 0).trans rfl; have hcz93_1 : w89.cell? ⟨gb452, 1, none⟩ = some (.int .i64 0) := (blk_cell BK452.out 1).trans rfl; have hcz93_2 : w89.cell? ⟨gb452, 2, none⟩ = some (.int .i64 0) := (blk_cell BK452.out 2).trans rfl; have hcz93_3 : w89.cell? ⟨gb452, 3, none⟩ = some (.string (⟨#[]⟩ : ByteArray)) := (blk_cell BK452.out 3).trans rfl; have hcz93_4 : w89.cell? ⟨gb452, 4, none⟩ = some (.int .i64 0) := (blk_cell BK452.out 4).trans rfl; have hfz93_0 := blk_frozen BK452.out 0; have hfz93_1 := blk_frozen BK452.out 1; have hfz93_2 := blk_frozen BK452.out 2; have hfz93_3 := blk_frozen BK452.out 3; have hfz93_4 := blk_frozen BK452.out 4) | ((with_reducible refine gate_callee (f := 36) rfl ?_); refine goesL_ (some 93) rfl rfl Try.func36 (z_0) rfl #[.slice Ao87 t413.length co87] rfl (z_14) ?_; (with_reducible refine (impl_KeptOk.calls kj29 _ _ t413 true _ ?side1 ?side2 A48.out).mono ?_); (case side1 => refine (Kd.R_reads' (e := 83) (base := w.heap.size) (ok := fun k_ => (some k_ ≠ (.slice Ao8 t405.length co8 : Value).ownBlock ∧ some k_ ≠ (v444 : Value).ownBlock)) (n := t413.length) (c := co87) ?_).2.2; exact (z_163)); (case side2 => exact z_158); rintro e w94 ⟨rfl, hb⟩; refine ⟨_, rfl, ?_⟩; have n0_ := Aside0.mk (Kd.Q_below (z_164) hb); have n1_ := Aside0.mk (Kd.R_below (z_165) hb); have n2_ := Aside0.mk (Kd.R_below (z_163) hb); have n3_ := Aside0.mk (Kd.R_below (z_166) hb); have n4_ := Aside0.mk (blk_below (g := gb422) (o := .cells #[.string t416, .int .i64 t417, .int .i64 t418, .string t419, .int .i64 t420] 26 (0, 0)) (z_167) hb); have n5_ := Aside0.mk (blk_below (g := gb432) (o := .cells #[.string t426, .int .i64 t427, .int .i64 t428, .string t429, .int .i64 t430] 26 (0, 0)) (z_168) hb); have n6_ := Aside0.mk (blk_below (g := gb440) (o := .cells #[.string t434, .int .i64 t435, .int .i64 t436, .string t437, .int .i64 t438] 26 (0, 0)) (z_169) hb); have n7_ := Aside0.mk (blk_below (g := gb452) (o := .cells #[.string t446, .int .i64 t447, .int .i64 t448, .string t449, .int .i64 t450] 26 (0, 0)) (z_170) hb); have n8_ := Aside0.mk (below_step (z_171) hb); clear HO_3; clear HO_4; clear HO_7; clear HO445; clear BK422; clear BK432; clear BK440; clear BK452; clear HB; have HO_3 := n0_; have HO_4 := n1_; have HO_7 := n2_; have HO445 := n3_; have BK422 := n4_; have BK432 := n5_; have BK440 := n6_; have BK452 := n7_; have HB := n8_; clear n0_ n1_ n2_ n3_ n4_ n5_ n6_ n7_ n8_; (try clear hb); (try clear hb2); (try clear hk); (try clear hi); have hcz95_0 : w94.cell? ⟨gb452, 0, none⟩ = some (.string t446) := (blk_cell BK452.out 0).trans rfl; have hcz95_1 : w94.cell? ⟨gb452, 1, none⟩ = some (.int .i64 t447) := (blk_cell BK452.out 1).trans rfl; have hcz95_2 : w94.cell? ⟨gb452, 2, none⟩ = some (.int .i64 t448) := (blk_cell BK452.out 2).trans rfl; have hcz95_3 : w94.cell? ⟨gb452, 3, none⟩ = some (.string t449) := (blk_cell BK452.out 3).trans rfl; have hcz95_4 : w94.cell? ⟨gb452, 4, none⟩ = some (.int .i64 t450) := (blk_cell BK452.out 4).trans rfl; have hfz95_0 := blk_frozen BK452.out 0; have hfz95_1 := blk_frozen BK452.out 1; have hfz95_2 := blk_frozen BK452.out 2; have hfz95_3 := blk_frozen BK452.out 3; have hfz95_4 := blk_frozen BK452.out 4; have hnb96 := NB422_432.out; have hnc96 := NB432_422.out; have hnb97 := NB422_440.out; have hnc97 := NB440_422.out; have hcz98_0 : w94.cell? ⟨gb422, 0, none⟩ = some (.string t416) := (blk_cell BK422.out 0).trans rfl; have hcz98_1 : w94.cell? ⟨gb422, 1, none⟩ = some (.int .i64 t417) := (blk_cell BK422.out 1).trans rfl; have hcz98_2 : w94.cell? ⟨gb422, 2, none⟩ = some (.int .i64 t418) := (blk_cell BK422.out 2).trans rfl; have hcz98_3 : w94.cell? ⟨gb422, 3, none⟩ = some (.string t419) := (blk_cell BK422.out 3).trans rfl; have hcz98_4 : w94.cell? ⟨gb422, 4, none⟩ = some (.int .i64 t420) := (blk_cell BK422.out 4).trans rfl; have hfz98_0 := blk_frozen BK422.out 0; have hfz98_1 := blk_frozen BK422.out 1; have hfz98_2 := blk_frozen BK422.out 2; have hfz98_3 := blk_frozen BK422.out 3; have hfz98_4 := blk_frozen BK422.out 4; obtain ⟨Ao99, co99, eo99⟩ := Kd.R_slice HO445.out; subst eo99) | (go_at_call 46; (with_reducible refine (laws_sameKept.calls kj29 _ _ t443 _ _ t413 true _ ?side1 ?side2 ?side3 ?side4 A52.out).mono ?_); (case side1 => exact z_172); (case side2 => exact z_173); (case side3 => exact z_157); (case side4 => exact z_158); rintro e w' ⟨rfl, ⟨nd, rfl⟩⟩; have hnb100 := NB440_432.out; have hnc100 := NB432_440.out; have hcz101_0 : w94.cell? ⟨gb440, 0, none⟩ = some (.string t434) := (blk_cell BK440.out 0).trans rfl; have hcz101_1 : w94.cell? ⟨gb440, 1, none⟩ = some (.int .i64 t435) := (blk_cell BK440.out 1).trans rfl; have hcz101_2 : w94.cell? ⟨gb440, 2, none⟩ = some (.int .i64 t436) := (blk_cell BK440.out 2).trans rfl; have hcz101_3 : w94.cell? ⟨gb440, 3, none⟩ = some (.string t437) := (blk_cell BK440.out 3).trans rfl; have hcz101_4 : w94.cell? ⟨gb440, 4, none⟩ = some (.int .i64 t438) := (blk_cell BK440.out 4).trans rfl; have hfz101_0 := blk_frozen BK440.out 0; have hfz101_1 := blk_frozen BK440.out 1; have hfz101_2 := blk_frozen BK440.out 2; have hfz101_3 := blk_frozen BK440.out 3; have hfz101_4 := blk_frozen BK440.out 4) | (go_at_call 23; (with_reducible refine (laws_alive.calls kj29  t457 _ A86.out).mono ?_); rintro e w102 ⟨rfl, hb⟩; have n0_ := Aside0.mk (Kd.Q_below (z_144) hb); have n1_ := Aside0.mk (Kd.R_below (z_145) hb); have n2_ := Aside0.mk (Kd.R_below (z_146) hb); have n3_ := Aside0.mk (Kd.R_below (z_159) hb); have n4_ := Aside0.mk (blk_below (g := gb422) (o := .cells #[.string t416, .int .i64 t417, .int .i64 t418, .string t419, .int .i64 t420] 26 (0, 0)) (z_132) hb); have n5_ := Aside0.mk (blk_below (g := gb432) (o := .cells #[.string t426, .int .i64 t427, .int .i64 t428, .string t429, .int .i64 t430] 26 (0, 0)) (z_147) hb); have n6_ := Aside0.mk (blk_below (g := gb440) (o := .cells #[.string t434, .int .i64 t435, .int .i64 t436, .string t437, .int .i64 t438] 26 (0, 0)) (z_156) hb); have n7_ := Aside0.mk (blk_below (g := gb452) (o := .cells #[.string t446, .int .i64 t447, .int .i64 t448, .string t449, .int .i64 t450] 26 (0, 0)) (z_175) hb); have n8_ := Aside0.mk (below_step (z_171) hb); clear HO_3; clear HO_4; clear HO_7; clear HO445; clear BK422; clear BK432; clear BK440; clear BK452; clear HB; have HO_3 := n0_; have HO_4 := n1_; have HO_7 := n2_; have HO445 := n3_; have BK422 := n4_; have BK432 := n5_; have BK440 := n6_; have BK452 := n7_; have HB := n8_; clear n0_ n1_ n2_ n3_ n4_ n5_ n6_ n7_ n8_; (try clear hb); (try clear hb2); (try clear hk); (try clear hi)))
              go_ret
              exact ⟨z_13, z_171⟩
             ·rw [if_neg c85] at H
              have c85b0 : (t416.toList == t434.toList && (t417 == t435 && (t418 == t436 && (t419.toList == t437.toList && (t420 == t438))))) = false := by simpa using c85
              (try (have c85b1 : decide (t416.toList = t434.toList && (t417 == t435 && (t418 == t436 && (t419.toList == t437.toList && (t420 == t438))))) = false := by simpa using c85))
              (try (have c85b2 : (t416.toList == t434.toList && (t417 == t435 && (t418 == t436 && (t419.toList == t437.toList && (t420 == t438))))) = false := by simpa using c85))
              (try (have c85b3 : ¬ (t416.toList = t434.toList && (t417 == t435 && (t418 == t436 && (t419.toList == t437.toList && (t420 == t438))))) := by simpa using c85))
              clear c85
              obtain rfl := Option.some.inj H
              obtain ⟨Ao103, co103, eo103⟩ := Kd.R_slice HO_7.out
              subst eo103
              go_wp2_with (first | ((with_reducible refine gate_callee (f := 44) rfl ?_); refine goesL_ (some 88) rfl rfl Try.func44 (z_0) rfl #[.slice Ao103 t413.length co103, .slice Ao9 t406.length co9, .string t407, .int .i64 t408] rfl (z_14) ?_; (with_reducible refine (impl_KeptAsk.calls kj29 _ _ t413 _ _ t406 t407 t408 t443 t446 t447 t448 t449 t450 true _ ?side1 ?side2 ?side3 ?side4 A47.out).mono ?_); (case side1 => exact z_157); (case side2 => exact z_158); (case side3 => exact z_142); (case side4 => exact z_143); rintro e w104 ⟨v444, rfl, ho0, hb⟩; refine ⟨_, rfl, ?_⟩; have n0_ := Aside0.mk (Kd.Q_elder' (z_144) (Kd.R_base ho0) hb); have n1_ := Aside0.mk (Kd.R_below (z_145) hb); have n2_ := Aside0.mk (Kd.R_elder' (z_146) (Kd.R_base ho0) hb); have n3_ := Aside0.mk (Kd.R_lower (Kd.R_new' (Kd.R_new' ho0 (Kd.Q_lt (z_144))) (Kd.R_lt (z_146))) (below_size (z_155))); have n4_ := Aside0.mk (blk_below (g := gb422) (o := .cells #[.string t416, .int .i64 t417, .int .i64 t418, .string t419, .int .i64 t420] 26 (0, 0)) (z_132) hb); have n5_ := Aside0.mk (blk_below (g := gb432) (o := .cells #[.string t426, .int .i64 t427, .int .i64 t428, .string t429, .int .i64 t430] 26 (0, 0)) (z_147) hb); have n6_ := Aside0.mk (blk_below (g := gb440) (o := .cells #[.string t434, .int .i64 t435, .int .i64 t436, .string t437, .int .i64 t438] 26 (0, 0)) (z_156) hb); have n7_ := Aside0.mk (below_step (z_155) hb); clear HO_3; clear HO_4; clear HO_7; clear BK422; clear BK432; clear BK440; clear HB; have HO_3 := n0_; have HO_4 := n1_; have HO_7 := n2_; have HO445 := n3_; have BK422 := n4_; have BK432 := n5_; have BK440 := n6_; have HB := n7_; clear n0_ n1_ n2_ n3_ n4_ n5_ n6_ n7_; (try clear hb); (try clear hb2); (try clear hk); (try clear hi); (try clear ho0)) | ((with_reducible refine gate_dst (N := 16) rfl ?_); refine box_event ?hg (N := 16) ?hd (cs := #[.string (⟨#[]⟩ : ByteArray), .int .i64 0, .int .i64 0, .string (⟨#[]⟩ : ByteArray), .int .i64 0]) (t := 26) ?hr ?_; (case hd => rfl); (case hg => rfl); (case hr => exact z_9); intro gb452 hg w105 hbox hb; have n0_ := Aside0.mk (Kd.Q_below (z_144) hb); have n1_ := Aside0.mk (Kd.R_below (Kd.R_elderB (z_145) gb452 (Nat.le_of_eq hg.symm)) hb); have n2_ := Aside0.mk (Kd.R_below (z_146) hb); have n3_ := Aside0.mk (Kd.R_below (z_159) hb); have n4_ := Aside0.mk (blk_below (g := gb422) (o := .cells #[.string t416, .int .i64 t417, .int .i64 t418, .string t419, .int .i64 t420] 26 (0, 0)) (z_132) hb); have n5_ := Aside0.mk (blk_below (g := gb432) (o := .cells #[.string t426, .int .i64 t427, .int .i64 t428, .string t429, .int .i64 t430] 26 (0, 0)) (z_147) hb); have n6_ := Aside0.mk (blk_below (g := gb440) (o := .cells #[.string t434, .int .i64 t435, .int .i64 t436, .string t437, .int .i64 t438] 26 (0, 0)) (z_156) hb); have n7_ := Aside0.mk (below_step (z_155) hb); have n8_ := Aside0.mk (hbox); have n9_ := Aside0.mk ((z_160 : w.heap.size ≤ gb452)); have n10_ := Aside0.mk ((z_160 : w.heap.size ≤ gb452)); have n11_ := Aside0.mk ((z_134 : gb422 ≠ gb452)); have n12_ := Aside0.mk ((z_135 : gb452 ≠ gb422)); have n13_ := Aside0.mk ((z_149 : gb432 ≠ gb452)); have n14_ := Aside0.mk ((z_150 : gb452 ≠ gb432)); have n15_ := Aside0.mk ((z_161 : gb440 ≠ gb452)); have n16_ := Aside0.mk ((z_162 : gb452 ≠ gb440)); clear HO_3; clear HO_4; clear HO_7; clear HO445; clear BK422; clear BK432; clear BK440; clear HB; have HO_3 := n0_; have HO_4 := n1_; have HO_7 := n2_; have HO445 := n3_; have BK422 := n4_; have BK432 := n5_; have BK440 := n6_; have HB := n7_; have BK452 := n8_; have GW452 := n9_; have GE452 := n10_; have NB422_452 := n11_; have NB452_422 := n12_; have NB432_452 := n13_; have NB452_432 := n14_; have NB440_452 := n15_; have NB452_440 := n16_; clear n0_ n1_ n2_ n3_ n4_ n5_ n6_ n7_ n8_ n9_ n10_ n11_ n12_ n13_ n14_ n15_ n16_; clear hb hbox hg; have hnb106 := NB452_422.out; have hnc106 := NB422_452.out; have hnb107 := NB452_432.out; have hnc107 := NB432_452.out; have hnb108 := NB452_440.out; have hnc108 := NB440_452.out; have hcz109_0 : w105.cell? ⟨gb452, 0, none⟩ = some (.string (⟨#[]⟩ : ByteArray)) := (blk_cell BK452.out 0).trans rfl; have hcz109_1 : w105.cell? ⟨gb452, 1, none⟩ = some (.int .i64 0) := (blk_cell BK452.out 1).trans rfl; have hcz109_2 : w105.cell? ⟨gb452, 2, none⟩ = some (.int .i64 0) := (blk_cell BK452.out 2).trans rfl; have hcz109_3 : w105.cell? ⟨gb452, 3, none⟩ = some (.string (⟨#[]⟩ : ByteArray)) := (blk_cell BK452.out 3).trans rfl; have hcz109_4 : w105.cell? ⟨gb452, 4, none⟩ = some (.int .i64 0) := (blk_cell BK452.out 4).trans rfl; have hfz109_0 := blk_frozen BK452.out 0; have hfz109_1 := blk_frozen BK452.out 1; have hfz109_2 := blk_frozen BK452.out 2; have hfz109_3 := blk_frozen BK452.out 3; have hfz109_4 := blk_frozen BK452.out 4) | ((with_reducible refine gate_callee (f := 36) rfl ?_); refine goesL_ (some 93) rfl rfl Try.func36 (z_0) rfl #[.slice Ao103 t413.length co103] rfl (z_14) ?_; (with_reducible refine (impl_KeptOk.calls kj29 _ _ t413 true _ ?side1 ?side2 A48.out).mono ?_); (case side1 => refine (Kd.R_reads' (e := 83) (base := w.heap.size) (ok := fun k_ => (some k_ ≠ (.slice Ao8 t405.length co8 : Value).ownBlock ∧ some k_ ≠ (v444 : Value).ownBlock)) (n := t413.length) (c := co103) ?_).2.2; exact (z_163)); (case side2 => exact z_158); rintro e w110 ⟨rfl, hb⟩; refine ⟨_, rfl, ?_⟩; have n0_ := Aside0.mk (Kd.Q_below (z_164) hb); have n1_ := Aside0.mk (Kd.R_below (z_165) hb); have n2_ := Aside0.mk (Kd.R_below (z_163) hb); have n3_ := Aside0.mk (Kd.R_below (z_166) hb); have n4_ := Aside0.mk (blk_below (g := gb422) (o := .cells #[.string t416, .int .i64 t417, .int .i64 t418, .string t419, .int .i64 t420] 26 (0, 0)) (z_167) hb); have n5_ := Aside0.mk (blk_below (g := gb432) (o := .cells #[.string t426, .int .i64 t427, .int .i64 t428, .string t429, .int .i64 t430] 26 (0, 0)) (z_168) hb); have n6_ := Aside0.mk (blk_below (g := gb440) (o := .cells #[.string t434, .int .i64 t435, .int .i64 t436, .string t437, .int .i64 t438] 26 (0, 0)) (z_169) hb); have n7_ := Aside0.mk (blk_below (g := gb452) (o := .cells #[.string t446, .int .i64 t447, .int .i64 t448, .string t449, .int .i64 t450] 26 (0, 0)) (z_170) hb); have n8_ := Aside0.mk (below_step (z_171) hb); clear HO_3; clear HO_4; clear HO_7; clear HO445; clear BK422; clear BK432; clear BK440; clear BK452; clear HB; have HO_3 := n0_; have HO_4 := n1_; have HO_7 := n2_; have HO445 := n3_; have BK422 := n4_; have BK432 := n5_; have BK440 := n6_; have BK452 := n7_; have HB := n8_; clear n0_ n1_ n2_ n3_ n4_ n5_ n6_ n7_ n8_; (try clear hb); (try clear hb2); (try clear hk); (try clear hi); have hcz111_0 : w110.cell? ⟨gb452, 0, none⟩ = some (.string t446) := (blk_cell BK452.out 0).trans rfl; have hcz111_1 : w110.cell? ⟨gb452, 1, none⟩ = some (.int .i64 t447) := (blk_cell BK452.out 1).trans rfl; have hcz111_2 : w110.cell? ⟨gb452, 2, none⟩ = some (.int .i64 t448) := (blk_cell BK452.out 2).trans rfl; have hcz111_3 : w110.cell? ⟨gb452, 3, none⟩ = some (.string t449) := (blk_cell BK452.out 3).trans rfl; have hcz111_4 : w110.cell? ⟨gb452, 4, none⟩ = some (.int .i64 t450) := (blk_cell BK452.out 4).trans rfl; have hfz111_0 := blk_frozen BK452.out 0; have hfz111_1 := blk_frozen BK452.out 1; have hfz111_2 := blk_frozen BK452.out 2; have hfz111_3 := blk_frozen BK452.out 3; have hfz111_4 := blk_frozen BK452.out 4; have hnb112 := NB422_432.out; have hnc112 := NB432_422.out; have hnb113 := NB422_440.out; have hnc113 := NB440_422.out; have hcz114_0 : w110.cell? ⟨gb422, 0, none⟩ = some (.string t416) := (blk_cell BK422.out 0).trans rfl; have hcz114_1 : w110.cell? ⟨gb422, 1, none⟩ = some (.int .i64 t417) := (blk_cell BK422.out 1).trans rfl; have hcz114_2 : w110.cell? ⟨gb422, 2, none⟩ = some (.int .i64 t418) := (blk_cell BK422.out 2).trans rfl; have hcz114_3 : w110.cell? ⟨gb422, 3, none⟩ = some (.string t419) := (blk_cell BK422.out 3).trans rfl; have hcz114_4 : w110.cell? ⟨gb422, 4, none⟩ = some (.int .i64 t420) := (blk_cell BK422.out 4).trans rfl; have hfz114_0 := blk_frozen BK422.out 0; have hfz114_1 := blk_frozen BK422.out 1; have hfz114_2 := blk_frozen BK422.out 2; have hfz114_3 := blk_frozen BK422.out 3; have hfz114_4 := blk_frozen BK422.out 4; obtain ⟨Ao115, co115, eo115⟩ := Kd.R_slice HO445.out; subst eo115) | (go_at_call 46; (with_reducible refine (laws_sameKept.calls kj29 _ _ t443 _ _ t413 true _ ?side1 ?side2 ?side3 ?side4 A52.out).mono ?_); (case side1 => exact z_172); (case side2 => exact z_173); (case side3 => exact z_157); (case side4 => exact z_158); rintro e w' ⟨rfl, ⟨nd, rfl⟩⟩; have hnb116 := NB440_432.out; have hnc116 := NB432_440.out; have hcz117_0 : w110.cell? ⟨gb440, 0, none⟩ = some (.string t434) := (blk_cell BK440.out 0).trans rfl; have hcz117_1 : w110.cell? ⟨gb440, 1, none⟩ = some (.int .i64 t435) := (blk_cell BK440.out 1).trans rfl; have hcz117_2 : w110.cell? ⟨gb440, 2, none⟩ = some (.int .i64 t436) := (blk_cell BK440.out 2).trans rfl; have hcz117_3 : w110.cell? ⟨gb440, 3, none⟩ = some (.string t437) := (blk_cell BK440.out 3).trans rfl; have hcz117_4 : w110.cell? ⟨gb440, 4, none⟩ = some (.int .i64 t438) := (blk_cell BK440.out 4).trans rfl; have hfz117_0 := blk_frozen BK440.out 0; have hfz117_1 := blk_frozen BK440.out 1; have hfz117_2 := blk_frozen BK440.out 2; have hfz117_3 := blk_frozen BK440.out 3; have hfz117_4 := blk_frozen BK440.out 4))
              go_ret
              exact ⟨z_13, z_171⟩
           ·replace c53 := Bool.eq_false_iff.mpr c53
            subst c53
            rw [if_neg (show ¬ (false = true) by decide)] at H
            obtain rfl := Option.some.inj H
            obtain ⟨Ao118, co118, eo118⟩ := Kd.R_slice HO_7.out
            subst eo118
            go_wp2_with (first | ((with_reducible refine gate_callee (f := 44) rfl ?_); refine goesL_ (some 88) rfl rfl Try.func44 (z_0) rfl #[.slice Ao118 t413.length co118, .slice Ao9 t406.length co9, .string t407, .int .i64 t408] rfl (z_14) ?_; (with_reducible refine (impl_KeptAsk.calls kj29 _ _ t413 _ _ t406 t407 t408 t443 t446 t447 t448 t449 t450 true _ ?side1 ?side2 ?side3 ?side4 A47.out).mono ?_); (case side1 => exact z_157); (case side2 => exact z_158); (case side3 => exact z_142); (case side4 => exact z_143); rintro e w119 ⟨v444, rfl, ho0, hb⟩; refine ⟨_, rfl, ?_⟩; have n0_ := Aside0.mk (Kd.Q_elder' (z_144) (Kd.R_base ho0) hb); have n1_ := Aside0.mk (Kd.R_below (z_145) hb); have n2_ := Aside0.mk (Kd.R_elder' (z_146) (Kd.R_base ho0) hb); have n3_ := Aside0.mk (Kd.R_lower (Kd.R_new' (Kd.R_new' ho0 (Kd.Q_lt (z_144))) (Kd.R_lt (z_146))) (below_size (z_155))); have n4_ := Aside0.mk (blk_below (g := gb422) (o := .cells #[.string t416, .int .i64 t417, .int .i64 t418, .string t419, .int .i64 t420] 26 (0, 0)) (z_132) hb); have n5_ := Aside0.mk (blk_below (g := gb432) (o := .cells #[.string t426, .int .i64 t427, .int .i64 t428, .string t429, .int .i64 t430] 26 (0, 0)) (z_147) hb); have n6_ := Aside0.mk (blk_below (g := gb440) (o := .cells #[.string t434, .int .i64 t435, .int .i64 t436, .string t437, .int .i64 t438] 26 (0, 0)) (z_156) hb); have n7_ := Aside0.mk (below_step (z_155) hb); clear HO_3; clear HO_4; clear HO_7; clear BK422; clear BK432; clear BK440; clear HB; have HO_3 := n0_; have HO_4 := n1_; have HO_7 := n2_; have HO445 := n3_; have BK422 := n4_; have BK432 := n5_; have BK440 := n6_; have HB := n7_; clear n0_ n1_ n2_ n3_ n4_ n5_ n6_ n7_; (try clear hb); (try clear hb2); (try clear hk); (try clear hi); (try clear ho0)) | ((with_reducible refine gate_dst (N := 16) rfl ?_); refine box_event ?hg (N := 16) ?hd (cs := #[.string (⟨#[]⟩ : ByteArray), .int .i64 0, .int .i64 0, .string (⟨#[]⟩ : ByteArray), .int .i64 0]) (t := 26) ?hr ?_; (case hd => rfl); (case hg => rfl); (case hr => exact z_9); intro gb452 hg w120 hbox hb; have n0_ := Aside0.mk (Kd.Q_below (z_144) hb); have n1_ := Aside0.mk (Kd.R_below (Kd.R_elderB (z_145) gb452 (Nat.le_of_eq hg.symm)) hb); have n2_ := Aside0.mk (Kd.R_below (z_146) hb); have n3_ := Aside0.mk (Kd.R_below (z_159) hb); have n4_ := Aside0.mk (blk_below (g := gb422) (o := .cells #[.string t416, .int .i64 t417, .int .i64 t418, .string t419, .int .i64 t420] 26 (0, 0)) (z_132) hb); have n5_ := Aside0.mk (blk_below (g := gb432) (o := .cells #[.string t426, .int .i64 t427, .int .i64 t428, .string t429, .int .i64 t430] 26 (0, 0)) (z_147) hb); have n6_ := Aside0.mk (blk_below (g := gb440) (o := .cells #[.string t434, .int .i64 t435, .int .i64 t436, .string t437, .int .i64 t438] 26 (0, 0)) (z_156) hb); have n7_ := Aside0.mk (below_step (z_155) hb); have n8_ := Aside0.mk (hbox); have n9_ := Aside0.mk ((z_160 : w.heap.size ≤ gb452)); have n10_ := Aside0.mk ((z_160 : w.heap.size ≤ gb452)); have n11_ := Aside0.mk ((z_134 : gb422 ≠ gb452)); have n12_ := Aside0.mk ((z_135 : gb452 ≠ gb422)); have n13_ := Aside0.mk ((z_149 : gb432 ≠ gb452)); have n14_ := Aside0.mk ((z_150 : gb452 ≠ gb432)); have n15_ := Aside0.mk ((z_161 : gb440 ≠ gb452)); have n16_ := Aside0.mk ((z_162 : gb452 ≠ gb440)); clear HO_3; clear HO_4; clear HO_7; clear HO445; clear BK422; clear BK432; clear BK440; clear HB; have HO_3 := n0_; have HO_4 := n1_; have HO_7 := n2_; have HO445 := n3_; have BK422 := n4_; have BK432 := n5_; have BK440 := n6_; have HB := n7_; have BK452 := n8_; have GW452 := n9_; have GE452 := n10_; have NB422_452 := n11_; have NB452_422 := n12_; have NB432_452 := n13_; have NB452_432 := n14_; have NB440_452 := n15_; have NB452_440 := n16_; clear n0_ n1_ n2_ n3_ n4_ n5_ n6_ n7_ n8_ n9_ n10_ n11_ n12_ n13_ n14_ n15_ n16_; clear hb hbox hg; have hnb121 := NB452_422.out; have hnc121 := NB422_452.out; have hnb122 := NB452_432.out; have hnc122 := NB432_452.out; have hnb123 := NB452_440.out; have hnc123 := NB440_452.out; have hcz124_0 : w120.cell? ⟨gb452, 0, none⟩ = some (.string (⟨#[]⟩ : ByteArray)) := (blk_cell BK452.out 0).trans rfl; have hcz124_1 : w120.cell? ⟨gb452, 1, none⟩ = some (.int .i64 0) := (blk_cell BK452.out 1).trans rfl; have hcz124_2 : w120.cell? ⟨gb452, 2, none⟩ = some (.int .i64 0) := (blk_cell BK452.out 2).trans rfl; have hcz124_3 : w120.cell? ⟨gb452, 3, none⟩ = some (.string (⟨#[]⟩ : ByteArray)) := (blk_cell BK452.out 3).trans rfl; have hcz124_4 : w120.cell? ⟨gb452, 4, none⟩ = some (.int .i64 0) := (blk_cell BK452.out 4).trans rfl; have hfz124_0 := blk_frozen BK452.out 0; have hfz124_1 := blk_frozen BK452.out 1; have hfz124_2 := blk_frozen BK452.out 2; have hfz124_3 := blk_frozen BK452.out 3; have hfz124_4 := blk_frozen BK452.out 4) | ((with_reducible refine gate_callee (f := 36) rfl ?_); refine goesL_ (some 93) rfl rfl Try.func36 (z_0) rfl #[.slice Ao118 t413.length co118] rfl (z_14) ?_; (with_reducible refine (impl_KeptOk.calls kj29 _ _ t413 true _ ?side1 ?side2 A48.out).mono ?_); (case side1 => refine (Kd.R_reads' (e := 83) (base := w.heap.size) (ok := fun k_ => (some k_ ≠ (.slice Ao8 t405.length co8 : Value).ownBlock ∧ some k_ ≠ (v444 : Value).ownBlock)) (n := t413.length) (c := co118) ?_).2.2; exact (z_163)); (case side2 => exact z_158); rintro e w125 ⟨rfl, hb⟩; refine ⟨_, rfl, ?_⟩; have n0_ := Aside0.mk (Kd.Q_below (z_164) hb); have n1_ := Aside0.mk (Kd.R_below (z_165) hb); have n2_ := Aside0.mk (Kd.R_below (z_163) hb); have n3_ := Aside0.mk (Kd.R_below (z_166) hb); have n4_ := Aside0.mk (blk_below (g := gb422) (o := .cells #[.string t416, .int .i64 t417, .int .i64 t418, .string t419, .int .i64 t420] 26 (0, 0)) (z_167) hb); have n5_ := Aside0.mk (blk_below (g := gb432) (o := .cells #[.string t426, .int .i64 t427, .int .i64 t428, .string t429, .int .i64 t430] 26 (0, 0)) (z_168) hb); have n6_ := Aside0.mk (blk_below (g := gb440) (o := .cells #[.string t434, .int .i64 t435, .int .i64 t436, .string t437, .int .i64 t438] 26 (0, 0)) (z_169) hb); have n7_ := Aside0.mk (blk_below (g := gb452) (o := .cells #[.string t446, .int .i64 t447, .int .i64 t448, .string t449, .int .i64 t450] 26 (0, 0)) (z_170) hb); have n8_ := Aside0.mk (below_step (z_171) hb); clear HO_3; clear HO_4; clear HO_7; clear HO445; clear BK422; clear BK432; clear BK440; clear BK452; clear HB; have HO_3 := n0_; have HO_4 := n1_; have HO_7 := n2_; have HO445 := n3_; have BK422 := n4_; have BK432 := n5_; have BK440 := n6_; have BK452 := n7_; have HB := n8_; clear n0_ n1_ n2_ n3_ n4_ n5_ n6_ n7_ n8_; (try clear hb); (try clear hb2); (try clear hk); (try clear hi); have hcz126_0 : w125.cell? ⟨gb452, 0, none⟩ = some (.string t446) := (blk_cell BK452.out 0).trans rfl; have hcz126_1 : w125.cell? ⟨gb452, 1, none⟩ = some (.int .i64 t447) := (blk_cell BK452.out 1).trans rfl; have hcz126_2 : w125.cell? ⟨gb452, 2, none⟩ = some (.int .i64 t448) := (blk_cell BK452.out 2).trans rfl; have hcz126_3 : w125.cell? ⟨gb452, 3, none⟩ = some (.string t449) := (blk_cell BK452.out 3).trans rfl; have hcz126_4 : w125.cell? ⟨gb452, 4, none⟩ = some (.int .i64 t450) := (blk_cell BK452.out 4).trans rfl; have hfz126_0 := blk_frozen BK452.out 0; have hfz126_1 := blk_frozen BK452.out 1; have hfz126_2 := blk_frozen BK452.out 2; have hfz126_3 := blk_frozen BK452.out 3; have hfz126_4 := blk_frozen BK452.out 4; have hnb127 := NB422_432.out; have hnc127 := NB432_422.out; have hnb128 := NB422_440.out; have hnc128 := NB440_422.out; have hcz129_0 : w125.cell? ⟨gb422, 0, none⟩ = some (.string t416) := (blk_cell BK422.out 0).trans rfl; have hcz129_1 : w125.cell? ⟨gb422, 1, none⟩ = some (.int .i64 t417) := (blk_cell BK422.out 1).trans rfl; have hcz129_2 : w125.cell? ⟨gb422, 2, none⟩ = some (.int .i64 t418) := (blk_cell BK422.out 2).trans rfl; have hcz129_3 : w125.cell? ⟨gb422, 3, none⟩ = some (.string t419) := (blk_cell BK422.out 3).trans rfl; have hcz129_4 : w125.cell? ⟨gb422, 4, none⟩ = some (.int .i64 t420) := (blk_cell BK422.out 4).trans rfl; have hfz129_0 := blk_frozen BK422.out 0; have hfz129_1 := blk_frozen BK422.out 1; have hfz129_2 := blk_frozen BK422.out 2; have hfz129_3 := blk_frozen BK422.out 3; have hfz129_4 := blk_frozen BK422.out 4; obtain ⟨Ao130, co130, eo130⟩ := Kd.R_slice HO445.out; subst eo130) | (go_at_call 46; (with_reducible refine (laws_sameKept.calls kj29 _ _ t443 _ _ t413 false _ ?side1 ?side2 ?side3 ?side4 A52.out).mono ?_); (case side1 => exact z_172); (case side2 => exact z_173); (case side3 => exact z_157); (case side4 => exact z_158); rintro e w' ⟨rfl, ⟨nd, rfl⟩⟩))
            go_ret
            exact ⟨z_13, z_171⟩
          ·rw [if_neg c51] at H
           have c51b0 : (t446.toList == t416.toList && (t447 == t417 && (t448 == t418 && (t449.toList == t419.toList && (t450 == t420))))) = false := by simpa using c51
           (try (have c51b1 : decide (t446.toList = t416.toList && (t447 == t417 && (t448 == t418 && (t449.toList == t419.toList && (t450 == t420))))) = false := by simpa using c51))
           (try (have c51b2 : (t446.toList == t416.toList && (t447 == t417 && (t448 == t418 && (t449.toList == t419.toList && (t450 == t420))))) = false := by simpa using c51))
           (try (have c51b3 : ¬ (t446.toList = t416.toList && (t447 == t417 && (t448 == t418 && (t449.toList == t419.toList && (t450 == t420))))) := by simpa using c51))
           clear c51
           obtain rfl := Option.some.inj H
           obtain ⟨Ao131, co131, eo131⟩ := Kd.R_slice HO_7.out
           subst eo131
           go_wp2_with (first | ((with_reducible refine gate_callee (f := 44) rfl ?_); refine goesL_ (some 88) rfl rfl Try.func44 (z_0) rfl #[.slice Ao131 t413.length co131, .slice Ao9 t406.length co9, .string t407, .int .i64 t408] rfl (z_14) ?_; (with_reducible refine (impl_KeptAsk.calls kj29 _ _ t413 _ _ t406 t407 t408 t443 t446 t447 t448 t449 t450 true _ ?side1 ?side2 ?side3 ?side4 A47.out).mono ?_); (case side1 => exact z_157); (case side2 => exact z_158); (case side3 => exact z_142); (case side4 => exact z_143); rintro e w132 ⟨v444, rfl, ho0, hb⟩; refine ⟨_, rfl, ?_⟩; have n0_ := Aside0.mk (Kd.Q_elder' (z_144) (Kd.R_base ho0) hb); have n1_ := Aside0.mk (Kd.R_below (z_145) hb); have n2_ := Aside0.mk (Kd.R_elder' (z_146) (Kd.R_base ho0) hb); have n3_ := Aside0.mk (Kd.R_lower (Kd.R_new' (Kd.R_new' ho0 (Kd.Q_lt (z_144))) (Kd.R_lt (z_146))) (below_size (z_155))); have n4_ := Aside0.mk (blk_below (g := gb422) (o := .cells #[.string t416, .int .i64 t417, .int .i64 t418, .string t419, .int .i64 t420] 26 (0, 0)) (z_132) hb); have n5_ := Aside0.mk (blk_below (g := gb432) (o := .cells #[.string t426, .int .i64 t427, .int .i64 t428, .string t429, .int .i64 t430] 26 (0, 0)) (z_147) hb); have n6_ := Aside0.mk (blk_below (g := gb440) (o := .cells #[.string t434, .int .i64 t435, .int .i64 t436, .string t437, .int .i64 t438] 26 (0, 0)) (z_156) hb); have n7_ := Aside0.mk (below_step (z_155) hb); clear HO_3; clear HO_4; clear HO_7; clear BK422; clear BK432; clear BK440; clear HB; have HO_3 := n0_; have HO_4 := n1_; have HO_7 := n2_; have HO445 := n3_; have BK422 := n4_; have BK432 := n5_; have BK440 := n6_; have HB := n7_; clear n0_ n1_ n2_ n3_ n4_ n5_ n6_ n7_; (try clear hb); (try clear hb2); (try clear hk); (try clear hi); (try clear ho0)) | ((with_reducible refine gate_dst (N := 16) rfl ?_); refine box_event ?hg (N := 16) ?hd (cs := #[.string (⟨#[]⟩ : ByteArray), .int .i64 0, .int .i64 0, .string (⟨#[]⟩ : ByteArray), .int .i64 0]) (t := 26) ?hr ?_; (case hd => rfl); (case hg => rfl); (case hr => exact z_9); intro gb452 hg w133 hbox hb; have n0_ := Aside0.mk (Kd.Q_below (z_144) hb); have n1_ := Aside0.mk (Kd.R_below (Kd.R_elderB (z_145) gb452 (Nat.le_of_eq hg.symm)) hb); have n2_ := Aside0.mk (Kd.R_below (z_146) hb); have n3_ := Aside0.mk (Kd.R_below (z_159) hb); have n4_ := Aside0.mk (blk_below (g := gb422) (o := .cells #[.string t416, .int .i64 t417, .int .i64 t418, .string t419, .int .i64 t420] 26 (0, 0)) (z_132) hb); have n5_ := Aside0.mk (blk_below (g := gb432) (o := .cells #[.string t426, .int .i64 t427, .int .i64 t428, .string t429, .int .i64 t430] 26 (0, 0)) (z_147) hb); have n6_ := Aside0.mk (blk_below (g := gb440) (o := .cells #[.string t434, .int .i64 t435, .int .i64 t436, .string t437, .int .i64 t438] 26 (0, 0)) (z_156) hb); have n7_ := Aside0.mk (below_step (z_155) hb); have n8_ := Aside0.mk (hbox); have n9_ := Aside0.mk ((z_160 : w.heap.size ≤ gb452)); have n10_ := Aside0.mk ((z_160 : w.heap.size ≤ gb452)); have n11_ := Aside0.mk ((z_134 : gb422 ≠ gb452)); have n12_ := Aside0.mk ((z_135 : gb452 ≠ gb422)); have n13_ := Aside0.mk ((z_149 : gb432 ≠ gb452)); have n14_ := Aside0.mk ((z_150 : gb452 ≠ gb432)); have n15_ := Aside0.mk ((z_161 : gb440 ≠ gb452)); have n16_ := Aside0.mk ((z_162 : gb452 ≠ gb440)); clear HO_3; clear HO_4; clear HO_7; clear HO445; clear BK422; clear BK432; clear BK440; clear HB; have HO_3 := n0_; have HO_4 := n1_; have HO_7 := n2_; have HO445 := n3_; have BK422 := n4_; have BK432 := n5_; have BK440 := n6_; have HB := n7_; have BK452 := n8_; have GW452 := n9_; have GE452 := n10_; have NB422_452 := n11_; have NB452_422 := n12_; have NB432_452 := n13_; have NB452_432 := n14_; have NB440_452 := n15_; have NB452_440 := n16_; clear n0_ n1_ n2_ n3_ n4_ n5_ n6_ n7_ n8_ n9_ n10_ n11_ n12_ n13_ n14_ n15_ n16_; clear hb hbox hg; have hnb134 := NB452_422.out; have hnc134 := NB422_452.out; have hnb135 := NB452_432.out; have hnc135 := NB432_452.out; have hnb136 := NB452_440.out; have hnc136 := NB440_452.out; have hcz137_0 : w133.cell? ⟨gb452, 0, none⟩ = some (.string (⟨#[]⟩ : ByteArray)) := (blk_cell BK452.out 0).trans rfl; have hcz137_1 : w133.cell? ⟨gb452, 1, none⟩ = some (.int .i64 0) := (blk_cell BK452.out 1).trans rfl; have hcz137_2 : w133.cell? ⟨gb452, 2, none⟩ = some (.int .i64 0) := (blk_cell BK452.out 2).trans rfl; have hcz137_3 : w133.cell? ⟨gb452, 3, none⟩ = some (.string (⟨#[]⟩ : ByteArray)) := (blk_cell BK452.out 3).trans rfl; have hcz137_4 : w133.cell? ⟨gb452, 4, none⟩ = some (.int .i64 0) := (blk_cell BK452.out 4).trans rfl; have hfz137_0 := blk_frozen BK452.out 0; have hfz137_1 := blk_frozen BK452.out 1; have hfz137_2 := blk_frozen BK452.out 2; have hfz137_3 := blk_frozen BK452.out 3; have hfz137_4 := blk_frozen BK452.out 4) | ((with_reducible refine gate_callee (f := 36) rfl ?_); refine goesL_ (some 93) rfl rfl Try.func36 (z_0) rfl #[.slice Ao131 t413.length co131] rfl (z_14) ?_; (with_reducible refine (impl_KeptOk.calls kj29 _ _ t413 true _ ?side1 ?side2 A48.out).mono ?_); (case side1 => refine (Kd.R_reads' (e := 83) (base := w.heap.size) (ok := fun k_ => (some k_ ≠ (.slice Ao8 t405.length co8 : Value).ownBlock ∧ some k_ ≠ (v444 : Value).ownBlock)) (n := t413.length) (c := co131) ?_).2.2; exact (z_163)); (case side2 => exact z_158); rintro e w138 ⟨rfl, hb⟩; refine ⟨_, rfl, ?_⟩; have n0_ := Aside0.mk (Kd.Q_below (z_164) hb); have n1_ := Aside0.mk (Kd.R_below (z_165) hb); have n2_ := Aside0.mk (Kd.R_below (z_163) hb); have n3_ := Aside0.mk (Kd.R_below (z_166) hb); have n4_ := Aside0.mk (blk_below (g := gb422) (o := .cells #[.string t416, .int .i64 t417, .int .i64 t418, .string t419, .int .i64 t420] 26 (0, 0)) (z_167) hb); have n5_ := Aside0.mk (blk_below (g := gb432) (o := .cells #[.string t426, .int .i64 t427, .int .i64 t428, .string t429, .int .i64 t430] 26 (0, 0)) (z_168) hb); have n6_ := Aside0.mk (blk_below (g := gb440) (o := .cells #[.string t434, .int .i64 t435, .int .i64 t436, .string t437, .int .i64 t438] 26 (0, 0)) (z_169) hb); have n7_ := Aside0.mk (blk_below (g := gb452) (o := .cells #[.string t446, .int .i64 t447, .int .i64 t448, .string t449, .int .i64 t450] 26 (0, 0)) (z_170) hb); have n8_ := Aside0.mk (below_step (z_171) hb); clear HO_3; clear HO_4; clear HO_7; clear HO445; clear BK422; clear BK432; clear BK440; clear BK452; clear HB; have HO_3 := n0_; have HO_4 := n1_; have HO_7 := n2_; have HO445 := n3_; have BK422 := n4_; have BK432 := n5_; have BK440 := n6_; have BK452 := n7_; have HB := n8_; clear n0_ n1_ n2_ n3_ n4_ n5_ n6_ n7_ n8_; (try clear hb); (try clear hb2); (try clear hk); (try clear hi); have hcz139_0 : w138.cell? ⟨gb452, 0, none⟩ = some (.string t446) := (blk_cell BK452.out 0).trans rfl; have hcz139_1 : w138.cell? ⟨gb452, 1, none⟩ = some (.int .i64 t447) := (blk_cell BK452.out 1).trans rfl; have hcz139_2 : w138.cell? ⟨gb452, 2, none⟩ = some (.int .i64 t448) := (blk_cell BK452.out 2).trans rfl; have hcz139_3 : w138.cell? ⟨gb452, 3, none⟩ = some (.string t449) := (blk_cell BK452.out 3).trans rfl; have hcz139_4 : w138.cell? ⟨gb452, 4, none⟩ = some (.int .i64 t450) := (blk_cell BK452.out 4).trans rfl; have hfz139_0 := blk_frozen BK452.out 0; have hfz139_1 := blk_frozen BK452.out 1; have hfz139_2 := blk_frozen BK452.out 2; have hfz139_3 := blk_frozen BK452.out 3; have hfz139_4 := blk_frozen BK452.out 4; have hnb140 := NB422_432.out; have hnc140 := NB432_422.out; have hnb141 := NB422_440.out; have hnc141 := NB440_422.out; have hcz142_0 : w138.cell? ⟨gb422, 0, none⟩ = some (.string t416) := (blk_cell BK422.out 0).trans rfl; have hcz142_1 : w138.cell? ⟨gb422, 1, none⟩ = some (.int .i64 t417) := (blk_cell BK422.out 1).trans rfl; have hcz142_2 : w138.cell? ⟨gb422, 2, none⟩ = some (.int .i64 t418) := (blk_cell BK422.out 2).trans rfl; have hcz142_3 : w138.cell? ⟨gb422, 3, none⟩ = some (.string t419) := (blk_cell BK422.out 3).trans rfl; have hcz142_4 : w138.cell? ⟨gb422, 4, none⟩ = some (.int .i64 t420) := (blk_cell BK422.out 4).trans rfl; have hfz142_0 := blk_frozen BK422.out 0; have hfz142_1 := blk_frozen BK422.out 1; have hfz142_2 := blk_frozen BK422.out 2; have hfz142_3 := blk_frozen BK422.out 3; have hfz142_4 := blk_frozen BK422.out 4))
           go_ret
           exact ⟨z_13, z_171⟩
         ·replace c50 := Bool.eq_false_iff.mpr c50
          subst c50
          rw [if_neg (show ¬ (false = true) by decide)] at H
          obtain rfl := Option.some.inj H
          obtain ⟨Ao143, co143, eo143⟩ := Kd.R_slice HO_7.out
          subst eo143
          go_wp2_with (first | ((with_reducible refine gate_callee (f := 44) rfl ?_); refine goesL_ (some 88) rfl rfl Try.func44 (z_0) rfl #[.slice Ao143 t413.length co143, .slice Ao9 t406.length co9, .string t407, .int .i64 t408] rfl (z_14) ?_; (with_reducible refine (impl_KeptAsk.calls kj29 _ _ t413 _ _ t406 t407 t408 t443 t446 t447 t448 t449 t450 false _ ?side1 ?side2 ?side3 ?side4 A47.out).mono ?_); (case side1 => exact z_157); (case side2 => exact z_158); (case side3 => exact z_142); (case side4 => exact z_143); rintro e w144 ⟨v444, rfl, ho0, hb⟩; refine ⟨_, rfl, ?_⟩; have n0_ := Aside0.mk (Kd.Q_elder' (z_144) (Kd.R_base ho0) hb); have n1_ := Aside0.mk (Kd.R_below (z_145) hb); have n2_ := Aside0.mk (Kd.R_elder' (z_146) (Kd.R_base ho0) hb); have n3_ := Aside0.mk (Kd.R_lower (Kd.R_new' (Kd.R_new' ho0 (Kd.Q_lt (z_144))) (Kd.R_lt (z_146))) (below_size (z_155))); have n4_ := Aside0.mk (blk_below (g := gb422) (o := .cells #[.string t416, .int .i64 t417, .int .i64 t418, .string t419, .int .i64 t420] 26 (0, 0)) (z_132) hb); have n5_ := Aside0.mk (blk_below (g := gb432) (o := .cells #[.string t426, .int .i64 t427, .int .i64 t428, .string t429, .int .i64 t430] 26 (0, 0)) (z_147) hb); have n6_ := Aside0.mk (blk_below (g := gb440) (o := .cells #[.string t434, .int .i64 t435, .int .i64 t436, .string t437, .int .i64 t438] 26 (0, 0)) (z_156) hb); have n7_ := Aside0.mk (below_step (z_155) hb); clear HO_3; clear HO_4; clear HO_7; clear BK422; clear BK432; clear BK440; clear HB; have HO_3 := n0_; have HO_4 := n1_; have HO_7 := n2_; have HO445 := n3_; have BK422 := n4_; have BK432 := n5_; have BK440 := n6_; have HB := n7_; clear n0_ n1_ n2_ n3_ n4_ n5_ n6_ n7_; (try clear hb); (try clear hb2); (try clear hk); (try clear hi); (try clear ho0)) | ((with_reducible refine gate_dst (N := 16) rfl ?_); refine box_event ?hg (N := 16) ?hd (cs := #[.string (⟨#[]⟩ : ByteArray), .int .i64 0, .int .i64 0, .string (⟨#[]⟩ : ByteArray), .int .i64 0]) (t := 26) ?hr ?_; (case hd => rfl); (case hg => rfl); (case hr => exact z_9); intro gb452 hg w145 hbox hb; have n0_ := Aside0.mk (Kd.Q_below (z_144) hb); have n1_ := Aside0.mk (Kd.R_below (Kd.R_elderB (z_145) gb452 (Nat.le_of_eq hg.symm)) hb); have n2_ := Aside0.mk (Kd.R_below (z_146) hb); have n3_ := Aside0.mk (Kd.R_below (z_159) hb); have n4_ := Aside0.mk (blk_below (g := gb422) (o := .cells #[.string t416, .int .i64 t417, .int .i64 t418, .string t419, .int .i64 t420] 26 (0, 0)) (z_132) hb); have n5_ := Aside0.mk (blk_below (g := gb432) (o := .cells #[.string t426, .int .i64 t427, .int .i64 t428, .string t429, .int .i64 t430] 26 (0, 0)) (z_147) hb); have n6_ := Aside0.mk (blk_below (g := gb440) (o := .cells #[.string t434, .int .i64 t435, .int .i64 t436, .string t437, .int .i64 t438] 26 (0, 0)) (z_156) hb); have n7_ := Aside0.mk (below_step (z_155) hb); have n8_ := Aside0.mk (hbox); have n9_ := Aside0.mk ((z_160 : w.heap.size ≤ gb452)); have n10_ := Aside0.mk ((z_160 : w.heap.size ≤ gb452)); have n11_ := Aside0.mk ((z_134 : gb422 ≠ gb452)); have n12_ := Aside0.mk ((z_135 : gb452 ≠ gb422)); have n13_ := Aside0.mk ((z_149 : gb432 ≠ gb452)); have n14_ := Aside0.mk ((z_150 : gb452 ≠ gb432)); have n15_ := Aside0.mk ((z_161 : gb440 ≠ gb452)); have n16_ := Aside0.mk ((z_162 : gb452 ≠ gb440)); clear HO_3; clear HO_4; clear HO_7; clear HO445; clear BK422; clear BK432; clear BK440; clear HB; have HO_3 := n0_; have HO_4 := n1_; have HO_7 := n2_; have HO445 := n3_; have BK422 := n4_; have BK432 := n5_; have BK440 := n6_; have HB := n7_; have BK452 := n8_; have GW452 := n9_; have GE452 := n10_; have NB422_452 := n11_; have NB452_422 := n12_; have NB432_452 := n13_; have NB452_432 := n14_; have NB440_452 := n15_; have NB452_440 := n16_; clear n0_ n1_ n2_ n3_ n4_ n5_ n6_ n7_ n8_ n9_ n10_ n11_ n12_ n13_ n14_ n15_ n16_; clear hb hbox hg; have hnb146 := NB452_422.out; have hnc146 := NB422_452.out; have hnb147 := NB452_432.out; have hnc147 := NB432_452.out; have hnb148 := NB452_440.out; have hnc148 := NB440_452.out; have hcz149_0 : w145.cell? ⟨gb452, 0, none⟩ = some (.string (⟨#[]⟩ : ByteArray)) := (blk_cell BK452.out 0).trans rfl; have hcz149_1 : w145.cell? ⟨gb452, 1, none⟩ = some (.int .i64 0) := (blk_cell BK452.out 1).trans rfl; have hcz149_2 : w145.cell? ⟨gb452, 2, none⟩ = some (.int .i64 0) := (blk_cell BK452.out 2).trans rfl; have hcz149_3 : w145.cell? ⟨gb452, 3, none⟩ = some (.string (⟨#[]⟩ : ByteArray)) := (blk_cell BK452.out 3).trans rfl; have hcz149_4 : w145.cell? ⟨gb452, 4, none⟩ = some (.int .i64 0) := (blk_cell BK452.out 4).trans rfl; have hfz149_0 := blk_frozen BK452.out 0; have hfz149_1 := blk_frozen BK452.out 1; have hfz149_2 := blk_frozen BK452.out 2; have hfz149_3 := blk_frozen BK452.out 3; have hfz149_4 := blk_frozen BK452.out 4) | ((with_reducible refine gate_callee (f := 36) rfl ?_); refine goesL_ (some 93) rfl rfl Try.func36 (z_0) rfl #[.slice Ao143 t413.length co143] rfl (z_14) ?_; (with_reducible refine (impl_KeptOk.calls kj29 _ _ t413 true _ ?side1 ?side2 A48.out).mono ?_); (case side1 => refine (Kd.R_reads' (e := 83) (base := w.heap.size) (ok := fun k_ => (some k_ ≠ (.slice Ao8 t405.length co8 : Value).ownBlock ∧ some k_ ≠ (v444 : Value).ownBlock)) (n := t413.length) (c := co143) ?_).2.2; exact (z_163)); (case side2 => exact z_158); rintro e w150 ⟨rfl, hb⟩; refine ⟨_, rfl, ?_⟩; have n0_ := Aside0.mk (Kd.Q_below (z_164) hb); have n1_ := Aside0.mk (Kd.R_below (z_165) hb); have n2_ := Aside0.mk (Kd.R_below (z_163) hb); have n3_ := Aside0.mk (Kd.R_below (z_166) hb); have n4_ := Aside0.mk (blk_below (g := gb422) (o := .cells #[.string t416, .int .i64 t417, .int .i64 t418, .string t419, .int .i64 t420] 26 (0, 0)) (z_167) hb); have n5_ := Aside0.mk (blk_below (g := gb432) (o := .cells #[.string t426, .int .i64 t427, .int .i64 t428, .string t429, .int .i64 t430] 26 (0, 0)) (z_168) hb); have n6_ := Aside0.mk (blk_below (g := gb440) (o := .cells #[.string t434, .int .i64 t435, .int .i64 t436, .string t437, .int .i64 t438] 26 (0, 0)) (z_169) hb); have n7_ := Aside0.mk (blk_below (g := gb452) (o := .cells #[.string t446, .int .i64 t447, .int .i64 t448, .string t449, .int .i64 t450] 26 (0, 0)) (z_170) hb); have n8_ := Aside0.mk (below_step (z_171) hb); clear HO_3; clear HO_4; clear HO_7; clear HO445; clear BK422; clear BK432; clear BK440; clear BK452; clear HB; have HO_3 := n0_; have HO_4 := n1_; have HO_7 := n2_; have HO445 := n3_; have BK422 := n4_; have BK432 := n5_; have BK440 := n6_; have BK452 := n7_; have HB := n8_; clear n0_ n1_ n2_ n3_ n4_ n5_ n6_ n7_ n8_; (try clear hb); (try clear hb2); (try clear hk); (try clear hi)))
          go_ret
          exact ⟨z_13, z_171⟩
        ·replace c49 := Bool.eq_false_iff.mpr c49
         subst c49
         rw [if_neg (show ¬ (false = true) by decide)] at H
         obtain rfl := Option.some.inj H
         obtain ⟨Ao151, co151, eo151⟩ := Kd.R_slice HO_7.out
         subst eo151
         go_wp2_with (first | ((with_reducible refine gate_callee (f := 44) rfl ?_); refine goesL_ (some 88) rfl rfl Try.func44 (z_0) rfl #[.slice Ao151 t413.length co151, .slice Ao9 t406.length co9, .string t407, .int .i64 t408] rfl (z_14) ?_; (with_reducible refine (impl_KeptAsk.calls kj29 _ _ t413 _ _ t406 t407 t408 t443 t446 t447 t448 t449 t450 t451 _ ?side1 ?side2 ?side3 ?side4 A47.out).mono ?_); (case side1 => exact z_157); (case side2 => exact z_158); (case side3 => exact z_142); (case side4 => exact z_143); rintro e w152 ⟨v444, rfl, ho0, hb⟩; refine ⟨_, rfl, ?_⟩; have n0_ := Aside0.mk (Kd.Q_elder' (z_144) (Kd.R_base ho0) hb); have n1_ := Aside0.mk (Kd.R_below (z_145) hb); have n2_ := Aside0.mk (Kd.R_elder' (z_146) (Kd.R_base ho0) hb); have n3_ := Aside0.mk (Kd.R_lower (Kd.R_new' (Kd.R_new' ho0 (Kd.Q_lt (z_144))) (Kd.R_lt (z_146))) (below_size (z_155))); have n4_ := Aside0.mk (blk_below (g := gb422) (o := .cells #[.string t416, .int .i64 t417, .int .i64 t418, .string t419, .int .i64 t420] 26 (0, 0)) (z_132) hb); have n5_ := Aside0.mk (blk_below (g := gb432) (o := .cells #[.string t426, .int .i64 t427, .int .i64 t428, .string t429, .int .i64 t430] 26 (0, 0)) (z_147) hb); have n6_ := Aside0.mk (blk_below (g := gb440) (o := .cells #[.string t434, .int .i64 t435, .int .i64 t436, .string t437, .int .i64 t438] 26 (0, 0)) (z_156) hb); have n7_ := Aside0.mk (below_step (z_155) hb); clear HO_3; clear HO_4; clear HO_7; clear BK422; clear BK432; clear BK440; clear HB; have HO_3 := n0_; have HO_4 := n1_; have HO_7 := n2_; have HO445 := n3_; have BK422 := n4_; have BK432 := n5_; have BK440 := n6_; have HB := n7_; clear n0_ n1_ n2_ n3_ n4_ n5_ n6_ n7_; (try clear hb); (try clear hb2); (try clear hk); (try clear hi); (try clear ho0)) | ((with_reducible refine gate_dst (N := 16) rfl ?_); refine box_event ?hg (N := 16) ?hd (cs := #[.string (⟨#[]⟩ : ByteArray), .int .i64 0, .int .i64 0, .string (⟨#[]⟩ : ByteArray), .int .i64 0]) (t := 26) ?hr ?_; (case hd => rfl); (case hg => rfl); (case hr => exact z_9); intro gb452 hg w153 hbox hb; have n0_ := Aside0.mk (Kd.Q_below (z_144) hb); have n1_ := Aside0.mk (Kd.R_below (Kd.R_elderB (z_145) gb452 (Nat.le_of_eq hg.symm)) hb); have n2_ := Aside0.mk (Kd.R_below (z_146) hb); have n3_ := Aside0.mk (Kd.R_below (z_159) hb); have n4_ := Aside0.mk (blk_below (g := gb422) (o := .cells #[.string t416, .int .i64 t417, .int .i64 t418, .string t419, .int .i64 t420] 26 (0, 0)) (z_132) hb); have n5_ := Aside0.mk (blk_below (g := gb432) (o := .cells #[.string t426, .int .i64 t427, .int .i64 t428, .string t429, .int .i64 t430] 26 (0, 0)) (z_147) hb); have n6_ := Aside0.mk (blk_below (g := gb440) (o := .cells #[.string t434, .int .i64 t435, .int .i64 t436, .string t437, .int .i64 t438] 26 (0, 0)) (z_156) hb); have n7_ := Aside0.mk (below_step (z_155) hb); have n8_ := Aside0.mk (hbox); have n9_ := Aside0.mk ((z_160 : w.heap.size ≤ gb452)); have n10_ := Aside0.mk ((z_160 : w.heap.size ≤ gb452)); have n11_ := Aside0.mk ((z_134 : gb422 ≠ gb452)); have n12_ := Aside0.mk ((z_135 : gb452 ≠ gb422)); have n13_ := Aside0.mk ((z_149 : gb432 ≠ gb452)); have n14_ := Aside0.mk ((z_150 : gb452 ≠ gb432)); have n15_ := Aside0.mk ((z_161 : gb440 ≠ gb452)); have n16_ := Aside0.mk ((z_162 : gb452 ≠ gb440)); clear HO_3; clear HO_4; clear HO_7; clear HO445; clear BK422; clear BK432; clear BK440; clear HB; have HO_3 := n0_; have HO_4 := n1_; have HO_7 := n2_; have HO445 := n3_; have BK422 := n4_; have BK432 := n5_; have BK440 := n6_; have HB := n7_; have BK452 := n8_; have GW452 := n9_; have GE452 := n10_; have NB422_452 := n11_; have NB452_422 := n12_; have NB432_452 := n13_; have NB452_432 := n14_; have NB440_452 := n15_; have NB452_440 := n16_; clear n0_ n1_ n2_ n3_ n4_ n5_ n6_ n7_ n8_ n9_ n10_ n11_ n12_ n13_ n14_ n15_ n16_; clear hb hbox hg; have hnb154 := NB452_422.out; have hnc154 := NB422_452.out; have hnb155 := NB452_432.out; have hnc155 := NB432_452.out; have hnb156 := NB452_440.out; have hnc156 := NB440_452.out; have hcz157_0 : w153.cell? ⟨gb452, 0, none⟩ = some (.string (⟨#[]⟩ : ByteArray)) := (blk_cell BK452.out 0).trans rfl; have hcz157_1 : w153.cell? ⟨gb452, 1, none⟩ = some (.int .i64 0) := (blk_cell BK452.out 1).trans rfl; have hcz157_2 : w153.cell? ⟨gb452, 2, none⟩ = some (.int .i64 0) := (blk_cell BK452.out 2).trans rfl; have hcz157_3 : w153.cell? ⟨gb452, 3, none⟩ = some (.string (⟨#[]⟩ : ByteArray)) := (blk_cell BK452.out 3).trans rfl; have hcz157_4 : w153.cell? ⟨gb452, 4, none⟩ = some (.int .i64 0) := (blk_cell BK452.out 4).trans rfl; have hfz157_0 := blk_frozen BK452.out 0; have hfz157_1 := blk_frozen BK452.out 1; have hfz157_2 := blk_frozen BK452.out 2; have hfz157_3 := blk_frozen BK452.out 3; have hfz157_4 := blk_frozen BK452.out 4) | ((with_reducible refine gate_callee (f := 36) rfl ?_); refine goesL_ (some 93) rfl rfl Try.func36 (z_0) rfl #[.slice Ao151 t413.length co151] rfl (z_14) ?_; (with_reducible refine (impl_KeptOk.calls kj29 _ _ t413 false _ ?side1 ?side2 A48.out).mono ?_); (case side1 => refine (Kd.R_reads' (e := 83) (base := w.heap.size) (ok := fun k_ => (some k_ ≠ (.slice Ao8 t405.length co8 : Value).ownBlock ∧ some k_ ≠ (v444 : Value).ownBlock)) (n := t413.length) (c := co151) ?_).2.2; exact (z_163)); (case side2 => exact z_158); rintro e w158 ⟨rfl, hb⟩; refine ⟨_, rfl, ?_⟩; have n0_ := Aside0.mk (Kd.Q_below (z_164) hb); have n1_ := Aside0.mk (Kd.R_below (z_165) hb); have n2_ := Aside0.mk (Kd.R_below (z_163) hb); have n3_ := Aside0.mk (Kd.R_below (z_166) hb); have n4_ := Aside0.mk (blk_below (g := gb422) (o := .cells #[.string t416, .int .i64 t417, .int .i64 t418, .string t419, .int .i64 t420] 26 (0, 0)) (z_167) hb); have n5_ := Aside0.mk (blk_below (g := gb432) (o := .cells #[.string t426, .int .i64 t427, .int .i64 t428, .string t429, .int .i64 t430] 26 (0, 0)) (z_168) hb); have n6_ := Aside0.mk (blk_below (g := gb440) (o := .cells #[.string t434, .int .i64 t435, .int .i64 t436, .string t437, .int .i64 t438] 26 (0, 0)) (z_169) hb); have n7_ := Aside0.mk (blk_below (g := gb452) (o := .cells #[.string t446, .int .i64 t447, .int .i64 t448, .string t449, .int .i64 t450] 26 (0, 0)) (z_170) hb); have n8_ := Aside0.mk (below_step (z_171) hb); clear HO_3; clear HO_4; clear HO_7; clear HO445; clear BK422; clear BK432; clear BK440; clear BK452; clear HB; have HO_3 := n0_; have HO_4 := n1_; have HO_7 := n2_; have HO445 := n3_; have BK422 := n4_; have BK432 := n5_; have BK440 := n6_; have BK452 := n7_; have HB := n8_; clear n0_ n1_ n2_ n3_ n4_ n5_ n6_ n7_ n8_; (try clear hb); (try clear hb2); (try clear hk); (try clear hi)))
         go_ret
         exact ⟨z_13, z_171⟩

/-- THE ONE PURE STATEMENT of laws_FnKeptAsk: yours. -/
def laws_FnKeptAsk.Pure : Prop := ∀ (l0 : List Int), l0.length ≤ maxLen → l0.length * 1 ≤ 140737488351232 → (∀ x ∈ l0, (Lit.int .u8 x).wf = true) → ∃ k, laws_FnKeptAsk.f k l0 = some true
theorem laws_FnKeptAsk.walk (P : laws_FnKeptAsk.Pure) (a0 : Option Addr) (len0 cap0 : Nat) (z0 : List Int) (w : World) (w0 : (a0 = none ∧ len0 = 0 ∧ cap0 = 0 ∧ z0 = []) ∨ ∃ x, a0 = some x ∧ len0 ≤ cap0 ∧ cap0 ≤ maxLen ∧ z0.length = cap0 ∧ (∀ i, i < z0.length → w.cell? (x.add i) = some (.int .u8 (z0.getD i 0))) ∧ ∀ n ∈ z0, (Lit.int .u8 n).wf = true) (y0 : len0 * 1 ≤ 140737488351232) :
  Calls Try.prog 14 #[.slice a0 len0 cap0] w fun e w' => e = .returned (.bool true) ∧ Below w.heap.size w w' := by
 obtain ⟨l0, rfl, hr0, hm0, hw0, hc0⟩ := ReadsInt.ofRowC w0
 obtain ⟨k, h⟩ := P l0 hm0 y0 hw0
 refine (laws_FnKeptAsk.calls k _ _ l0 true w (Kd.C_of_reads (d := (0 : Int)) (h1 := fun _ => rfl) hr0) hc0 h).mono ?_
 rintro e w' ⟨rfl, hd⟩
 exact ⟨rfl, hd⟩

end Go.Proofs.Ytmgnmgobibpjjaa.GFnKeptAsk
