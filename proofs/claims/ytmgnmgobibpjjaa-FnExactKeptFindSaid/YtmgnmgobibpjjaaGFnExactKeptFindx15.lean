/- What the Go functions that FnExactKeptFind reaches come to, walked step by step; there is no condition beyond those each statement names. -/
import Derived.Test.YtmgnmgobibpjjaaGFnExactKeptFindx0
import Derived.Test.YtmgnmgobibpjjaaGFnExactKeptFindx1
import Derived.Test.YtmgnmgobibpjjaaGFnExactKeptFindx2
import Derived.Test.YtmgnmgobibpjjaaGFnExactKeptFindx9
import Derived.Test.YtmgnmgobibpjjaaGFnExactKeptFindx13
import Derived.Test.YtmgnmgobibpjjaaGFnExactKeptFindx14
namespace Go.Proofs.Ytmgnmgobibpjjaa.GFnExactKeptFind
open Go.RowKit Go.Proofs.YtmgnmgobibpjjaaVExactKeptFind.PrintWords Go.Proofs.YtmgnmgobibpjjaaVExactKeptFind.PrintLast Go.Proofs.YtmgnmgobibpjjaaVExactKeptFind.PrintMore
attribute [local go_sem] max2_int min2_int max_two min_two max_three min_three max_four min_four   -- for this text's walks alone
set_option linter.unusedVariables false
set_option linter.unusedSimpArgs false

/-! ### laws_FnExactKeptFind: function 17 -/
mutual
def laws_FnExactKeptFind.j0 : Nat → List (S81) → List (S23) → ByteArray → Int → List (S83) → Int → Bool → List (S83) → List (S26) → List (S83) → Int → Bool → Bool → Option (Bool)
 | 0, _, _, _, _, _, _, _, _, _, _, _, _, _ => none
 | k + 1, x0, x1, x2, x3, x10, x11, x12, x13, x14, x15, x16, x17, x74 => if x74 = true then (some false) else ((laws_toKeptS.f k x0).bind fun t383 => ((laws_eqKeptS.f k x13 t383).bind fun t386 => (if t386 = true then ((laws_toNameS.f k x1).bind fun t387 => ((laws_eqNameS.f k x14 t387).bind fun t390 => (if t390 = true then ((laws_markKeptS.f k x13 1).bind fun bt391 => ((laws_markNameS.f k x14 bt391.1).bind fun bt393 => (if bt393.1 < 0 then (laws_FnExactKeptFind.j1 k x0 x1 x2 x3 x10 x11 x12 x15 true) else ((laws_eqKeptS.f k x15 x10).bind fun t395 => (if t395 = true then (if x16 = x11 then (laws_FnExactKeptFind.j1 k x0 x1 x2 x3 x10 x11 x12 x15 (x17 != x12)) else (laws_FnExactKeptFind.j1 k x0 x1 x2 x3 x10 x11 x12 x15 true)) else (laws_FnExactKeptFind.j1 k x0 x1 x2 x3 x10 x11 x12 x15 true)))))) else (some false)))) else (some false))))
def laws_FnExactKeptFind.j1 : Nat → List (S81) → List (S23) → ByteArray → Int → List (S83) → Int → Bool → List (S83) → Bool → Option (Bool)
 | 0, _, _, _, _, _, _, _, _, _ => none
 | k + 1, x0, x1, x2, x3, x10, x11, x12, x15, x108 => if x108 = true then (some false) else ((laws_markKeptS.f k x15 1).bind fun bt396 => ((laws_heldKeptS.f k bt396.2 1).bind fun t398 => (if t398 < 0 then (some false) else (if t398 = bt396.1 then ((laws_toKeptS.f k x0).bind fun t399 => ((laws_toNameS.f k x1).bind fun t402 => ((impl_KeptFind.f k t399 t402 x2 x3).bind fun bt405 => ((laws_eqKeptS.f k bt405.1 x10).bind fun t410 => (if t410 = true then (if bt405.2.1 = x11 then (laws_FnExactKeptFind.j2 k bt396.2 bt396.1 (bt405.2.2 != x12)) else (laws_FnExactKeptFind.j2 k bt396.2 bt396.1 true)) else (laws_FnExactKeptFind.j2 k bt396.2 bt396.1 true)))))) else (some false)))))
def laws_FnExactKeptFind.j2 : Nat → List (S83) → Int → Bool → Option (Bool)
 | 0, _, _, _ => none
 | k + 1, x15, x19, x144 => if x144 = true then (some false) else ((laws_heldKeptS.f k x15 1).bind fun t411 => (if t411 < 0 then (some false) else (if t411 = x19 then (some true) else (some false))))
end
def laws_FnExactKeptFind.f (k : Nat) (l0 : List (S81)) (l1 : List (S23)) (a2 : ByteArray) (a3 : Int) : Option (Bool) := if (a2.size : Int) > 1048576 then (some true) else ((laws_szKeptS.f k l0 1048576).bind fun t358 => (if t358 < 0 then (some true) else ((laws_szNameS.f k l1 t358).bind fun t359 => (if t359 < 0 then (some true) else ((laws_toKeptS.f k l0).bind fun t360 => ((laws_toNameS.f k l1).bind fun t363 => ((spec_KeptFind.f k t360 t363 a2 a3).bind fun bt366 => ((laws_toKeptS.f k l0).bind fun t371 => ((laws_toNameS.f k l1).bind fun t374 => ((impl_KeptFind.f k t371 t374 a2 a3).bind fun bt377 => ((laws_eqKeptS.f k bt377.1 bt366.1).bind fun t382 => (if t382 = true then (if bt377.2.1 = bt366.2.1 then (laws_FnExactKeptFind.j0 k l0 l1 a2 a3 bt366.1 bt366.2.1 bt366.2.2 t371 t374 bt377.1 bt377.2.1 bt377.2.2 (bt377.2.2 != bt366.2.2)) else (laws_FnExactKeptFind.j0 k l0 l1 a2 a3 bt366.1 bt366.2.1 bt366.2.2 t371 t374 bt377.1 bt377.2.1 bt377.2.2 true)) else (laws_FnExactKeptFind.j0 k l0 l1 a2 a3 bt366.1 bt366.2.1 bt366.2.2 t371 t374 bt377.1 bt377.2.1 bt377.2.2 true)))))))))))))
theorem laws_FnExactKeptFind.mono_l : ∀ k, (∀ y0 y1 y2 y3 y4 y5 y6 y7 y8 y9 y10 y11 y12, LeO (laws_FnExactKeptFind.j0 k y0 y1 y2 y3 y4 y5 y6 y7 y8 y9 y10 y11 y12) (laws_FnExactKeptFind.j0 (k + 1) y0 y1 y2 y3 y4 y5 y6 y7 y8 y9 y10 y11 y12)) ∧ (∀ y0 y1 y2 y3 y4 y5 y6 y7 y8, LeO (laws_FnExactKeptFind.j1 k y0 y1 y2 y3 y4 y5 y6 y7 y8) (laws_FnExactKeptFind.j1 (k + 1) y0 y1 y2 y3 y4 y5 y6 y7 y8)) ∧ (∀ y0 y1 y2, LeO (laws_FnExactKeptFind.j2 k y0 y1 y2) (laws_FnExactKeptFind.j2 (k + 1) y0 y1 y2))
 | 0 => ⟨fun _ _ _ _ _ _ _ _ _ _ _ _ _ r h => by simp [laws_FnExactKeptFind.j0] at h, fun _ _ _ _ _ _ _ _ _ r h => by simp [laws_FnExactKeptFind.j1] at h, fun _ _ _ r h => by simp [laws_FnExactKeptFind.j2] at h⟩
 | k + 1 => by
  obtain ⟨ih0, ih1, ih2⟩ := laws_FnExactKeptFind.mono_l k
  refine ⟨?_, ?_, ?_⟩
  ·intro y0 y1 y2 y3 y4 y5 y6 y7 y8 y9 y10 y11 y12
   unfold laws_FnExactKeptFind.j0
   repeat' first
   | (with_reducible exact ih0 _ _ _ _ _ _ _ _ _ _ _ _ _)
   | (with_reducible exact ih1 _ _ _ _ _ _ _ _ _)
   | (with_reducible exact ih2 _ _ _)
   | (with_reducible exact impl_KeptFind.mono _ _ _ _ _)
   | (with_reducible exact laws_eqKeptS.mono _ _ _)
   | (with_reducible exact laws_eqNameS.mono _ _ _)
   | (with_reducible exact laws_heldKeptS.mono _ _ _)
   | (with_reducible exact laws_markKeptS.mono _ _ _)
   | (with_reducible exact laws_markNameS.mono _ _ _)
   | (with_reducible exact laws_szKeptS.mono _ _ _)
   | (with_reducible exact laws_szNameS.mono _ _ _)
   | (with_reducible exact laws_toKeptS.mono _ _)
   | (with_reducible exact laws_toNameS.mono _ _)
   | (with_reducible exact spec_KeptFind.mono _ _ _ _ _)
   | (with_reducible exact LeO.refl _)
   | (with_reducible exact LeO.none _)
   | (with_reducible refine LeO.ite ?_ ?_)
   | (with_reducible refine LeO.bind ?_ (fun _ => ?_))
   | exact ih0 _ _ _ _ _ _ _ _ _ _ _ _ _
   | exact ih1 _ _ _ _ _ _ _ _ _
   | exact ih2 _ _ _
   | exact impl_KeptFind.mono _ _ _ _ _
   | exact laws_eqKeptS.mono _ _ _
   | exact laws_eqNameS.mono _ _ _
   | exact laws_heldKeptS.mono _ _ _
   | exact laws_markKeptS.mono _ _ _
   | exact laws_markNameS.mono _ _ _
   | exact laws_szKeptS.mono _ _ _
   | exact laws_szNameS.mono _ _ _
   | exact laws_toKeptS.mono _ _
   | exact laws_toNameS.mono _ _
   | exact spec_KeptFind.mono _ _ _ _ _
   | exact LeO.none _
   | refine LeO.ite ?_ ?_
   | refine LeO.bind ?_ (fun _ => ?_)
  ·intro y0 y1 y2 y3 y4 y5 y6 y7 y8
   unfold laws_FnExactKeptFind.j1
   repeat' first
   | (with_reducible exact ih0 _ _ _ _ _ _ _ _ _ _ _ _ _)
   | (with_reducible exact ih1 _ _ _ _ _ _ _ _ _)
   | (with_reducible exact ih2 _ _ _)
   | (with_reducible exact impl_KeptFind.mono _ _ _ _ _)
   | (with_reducible exact laws_eqKeptS.mono _ _ _)
   | (with_reducible exact laws_eqNameS.mono _ _ _)
   | (with_reducible exact laws_heldKeptS.mono _ _ _)
   | (with_reducible exact laws_markKeptS.mono _ _ _)
   | (with_reducible exact laws_markNameS.mono _ _ _)
   | (with_reducible exact laws_szKeptS.mono _ _ _)
   | (with_reducible exact laws_szNameS.mono _ _ _)
   | (with_reducible exact laws_toKeptS.mono _ _)
   | (with_reducible exact laws_toNameS.mono _ _)
   | (with_reducible exact spec_KeptFind.mono _ _ _ _ _)
   | (with_reducible exact LeO.refl _)
   | (with_reducible exact LeO.none _)
   | (with_reducible refine LeO.ite ?_ ?_)
   | (with_reducible refine LeO.bind ?_ (fun _ => ?_))
   | exact ih0 _ _ _ _ _ _ _ _ _ _ _ _ _
   | exact ih1 _ _ _ _ _ _ _ _ _
   | exact ih2 _ _ _
   | exact impl_KeptFind.mono _ _ _ _ _
   | exact laws_eqKeptS.mono _ _ _
   | exact laws_eqNameS.mono _ _ _
   | exact laws_heldKeptS.mono _ _ _
   | exact laws_markKeptS.mono _ _ _
   | exact laws_markNameS.mono _ _ _
   | exact laws_szKeptS.mono _ _ _
   | exact laws_szNameS.mono _ _ _
   | exact laws_toKeptS.mono _ _
   | exact laws_toNameS.mono _ _
   | exact spec_KeptFind.mono _ _ _ _ _
   | exact LeO.none _
   | refine LeO.ite ?_ ?_
   | refine LeO.bind ?_ (fun _ => ?_)
  ·intro y0 y1 y2
   unfold laws_FnExactKeptFind.j2
   repeat' first
   | (with_reducible exact ih0 _ _ _ _ _ _ _ _ _ _ _ _ _)
   | (with_reducible exact ih1 _ _ _ _ _ _ _ _ _)
   | (with_reducible exact ih2 _ _ _)
   | (with_reducible exact impl_KeptFind.mono _ _ _ _ _)
   | (with_reducible exact laws_eqKeptS.mono _ _ _)
   | (with_reducible exact laws_eqNameS.mono _ _ _)
   | (with_reducible exact laws_heldKeptS.mono _ _ _)
   | (with_reducible exact laws_markKeptS.mono _ _ _)
   | (with_reducible exact laws_markNameS.mono _ _ _)
   | (with_reducible exact laws_szKeptS.mono _ _ _)
   | (with_reducible exact laws_szNameS.mono _ _ _)
   | (with_reducible exact laws_toKeptS.mono _ _)
   | (with_reducible exact laws_toNameS.mono _ _)
   | (with_reducible exact spec_KeptFind.mono _ _ _ _ _)
   | (with_reducible exact LeO.refl _)
   | (with_reducible exact LeO.none _)
   | (with_reducible refine LeO.ite ?_ ?_)
   | (with_reducible refine LeO.bind ?_ (fun _ => ?_))
   | exact ih0 _ _ _ _ _ _ _ _ _ _ _ _ _
   | exact ih1 _ _ _ _ _ _ _ _ _
   | exact ih2 _ _ _
   | exact impl_KeptFind.mono _ _ _ _ _
   | exact laws_eqKeptS.mono _ _ _
   | exact laws_eqNameS.mono _ _ _
   | exact laws_heldKeptS.mono _ _ _
   | exact laws_markKeptS.mono _ _ _
   | exact laws_markNameS.mono _ _ _
   | exact laws_szKeptS.mono _ _ _
   | exact laws_szNameS.mono _ _ _
   | exact laws_toKeptS.mono _ _
   | exact laws_toNameS.mono _ _
   | exact spec_KeptFind.mono _ _ _ _ _
   | exact LeO.none _
   | refine LeO.ite ?_ ?_
   | refine LeO.bind ?_ (fun _ => ?_)
theorem laws_FnExactKeptFind.mono : ∀ a0 a1 a2 a3 k, LeO (laws_FnExactKeptFind.f k a0 a1 a2 a3) (laws_FnExactKeptFind.f (k + 1) a0 a1 a2 a3) := by
 intro a0 a1 a2 a3 k
 obtain ⟨ih0, ih1, ih2⟩ := laws_FnExactKeptFind.mono_l k
 unfold laws_FnExactKeptFind.f
 repeat' first
   | (with_reducible exact ih0 _ _ _ _ _ _ _ _ _ _ _ _ _)
   | (with_reducible exact ih1 _ _ _ _ _ _ _ _ _)
   | (with_reducible exact ih2 _ _ _)
   | (with_reducible exact impl_KeptFind.mono _ _ _ _ _)
   | (with_reducible exact laws_eqKeptS.mono _ _ _)
   | (with_reducible exact laws_eqNameS.mono _ _ _)
   | (with_reducible exact laws_heldKeptS.mono _ _ _)
   | (with_reducible exact laws_markKeptS.mono _ _ _)
   | (with_reducible exact laws_markNameS.mono _ _ _)
   | (with_reducible exact laws_szKeptS.mono _ _ _)
   | (with_reducible exact laws_szNameS.mono _ _ _)
   | (with_reducible exact laws_toKeptS.mono _ _)
   | (with_reducible exact laws_toNameS.mono _ _)
   | (with_reducible exact spec_KeptFind.mono _ _ _ _ _)
   | (with_reducible exact LeO.refl _)
   | (with_reducible exact LeO.none _)
   | (with_reducible refine LeO.ite ?_ ?_)
   | (with_reducible refine LeO.bind ?_ (fun _ => ?_))
   | exact ih0 _ _ _ _ _ _ _ _ _ _ _ _ _
   | exact ih1 _ _ _ _ _ _ _ _ _
   | exact ih2 _ _ _
   | exact impl_KeptFind.mono _ _ _ _ _
   | exact laws_eqKeptS.mono _ _ _
   | exact laws_eqNameS.mono _ _ _
   | exact laws_heldKeptS.mono _ _ _
   | exact laws_markKeptS.mono _ _ _
   | exact laws_markNameS.mono _ _ _
   | exact laws_szKeptS.mono _ _ _
   | exact laws_szNameS.mono _ _ _
   | exact laws_toKeptS.mono _ _
   | exact laws_toNameS.mono _ _
   | exact spec_KeptFind.mono _ _ _ _ _
   | exact LeO.none _
   | refine LeO.ite ?_ ?_
   | refine LeO.bind ?_ (fun _ => ?_)
set_option maxHeartbeats 8000000 in
set_option maxRecDepth 100000 in
theorem laws_FnExactKeptFind.calls (k : Nat) (A0 : Option Addr) (c0 : Nat) (l0 : List (S81)) (A1 : Option Addr) (c1 : Nat) (l1 : List (S23)) (a2 : ByteArray) (a3 : Int) (r : Bool) (w : World) (hr0 : Kd.C k81 w A0 l0.length l0) (hc0 : l0.length ≤ c0) (hr1 : Kd.C k23 w A1 l1.length l1) (hc1 : l1.length ≤ c1) (h : laws_FnExactKeptFind.f k l0 l1 a2 a3 = some r) :
  Calls Try.prog 17 #[.slice A0 l0.length c0, .slice A1 l1.length c1, .string a2, .int .i64 a3] w fun e w' => e = .returned (.bool r) ∧ Below w.heap.size w w' := by
 have HR0 := Aside0.mk hr0
 have HC0 := Aside0.mk hc0
 clear hr0 hc0
 have HR1 := Aside0.mk hr1
 have HC1 := Aside0.mk hc1
 clear hr1 hc1
 have HB := Aside0.mk (Below.refl w.heap.size w)
 have H : (if (a2.size : Int) > 1048576 then (some true) else ((laws_szKeptS.f k l0 1048576).bind fun t358 => (if t358 < 0 then (some true) else ((laws_szNameS.f k l1 t358).bind fun t359 => (if t359 < 0 then (some true) else ((laws_toKeptS.f k l0).bind fun t360 => ((laws_toNameS.f k l1).bind fun t363 => ((spec_KeptFind.f k t360 t363 a2 a3).bind fun bt366 => ((laws_toKeptS.f k l0).bind fun t371 => ((laws_toNameS.f k l1).bind fun t374 => ((impl_KeptFind.f k t371 t374 a2 a3).bind fun bt377 => ((laws_eqKeptS.f k bt377.1 bt366.1).bind fun t382 => (if t382 = true then (if bt377.2.1 = bt366.2.1 then (laws_FnExactKeptFind.j0 k l0 l1 a2 a3 bt366.1 bt366.2.1 bt366.2.2 t371 t374 bt377.1 bt377.2.1 bt377.2.2 (bt377.2.2 != bt366.2.2)) else (laws_FnExactKeptFind.j0 k l0 l1 a2 a3 bt366.1 bt366.2.1 bt366.2.2 t371 t374 bt377.1 bt377.2.1 bt377.2.2 true)) else (laws_FnExactKeptFind.j0 k l0 l1 a2 a3 bt366.1 bt366.2.1 bt366.2.2 t371 t374 bt377.1 bt377.2.1 bt377.2.2 true)))))))))))))) = some r := h
 clear h
 by_cases c5 : (a2.size : Int) > 1048576
 ·rw [if_pos c5] at H
  have c5b0 : decide (1048576 < (a2.size : Int)) = true := decide_eq_true c5
  have c5b1 : decide (1048576 < a2.size) = true := decide_eq_true (z_20)
  clear c5
  obtain rfl := Option.some.inj H
  go_enter Try.func17, Try.ntmps17
  go_wp2
  go_ret
  exact ⟨z_4, z_2⟩
 ·rw [if_neg c5] at H
  have c5b0 : decide (1048576 < (a2.size : Int)) = false := decide_eq_false c5
  have c5b1 : decide (1048576 < a2.size) = false := decide_eq_false (z_20)
  clear c5
  replace H := Option.bind_eq_some_iff.mp H
  obtain ⟨t358, A60, H⟩ := H
  have A6 := Aside0.mk A60
  clear A60
  by_cases c7 : t358 < 0
  ·rw [if_pos c7] at H
   have c7b0 : decide (t358 < 0) = true := decide_eq_true c7
   clear c7
   obtain rfl := Option.some.inj H
   go_enter Try.func17, Try.ntmps17
   go_wp2_with (first | ((with_reducible refine gate_callee (f := 33) rfl ?_); refine goesL_ (some 29) rfl rfl Try.func33 (z_0) rfl #[.slice A0 l0.length c0, .int .i64 1048576] rfl (z_8) ?_; (with_reducible refine (laws_szKeptS.calls k _ _ l0 1048576 t358 _ ?side1 ?side2 A6.out).mono ?_); (case side1 => exact z_60); (case side2 => exact HC0.out); rintro e w8 ⟨rfl, hb⟩; refine ⟨_, rfl, ?_⟩; have n0_ := Aside0.mk (below_step (z_2) hb); clear HB; have HB := n0_; clear n0_; (try clear hb); (try clear hb2); (try clear hk); (try clear hi)))
   go_ret
   exact ⟨z_4, z_2⟩
  ·rw [if_neg c7] at H
   have c7b0 : decide (t358 < 0) = false := decide_eq_false c7
   clear c7
   replace H := Option.bind_eq_some_iff.mp H
   obtain ⟨t359, A90, H⟩ := H
   have A9 := Aside0.mk A90
   clear A90
   by_cases c10 : t359 < 0
   ·rw [if_pos c10] at H
    have c10b0 : decide (t359 < 0) = true := decide_eq_true c10
    clear c10
    obtain rfl := Option.some.inj H
    go_enter Try.func17, Try.ntmps17
    go_wp2_with (first | ((with_reducible refine gate_callee (f := 33) rfl ?_); refine goesL_ (some 29) rfl rfl Try.func33 (z_0) rfl #[.slice A0 l0.length c0, .int .i64 1048576] rfl (z_8) ?_; (with_reducible refine (laws_szKeptS.calls k _ _ l0 1048576 t358 _ ?side1 ?side2 A6.out).mono ?_); (case side1 => exact z_60); (case side2 => exact HC0.out); rintro e w11 ⟨rfl, hb⟩; refine ⟨_, rfl, ?_⟩; have n0_ := Aside0.mk (below_step (z_2) hb); clear HB; have HB := n0_; clear n0_; (try clear hb); (try clear hb2); (try clear hk); (try clear hi)) | ((with_reducible refine gate_callee (f := 24) rfl ?_); refine goesL_ (some 34) rfl rfl Try.func24 (z_0) rfl #[.slice A1 l1.length c1, .int .i64 t358] rfl (z_8) ?_; (with_reducible refine (laws_szNameS.calls k _ _ l1 t358 t359 _ ?side1 ?side2 A9.out).mono ?_); (case side1 => exact z_61); (case side2 => exact HC1.out); rintro e w12 ⟨rfl, hb⟩; refine ⟨_, rfl, ?_⟩; have n0_ := Aside0.mk (below_step (z_2) hb); clear HB; have HB := n0_; clear n0_; (try clear hb); (try clear hb2); (try clear hk); (try clear hi)))
    go_ret
    exact ⟨z_4, z_2⟩
   ·rw [if_neg c10] at H
    have c10b0 : decide (t359 < 0) = false := decide_eq_false c10
    clear c10
    replace H := Option.bind_eq_some_iff.mp H
    obtain ⟨t360, A130, H⟩ := H
    have A13 := Aside0.mk A130
    clear A130
    replace H := Option.bind_eq_some_iff.mp H
    obtain ⟨t363, A140, H⟩ := H
    have A14 := Aside0.mk A140
    clear A140
    replace H := Option.bind_eq_some_iff.mp H
    obtain ⟨⟨t366, t369, t370⟩, A150, H⟩ := H
    replace H : ((laws_toKeptS.f k l0).bind fun t371 => ((laws_toNameS.f k l1).bind fun t374 => ((impl_KeptFind.f k t371 t374 a2 a3).bind fun bt377 => ((laws_eqKeptS.f k bt377.1 t366).bind fun t382 => (if t382 = true then (if bt377.2.1 = t369 then (laws_FnExactKeptFind.j0 k l0 l1 a2 a3 t366 t369 t370 t371 t374 bt377.1 bt377.2.1 bt377.2.2 (bt377.2.2 != t370)) else (laws_FnExactKeptFind.j0 k l0 l1 a2 a3 t366 t369 t370 t371 t374 bt377.1 bt377.2.1 bt377.2.2 true)) else (laws_FnExactKeptFind.j0 k l0 l1 a2 a3 t366 t369 t370 t371 t374 bt377.1 bt377.2.1 bt377.2.2 true)))))) = some r := H
    have A15 := Aside0.mk A150
    clear A150
    replace H := Option.bind_eq_some_iff.mp H
    obtain ⟨t371, A160, H⟩ := H
    have A16 := Aside0.mk A160
    clear A160
    replace H := Option.bind_eq_some_iff.mp H
    obtain ⟨t374, A170, H⟩ := H
    have A17 := Aside0.mk A170
    clear A170
    replace H := Option.bind_eq_some_iff.mp H
    obtain ⟨⟨t377, t378, t379⟩, A180, H⟩ := H
    replace H : ((laws_eqKeptS.f k t377 t366).bind fun t382 => (if t382 = true then (if t378 = t369 then (laws_FnExactKeptFind.j0 k l0 l1 a2 a3 t366 t369 t370 t371 t374 t377 t378 t379 (t379 != t370)) else (laws_FnExactKeptFind.j0 k l0 l1 a2 a3 t366 t369 t370 t371 t374 t377 t378 t379 true)) else (laws_FnExactKeptFind.j0 k l0 l1 a2 a3 t366 t369 t370 t371 t374 t377 t378 t379 true))) = some r := H
    have A18 := Aside0.mk A180
    clear A180
    have HC19 := Aside0.mk H
    clear H
    go_enter Try.func17, Try.ntmps17
    go_upto_region 14 with (first | ((with_reducible refine gate_callee (f := 33) rfl ?_); refine goesL_ (some 29) rfl rfl Try.func33 (z_0) rfl #[.slice A0 l0.length c0, .int .i64 1048576] rfl (z_8) ?_; (with_reducible refine (laws_szKeptS.calls k _ _ l0 1048576 t358 _ ?side1 ?side2 A6.out).mono ?_); (case side1 => exact z_60); (case side2 => exact HC0.out); rintro e w20 ⟨rfl, hb⟩; refine ⟨_, rfl, ?_⟩; have n0_ := Aside0.mk (below_step (z_2) hb); clear HB; have HB := n0_; clear n0_; (try clear hb); (try clear hb2); (try clear hk); (try clear hi)) | ((with_reducible refine gate_callee (f := 24) rfl ?_); refine goesL_ (some 34) rfl rfl Try.func24 (z_0) rfl #[.slice A1 l1.length c1, .int .i64 t358] rfl (z_8) ?_; (with_reducible refine (laws_szNameS.calls k _ _ l1 t358 t359 _ ?side1 ?side2 A9.out).mono ?_); (case side1 => exact z_61); (case side2 => exact HC1.out); rintro e w21 ⟨rfl, hb⟩; refine ⟨_, rfl, ?_⟩; have n0_ := Aside0.mk (below_step (z_2) hb); clear HB; have HB := n0_; clear n0_; (try clear hb); (try clear hb2); (try clear hk); (try clear hi)) | ((with_reducible refine gate_callee (f := 35) rfl ?_); refine goesL_ (some 39) rfl rfl Try.func35 (z_0) rfl #[.slice A0 l0.length c0] rfl (z_8) ?_; (with_reducible refine (laws_toKeptS.calls k _ _ l0 t360 _ ?side1 ?side2 A13.out).mono ?_); (case side1 => exact z_62); (case side2 => exact HC0.out); rintro e w22 ⟨v361, rfl, ho0, hb⟩; refine ⟨_, rfl, ?_⟩; have n0_ := Aside0.mk (Kd.R_lower ho0 (below_size (z_2))); have n1_ := Aside0.mk (below_step (z_2) hb); clear HB; have HO362 := n0_; have HB := n1_; clear n0_ n1_; (try clear hb); (try clear hb2); (try clear hk); (try clear hi); (try clear ho0)) | ((with_reducible refine gate_callee (f := 26) rfl ?_); refine goesL_ (some 41) rfl rfl Try.func26 (z_0) rfl #[.slice A1 l1.length c1] rfl (z_8) ?_; (with_reducible refine (laws_toNameS.calls k _ _ l1 t363 _ ?side1 ?side2 A14.out).mono ?_); (case side1 => exact z_61); (case side2 => exact HC1.out); rintro e w23 ⟨v364, rfl, ho0, hb⟩; refine ⟨_, rfl, ?_⟩; have n0_ := Aside0.mk (Kd.R_below (z_149) hb); have n1_ := Aside0.mk (Kd.R_lower ho0 (below_size (z_2))); have n2_ := Aside0.mk (below_step (z_2) hb); clear HO362; clear HB; have HO362 := n0_; have HO365 := n1_; have HB := n2_; clear n0_ n1_ n2_; (try clear hb); (try clear hb2); (try clear hk); (try clear hi); (try clear ho0); obtain ⟨Ao24, co24, eo24⟩ := Kd.R_slice HO362.out; subst eo24; obtain ⟨Ao25, co25, eo25⟩ := Kd.R_slice HO365.out; subst eo25) | ((with_reducible refine gate_callee (f := 50) rfl ?_); refine goesL_ (some 44) rfl rfl Try.func50 (z_0) rfl #[.slice Ao24 t360.length co24, .slice Ao25 t363.length co25, .string a2, .int .i64 a3] rfl (z_8) ?_; (with_reducible refine (spec_KeptFind.calls k (fun k_ => some k_ = (.slice Ao24 t360.length co24 : Value).ownBlock) _ _ t360 _ _ t363 a2 a3 t366 t369 t370 _ ?side1 ?side2 ?side3 A15.out).mono ?_); (case side1 => exact Kd.R_V (Kd.R_tight rfl (Kd.R_apart' (HO362.out) (Kd.R_typed HO365.out) (z_19)))); (case side2 => repeat (first | exact (Kd.R_reads' HO365.out).2.2 | (with_reducible refine Kd.C_alloc ?_ _) | (with_reducible refine Kd.C_drewN ?_ _) | (with_reducible refine Kd.C_drew ?_))); (case side3 => exact (Kd.R_reads' HO365.out).2.1); rintro e w26 ⟨v367, rfl, ho0, hb⟩; refine ⟨_, rfl, ?_⟩; have n0_ := Aside0.mk (Kd.R_below (z_149) hb); have n1_ := Aside0.mk (Kd.R_below (z_150) hb); have n2_ := Aside0.mk (Kd.V_lower (Kd.V_mono (ok' := fun k_ => some k_ ≠ (.slice Ao25 t363.length co25 : Value).ownBlock) ho0 (fun k_ hk_ => Or.elim hk_ (fun hs_ => ((Kd.R_apart' (HO362.out) (Kd.R_typed HO365.out) (z_19)).1 k_ hs_.symm).2) (fun hn_ => (Kd.fresh' (Kd.R_lt (z_150)) k_ hn_)))) (below_size (z_2))); have n3_ := Aside0.mk (below_step (z_2) hb); clear HO362; clear HO365; clear HB; have HO362 := n0_; have HO365 := n1_; have HO368 := n2_; have HB := n3_; clear n0_ n1_ n2_ n3_; (try clear hb); (try clear hb2); (try clear hk); (try clear hi); (try clear ho0)) | ((with_reducible refine gate_callee (f := 35) rfl ?_); refine goesL_ (some 49) rfl rfl Try.func35 (z_0) rfl #[.slice A0 l0.length c0] rfl (z_8) ?_; (with_reducible refine (laws_toKeptS.calls k _ _ l0 t371 _ ?side1 ?side2 A16.out).mono ?_); (case side1 => exact z_62); (case side2 => exact HC0.out); rintro e w27 ⟨v372, rfl, ho0, hb⟩; refine ⟨_, rfl, ?_⟩; have n0_ := Aside0.mk (Kd.R_elder' (z_149) (Kd.R_base ho0) hb); have n1_ := Aside0.mk (Kd.R_below (z_150) hb); have n2_ := Aside0.mk (Kd.V_elder' (z_151) (Kd.R_base ho0) hb); have n3_ := Aside0.mk (Kd.R_lower (Kd.R_new' ho0 (Kd.R_lt (z_149))) (below_size (z_2))); have n4_ := Aside0.mk (below_step (z_2) hb); clear HO362; clear HO365; clear HO368; clear HB; have HO362 := n0_; have HO365 := n1_; have HO368 := n2_; have HO373 := n3_; have HB := n4_; clear n0_ n1_ n2_ n3_ n4_; (try clear hb); (try clear hb2); (try clear hk); (try clear hi); (try clear ho0)) | ((with_reducible refine gate_callee (f := 26) rfl ?_); refine goesL_ (some 51) rfl rfl Try.func26 (z_0) rfl #[.slice A1 l1.length c1] rfl (z_8) ?_; (with_reducible refine (laws_toNameS.calls k _ _ l1 t374 _ ?side1 ?side2 A17.out).mono ?_); (case side1 => exact z_61); (case side2 => exact HC1.out); rintro e w28 ⟨v375, rfl, ho0, hb⟩; refine ⟨_, rfl, ?_⟩; have n0_ := Aside0.mk (Kd.R_below (z_149) hb); have n1_ := Aside0.mk (Kd.R_elder' (z_150) (Kd.R_base ho0) hb); have n2_ := Aside0.mk (Kd.V_elder' (z_151) (Kd.R_base ho0) hb); have n3_ := Aside0.mk (Kd.R_below (z_152) hb); have n4_ := Aside0.mk (Kd.R_lower (Kd.R_new' ho0 (Kd.R_lt (z_150))) (below_size (z_2))); have n5_ := Aside0.mk (below_step (z_2) hb); clear HO362; clear HO365; clear HO368; clear HO373; clear HB; have HO362 := n0_; have HO365 := n1_; have HO368 := n2_; have HO373 := n3_; have HO376 := n4_; have HB := n5_; clear n0_ n1_ n2_ n3_ n4_ n5_; (try clear hb); (try clear hb2); (try clear hk); (try clear hi); (try clear ho0); obtain ⟨Ao29, co29, eo29⟩ := Kd.R_slice HO373.out; subst eo29; obtain ⟨Ao30, co30, eo30⟩ := Kd.R_slice HO376.out; subst eo30) | ((with_reducible refine gate_callee (f := 49) rfl ?_); refine goesL_ (some 57) rfl rfl Try.func49 (z_0) rfl #[.slice Ao29 t371.length co29, .slice Ao30 t374.length co30, .string a2, .int .i64 a3] rfl (z_8) ?_; (with_reducible refine (impl_KeptFind.calls k _ _ t371 _ _ t374 a2 a3 t377 t378 t379 _ ?side1 ?side2 ?side3 ?side4 A18.out).mono ?_); (case side1 => repeat (first | exact (Kd.R_reads' HO373.out).2.2 | (with_reducible refine Kd.C_alloc ?_ _) | (with_reducible refine Kd.C_drewN ?_ _) | (with_reducible refine Kd.C_drew ?_))); (case side2 => exact (Kd.R_reads' HO373.out).2.1); (case side3 => repeat (first | exact (Kd.R_reads' HO376.out).2.2 | (with_reducible refine Kd.C_alloc ?_ _) | (with_reducible refine Kd.C_drewN ?_ _) | (with_reducible refine Kd.C_drew ?_))); (case side4 => exact (Kd.R_reads' HO376.out).2.1); rintro e w31 ⟨v380, rfl, ho0, hb⟩; refine ⟨_, rfl, ?_⟩; have n0_ := Aside0.mk (Kd.R_elder' (z_149) (Kd.R_base ho0) hb); have n1_ := Aside0.mk (Kd.R_below (z_150) hb); have n2_ := Aside0.mk (Kd.V_elder' (z_151) (Kd.R_base ho0) hb); have n3_ := Aside0.mk (Kd.R_elder' (z_152) (Kd.R_base ho0) hb); have n4_ := Aside0.mk (Kd.R_below (z_153) hb); have n5_ := Aside0.mk (Kd.R_lower (Kd.R_new' (Kd.R_new' ho0 (Kd.R_lt (z_149))) (Kd.R_lt (z_152))) (below_size (z_2))); have n6_ := Aside0.mk (below_step (z_2) hb); clear HO362; clear HO365; clear HO368; clear HO373; clear HO376; clear HB; have HO362 := n0_; have HO365 := n1_; have HO368 := n2_; have HO373 := n3_; have HO376 := n4_; have HO381 := n5_; have HB := n6_; clear n0_ n1_ n2_ n3_ n4_ n5_ n6_; (try clear hb); (try clear hb2); (try clear hk); (try clear hi); (try clear ho0)))
    (try simp only [Act.put, List.setIfInBounds_toArray, List.set_cons_zero, List.set_cons_succ])
    go_cut [74] (fun v74 wc => ∃ (kq : Nat) (x74_18 : Bool), v74 = .bool x74_18 ∧ Aside0 (laws_FnExactKeptFind.j0 kq l0 l1 a2 a3 t366 t369 t370 t371 t374 t377 t378 t379 x74_18 = some r) ∧ Aside0 (kq ≤ k) ∧ Aside0 (Kd.V k83 83 wc w.heap.size (fun k_ => some k_ ≠ ((.slice Ao29 t371.length co29) : Value).ownBlock ∧ some k_ ≠ ((.slice Ao30 t374.length co30) : Value).ownBlock ∧ some k_ ≠ (v380 : Value).ownBlock) v367 t366) ∧ Aside0 (Kd.R k83 83 wc w.heap.size (fun k_ => some k_ ≠ (v380 : Value).ownBlock) (.slice Ao29 t371.length co29) t371) ∧ Aside0 (Kd.R k26 26 wc w.heap.size (fun _ => True) (.slice Ao30 t374.length co30) t374) ∧ Aside0 (Kd.R k83 83 wc w.heap.size (fun k_ => some k_ ≠ ((.slice Ao29 t371.length co29) : Value).ownBlock) v380 t377) ∧ Aside0 (Below w.heap.size w wc))
    case first =>
     have H := HC19.out
     clear HC19
     replace H := Option.bind_eq_some_iff.mp H
     obtain ⟨t382, A320, H⟩ := H
     have A32 := Aside0.mk A320
     clear A320
     by_cases c33 : t382 = true
     ·subst c33
      rw [if_pos rfl] at H
      by_cases c34 : t378 = t369
      ·rw [if_pos c34] at H
       have c34b0 : (t378 == t369) = true := beq_iff_eq.mpr c34
       have c34b1 : (t378 != t369) = false := bne_eq_false_iff_eq.mpr c34
       clear c34
       (first | rw [c34b0] | (simp only [i64_w, i32_w]; rw [c34b0]) | skip)
       have H' := Aside0.mk H
       clear H
       obtain ⟨Ao35, co35, eo35⟩ := Kd.R_slice HO381.out
       subst eo35
       obtain ⟨Ao36, co36, eo36⟩ := Kd.V_slice HO368.out
       subst eo36
       go_wp2_with (first | ((with_reducible refine gate_callee (f := 37) rfl ?_); refine goesL_ (some 63) rfl rfl Try.func37 (z_0) rfl #[.slice Ao35 t377.length co35, .slice Ao36 t366.length co36] rfl (z_8) ?_; (with_reducible refine (laws_eqKeptS.calls k _ _ t377 _ _ t366 true _ ?side1 ?side2 ?side3 ?side4 A32.out).mono ?_); (case side1 => exact z_154); (case side2 => exact (Kd.R_reads' HO381.out).2.1); (case side3 => exact z_155); (case side4 => exact (Kd.V_reads' HO368.out).2.1); rintro e w37 ⟨rfl, hb⟩; refine ⟨_, rfl, ?_⟩; have n0_ := Aside0.mk (Kd.R_below (z_149) hb); have n1_ := Aside0.mk (Kd.R_below (z_150) hb); have n2_ := Aside0.mk (Kd.V_below (z_151) hb); have n3_ := Aside0.mk (Kd.R_below (z_152) hb); have n4_ := Aside0.mk (Kd.R_below (z_153) hb); have n5_ := Aside0.mk (Kd.R_below (z_156) hb); have n6_ := Aside0.mk (below_step (z_2) hb); clear HO362; clear HO365; clear HO368; clear HO373; clear HO376; clear HO381; clear HB; have HO362 := n0_; have HO365 := n1_; have HO368 := n2_; have HO373 := n3_; have HO376 := n4_; have HO381 := n5_; have HB := n6_; clear n0_ n1_ n2_ n3_ n4_ n5_ n6_; (try clear hb); (try clear hb2); (try clear hk); (try clear hi)))
       go_meet
       case rel => exact ⟨_, ((t379 != t370)), (z_6), H', ⟨z_52⟩, ⟨z_157⟩, ⟨z_158⟩, ⟨z_159⟩, ⟨z_160⟩, ⟨z_2⟩⟩
      ·rw [if_neg c34] at H
       have c34b0 : (t378 == t369) = false := beq_eq_false_iff_ne.mpr c34
       have c34b1 : (t378 != t369) = true := bne_iff_ne.mpr c34
       (first | rw [c34b0] | (simp only [i64_w, i32_w]; rw [c34b0]) | skip)
       have H' := Aside0.mk H
       clear H
       obtain ⟨Ao38, co38, eo38⟩ := Kd.R_slice HO381.out
       subst eo38
       obtain ⟨Ao39, co39, eo39⟩ := Kd.V_slice HO368.out
       subst eo39
       go_wp2_with (first | ((with_reducible refine gate_callee (f := 37) rfl ?_); refine goesL_ (some 63) rfl rfl Try.func37 (z_0) rfl #[.slice Ao38 t377.length co38, .slice Ao39 t366.length co39] rfl (z_8) ?_; (with_reducible refine (laws_eqKeptS.calls k _ _ t377 _ _ t366 true _ ?side1 ?side2 ?side3 ?side4 A32.out).mono ?_); (case side1 => exact z_154); (case side2 => exact (Kd.R_reads' HO381.out).2.1); (case side3 => exact z_155); (case side4 => exact (Kd.V_reads' HO368.out).2.1); rintro e w40 ⟨rfl, hb⟩; refine ⟨_, rfl, ?_⟩; have n0_ := Aside0.mk (Kd.R_below (z_149) hb); have n1_ := Aside0.mk (Kd.R_below (z_150) hb); have n2_ := Aside0.mk (Kd.V_below (z_151) hb); have n3_ := Aside0.mk (Kd.R_below (z_152) hb); have n4_ := Aside0.mk (Kd.R_below (z_153) hb); have n5_ := Aside0.mk (Kd.R_below (z_156) hb); have n6_ := Aside0.mk (below_step (z_2) hb); clear HO362; clear HO365; clear HO368; clear HO373; clear HO376; clear HO381; clear HB; have HO362 := n0_; have HO365 := n1_; have HO368 := n2_; have HO373 := n3_; have HO376 := n4_; have HO381 := n5_; have HB := n6_; clear n0_ n1_ n2_ n3_ n4_ n5_ n6_; (try clear hb); (try clear hb2); (try clear hk); (try clear hi)))
       go_meet
       case rel => exact ⟨_, (true), (z_6), H', ⟨z_52⟩, ⟨z_157⟩, ⟨z_158⟩, ⟨z_159⟩, ⟨z_160⟩, ⟨z_2⟩⟩
     ·replace c33 := Bool.eq_false_iff.mpr c33
      subst c33
      rw [if_neg (show ¬ (false = true) by decide)] at H
      have H' := Aside0.mk H
      clear H
      obtain ⟨Ao41, co41, eo41⟩ := Kd.R_slice HO381.out
      subst eo41
      obtain ⟨Ao42, co42, eo42⟩ := Kd.V_slice HO368.out
      subst eo42
      go_wp2_with (first | ((with_reducible refine gate_callee (f := 37) rfl ?_); refine goesL_ (some 63) rfl rfl Try.func37 (z_0) rfl #[.slice Ao41 t377.length co41, .slice Ao42 t366.length co42] rfl (z_8) ?_; (with_reducible refine (laws_eqKeptS.calls k _ _ t377 _ _ t366 false _ ?side1 ?side2 ?side3 ?side4 A32.out).mono ?_); (case side1 => exact z_154); (case side2 => exact (Kd.R_reads' HO381.out).2.1); (case side3 => exact z_155); (case side4 => exact (Kd.V_reads' HO368.out).2.1); rintro e w43 ⟨rfl, hb⟩; refine ⟨_, rfl, ?_⟩; have n0_ := Aside0.mk (Kd.R_below (z_149) hb); have n1_ := Aside0.mk (Kd.R_below (z_150) hb); have n2_ := Aside0.mk (Kd.V_below (z_151) hb); have n3_ := Aside0.mk (Kd.R_below (z_152) hb); have n4_ := Aside0.mk (Kd.R_below (z_153) hb); have n5_ := Aside0.mk (Kd.R_below (z_156) hb); have n6_ := Aside0.mk (below_step (z_2) hb); clear HO362; clear HO365; clear HO368; clear HO373; clear HO376; clear HO381; clear HB; have HO362 := n0_; have HO365 := n1_; have HO368 := n2_; have HO373 := n3_; have HO376 := n4_; have HO381 := n5_; have HB := n6_; clear n0_ n1_ n2_ n3_ n4_ n5_ n6_; (try clear hb); (try clear hb2); (try clear hk); (try clear hi)))
      go_meet
      case rel => exact ⟨_, (true), (z_6), H', ⟨z_52⟩, ⟨z_157⟩, ⟨z_158⟩, ⟨z_159⟩, ⟨z_160⟩, ⟨z_2⟩⟩
    case rest =>
     clear HC19
     try clear c1
     try clear c2
     try clear p2
     try clear c3
     try clear c4
     try clear c5
     try clear c5b0
     try clear c5b1
     try clear c7
     try clear c7b0
     try clear c10
     try clear c10b0
     try clear c17
     try clear c24
     try clear c26
     try clear c33
     try clear c34
     try clear c34b0
     try clear c34b1
     try clear c35
     try clear c37
     obtain ⟨kq, x74_18, rfl, HA, HJ18, HO_10, HO_13, HO_14, HO_15, HB⟩ := hcut
     cases kq with
     | zero => exact absurd HA.out (by simp [laws_FnExactKeptFind.j0])
     | succ kj18 =>
      have H := HA.out
      clear HA
      simp only [laws_FnExactKeptFind.j0] at H
      by_cases c44 : x74_18 = true
      ·subst c44
       rw [if_pos rfl] at H
       obtain rfl := Option.some.inj H
       go_wp2
       go_ret
       exact ⟨z_4, z_2⟩
      ·replace c44 := Bool.eq_false_iff.mpr c44
       subst c44
       rw [if_neg (show ¬ (false = true) by decide)] at H
       replace H := Option.bind_eq_some_iff.mp H
       obtain ⟨t383, A450, H⟩ := H
       have A45 := Aside0.mk A450
       clear A450
       replace H := Option.bind_eq_some_iff.mp H
       obtain ⟨t386, A460, H⟩ := H
       have A46 := Aside0.mk A460
       clear A460
       by_cases c47 : t386 = true
       ·subst c47
        rw [if_pos rfl] at H
        replace H := Option.bind_eq_some_iff.mp H
        obtain ⟨t387, A480, H⟩ := H
        have A48 := Aside0.mk A480
        clear A480
        replace H := Option.bind_eq_some_iff.mp H
        obtain ⟨t390, A490, H⟩ := H
        have A49 := Aside0.mk A490
        clear A490
        by_cases c50 : t390 = true
        ·subst c50
         rw [if_pos rfl] at H
         replace H := Option.bind_eq_some_iff.mp H
         obtain ⟨⟨t391, t392⟩, A510, H⟩ := H
         replace H : ((laws_markNameS.f kj18 t374 t391).bind fun bt393 => (if bt393.1 < 0 then (laws_FnExactKeptFind.j1 kj18 l0 l1 a2 a3 t366 t369 t370 t377 true) else ((laws_eqKeptS.f kj18 t377 t366).bind fun t395 => (if t395 = true then (if t378 = t369 then (laws_FnExactKeptFind.j1 kj18 l0 l1 a2 a3 t366 t369 t370 t377 (t379 != t370)) else (laws_FnExactKeptFind.j1 kj18 l0 l1 a2 a3 t366 t369 t370 t377 true)) else (laws_FnExactKeptFind.j1 kj18 l0 l1 a2 a3 t366 t369 t370 t377 true))))) = some r := H
         have A51 := Aside0.mk A510
         clear A510
         replace H := Option.bind_eq_some_iff.mp H
         obtain ⟨⟨t393, t394⟩, A520, H⟩ := H
         replace H : (if t393 < 0 then (laws_FnExactKeptFind.j1 kj18 l0 l1 a2 a3 t366 t369 t370 t377 true) else ((laws_eqKeptS.f kj18 t377 t366).bind fun t395 => (if t395 = true then (if t378 = t369 then (laws_FnExactKeptFind.j1 kj18 l0 l1 a2 a3 t366 t369 t370 t377 (t379 != t370)) else (laws_FnExactKeptFind.j1 kj18 l0 l1 a2 a3 t366 t369 t370 t377 true)) else (laws_FnExactKeptFind.j1 kj18 l0 l1 a2 a3 t366 t369 t370 t377 true)))) = some r := H
         have A52 := Aside0.mk A520
         clear A520
         have HC53 := Aside0.mk H
         clear H
         go_upto_region 23 with (first | ((with_reducible refine gate_callee (f := 35) rfl ?_); refine goesL_ (some 77) rfl rfl Try.func35 (z_0) rfl #[.slice A0 l0.length c0] rfl (z_8) ?_; (with_reducible refine (laws_toKeptS.calls kj18 _ _ l0 t383 _ ?side1 ?side2 A45.out).mono ?_); (case side1 => exact z_62); (case side2 => exact HC0.out); rintro e w54 ⟨v384, rfl, ho0, hb⟩; refine ⟨_, rfl, ?_⟩; have n0_ := Aside0.mk (Kd.V_elder' (z_161) (Kd.R_base ho0) hb); have n1_ := Aside0.mk (Kd.R_elder' (z_162) (Kd.R_base ho0) hb); have n2_ := Aside0.mk (Kd.R_below (z_163) hb); have n3_ := Aside0.mk (Kd.R_elder' (z_164) (Kd.R_base ho0) hb); have n4_ := Aside0.mk (Kd.R_lower (Kd.R_new' (Kd.R_new' ho0 (Kd.R_lt (z_162))) (Kd.R_lt (z_164))) (below_size (z_2))); have n5_ := Aside0.mk (below_step (z_2) hb); clear HO_10; clear HO_13; clear HO_14; clear HO_15; clear HB; have HO_10 := n0_; have HO_13 := n1_; have HO_14 := n2_; have HO_15 := n3_; have HO385 := n4_; have HB := n5_; clear n0_ n1_ n2_ n3_ n4_ n5_; (try clear hb); (try clear hb2); (try clear hk); (try clear hi); (try clear ho0); obtain ⟨Ao55, co55, eo55⟩ := Kd.R_slice HO385.out; subst eo55) | ((with_reducible refine gate_callee (f := 37) rfl ?_); refine goesL_ (some 78) rfl rfl Try.func37 (z_0) rfl #[.slice Ao29 t371.length co29, .slice Ao55 t383.length co55] rfl (z_8) ?_; (with_reducible refine (laws_eqKeptS.calls kj18 _ _ t371 _ _ t383 true _ ?side1 ?side2 ?side3 ?side4 A46.out).mono ?_); (case side1 => exact z_165); (case side2 => exact (Kd.R_reads' HO_13.out).2.1); (case side3 => exact z_166); (case side4 => exact (Kd.R_reads' HO385.out).2.1); rintro e w56 ⟨rfl, hb⟩; refine ⟨_, rfl, ?_⟩; have n0_ := Aside0.mk (Kd.V_below (z_161) hb); have n1_ := Aside0.mk (Kd.R_below (z_162) hb); have n2_ := Aside0.mk (Kd.R_below (z_163) hb); have n3_ := Aside0.mk (Kd.R_below (z_164) hb); have n4_ := Aside0.mk (Kd.R_below (z_167) hb); have n5_ := Aside0.mk (below_step (z_2) hb); clear HO_10; clear HO_13; clear HO_14; clear HO_15; clear HO385; clear HB; have HO_10 := n0_; have HO_13 := n1_; have HO_14 := n2_; have HO_15 := n3_; have HO385 := n4_; have HB := n5_; clear n0_ n1_ n2_ n3_ n4_ n5_; (try clear hb); (try clear hb2); (try clear hk); (try clear hi)) | ((with_reducible refine gate_callee (f := 26) rfl ?_); refine goesL_ (some 82) rfl rfl Try.func26 (z_0) rfl #[.slice A1 l1.length c1] rfl (z_8) ?_; (with_reducible refine (laws_toNameS.calls kj18 _ _ l1 t387 _ ?side1 ?side2 A48.out).mono ?_); (case side1 => exact z_61); (case side2 => exact HC1.out); rintro e w57 ⟨v388, rfl, ho0, hb⟩; refine ⟨_, rfl, ?_⟩; have n0_ := Aside0.mk (Kd.V_elder' (z_161) (Kd.R_base ho0) hb); have n1_ := Aside0.mk (Kd.R_below (z_162) hb); have n2_ := Aside0.mk (Kd.R_elder' (z_163) (Kd.R_base ho0) hb); have n3_ := Aside0.mk (Kd.R_below (z_164) hb); have n4_ := Aside0.mk (Kd.R_below (z_167) hb); have n5_ := Aside0.mk (Kd.R_lower (Kd.R_new' ho0 (Kd.R_lt (z_163))) (below_size (z_2))); have n6_ := Aside0.mk (below_step (z_2) hb); clear HO_10; clear HO_13; clear HO_14; clear HO_15; clear HO385; clear HB; have HO_10 := n0_; have HO_13 := n1_; have HO_14 := n2_; have HO_15 := n3_; have HO385 := n4_; have HO389 := n5_; have HB := n6_; clear n0_ n1_ n2_ n3_ n4_ n5_ n6_; (try clear hb); (try clear hb2); (try clear hk); (try clear hi); (try clear ho0); obtain ⟨Ao58, co58, eo58⟩ := Kd.R_slice HO389.out; subst eo58) | ((with_reducible refine gate_callee (f := 28) rfl ?_); refine goesL_ (some 83) rfl rfl Try.func28 (z_0) rfl #[.slice Ao30 t374.length co30, .slice Ao58 t387.length co58] rfl (z_8) ?_; (with_reducible refine (laws_eqNameS.calls kj18 _ _ t374 _ _ t387 true _ ?side1 ?side2 ?side3 ?side4 A49.out).mono ?_); (case side1 => exact z_168); (case side2 => exact (Kd.R_reads' HO_14.out).2.1); (case side3 => exact z_169); (case side4 => exact (Kd.R_reads' HO389.out).2.1); rintro e w59 ⟨rfl, hb⟩; refine ⟨_, rfl, ?_⟩; have n0_ := Aside0.mk (Kd.V_below (z_161) hb); have n1_ := Aside0.mk (Kd.R_below (z_162) hb); have n2_ := Aside0.mk (Kd.R_below (z_163) hb); have n3_ := Aside0.mk (Kd.R_below (z_164) hb); have n4_ := Aside0.mk (Kd.R_below (z_167) hb); have n5_ := Aside0.mk (Kd.R_below (z_170) hb); have n6_ := Aside0.mk (below_step (z_2) hb); clear HO_10; clear HO_13; clear HO_14; clear HO_15; clear HO385; clear HO389; clear HB; have HO_10 := n0_; have HO_13 := n1_; have HO_14 := n2_; have HO_15 := n3_; have HO385 := n4_; have HO389 := n5_; have HB := n6_; clear n0_ n1_ n2_ n3_ n4_ n5_ n6_; (try clear hb); (try clear hb2); (try clear hk); (try clear hi)) | ((with_reducible refine gate_callee (f := 51) rfl ?_); refine goesL_ (some 87) rfl rfl Try.func51 (z_0) rfl #[.slice Ao29 t371.length co29, .int .i64 1] rfl (z_8) ?_; (with_reducible refine (laws_markKeptS.calls kj18 (fun k_ => some k_ = (.slice Ao29 t371.length co29 : Value).ownBlock) (.slice Ao29 t371.length co29) t371 1 t391 t392 w _ ?side1 ?side2 A51.out).mono ?_); (case side1 => exact z_2); (case side2 => exact Kd.R_tight rfl HO_13.out); rintro e w60 ⟨rfl, hy0, hb, hkp⟩; refine ⟨_, rfl, ?_⟩; have n0_ := Aside0.mk (Kd.V_mono (ok' := fun k_ => some k_ ≠ (.slice Ao29 t371.length co29 : Value).ownBlock ∧ some k_ ≠ (.slice Ao30 t374.length co30 : Value).ownBlock ∧ some k_ ≠ (v380 : Value).ownBlock ∧ some k_ ≠ (.slice Ao55 t383.length co55 : Value).ownBlock ∧ some k_ ≠ (.slice Ao58 t387.length co58 : Value).ownBlock) (Kd.V_keptB (HO_10.out) hkp (fun k_ hk_ hs_ => (hk_.1.1.1) hs_)) (fun k_ hk_ => ⟨hk_.1.1.1.1, hk_.1.1.1.2.1, hk_.1.1.1.2.2, hk_.1.1.2, hk_.1.2⟩)); have n1_ := Aside0.mk (Kd.R_reok rfl hy0 (fun k_ e_ => HO_13.out.1 k_ e_)); have n2_ := Aside0.mk (Kd.R_mono (ok' := fun k_ => some k_ ≠ (.slice Ao58 t387.length co58 : Value).ownBlock) (Kd.R_keptB ((Kd.R_apart' HO_14.out (Kd.R_typed HO_13.out) (z_19))) hkp (fun k_ hk_ hs_ => (hk_.2) hs_)) (fun k_ hk_ => hk_.1.1.2)); have n3_ := Aside0.mk (Kd.R_mono (ok' := fun k_ => some k_ ≠ (.slice Ao29 t371.length co29 : Value).ownBlock ∧ some k_ ≠ (.slice Ao55 t383.length co55 : Value).ownBlock) (Kd.R_keptB (HO_15.out) hkp (fun k_ hk_ hs_ => (hk_.1) hs_)) (fun k_ hk_ => ⟨hk_.1.1, hk_.1.2⟩)); have n4_ := Aside0.mk (Kd.R_mono (ok' := fun k_ => some k_ ≠ (.slice Ao29 t371.length co29 : Value).ownBlock ∧ some k_ ≠ (v380 : Value).ownBlock) (Kd.R_keptB (HO385.out) hkp (fun k_ hk_ hs_ => (hk_.1.2) hs_)) (fun k_ hk_ => ⟨hk_.1.1.2, hk_.1.2⟩)); have n5_ := Aside0.mk (Kd.R_mono (ok' := fun k_ => some k_ ≠ (.slice Ao30 t374.length co30 : Value).ownBlock) (Kd.R_keptB ((Kd.R_apart' HO389.out (Kd.R_typed HO_13.out) (z_19))) hkp (fun k_ hk_ hs_ => (hk_.2) hs_)) (fun k_ hk_ => hk_.1.1.2)); have n6_ := Aside0.mk (hb); clear HO_10; clear HO_13; clear HO_14; clear HO_15; clear HO385; clear HO389; clear HB; have HO_10 := n0_; have HO_13 := n1_; have HO_14 := n2_; have HO_15 := n3_; have HO385 := n4_; have HO389 := n5_; have HB := n6_; clear n0_ n1_ n2_ n3_ n4_ n5_ n6_; (try clear hb); (try clear hkp); (try clear hy0)) | ((with_reducible refine gate_callee (f := 52) rfl ?_); refine goesL_ (some 90) rfl rfl Try.func52 (z_0) rfl #[.slice Ao30 t374.length co30, .int .i64 t391] rfl (z_8) ?_; (with_reducible refine (laws_markNameS.calls kj18 (fun k_ => some k_ = (.slice Ao30 t374.length co30 : Value).ownBlock) (.slice Ao30 t374.length co30) t374 t391 t393 t394 w _ ?side1 ?side2 A52.out).mono ?_); (case side1 => exact z_2); (case side2 => exact Kd.R_tight rfl HO_14.out); rintro e w61 ⟨rfl, hy0, hb, hkp⟩; refine ⟨_, rfl, ?_⟩; have n0_ := Aside0.mk (Kd.V_mono (ok' := fun k_ => some k_ ≠ (.slice Ao29 t371.length co29 : Value).ownBlock ∧ some k_ ≠ (.slice Ao30 t374.length co30 : Value).ownBlock ∧ some k_ ≠ (v380 : Value).ownBlock ∧ some k_ ≠ (.slice Ao55 t383.length co55 : Value).ownBlock ∧ some k_ ≠ (.slice Ao58 t387.length co58 : Value).ownBlock) (Kd.V_keptB (HO_10.out) hkp (fun k_ hk_ hs_ => (hk_.2.1) hs_)) (fun k_ hk_ => ⟨hk_.1.1, hk_.1.2.1, hk_.1.2.2.1, hk_.1.2.2.2.1, hk_.1.2.2.2.2⟩)); have n1_ := Aside0.mk (Kd.R_mono (ok' := fun k_ => some k_ ≠ (v380 : Value).ownBlock ∧ some k_ ≠ (.slice Ao55 t383.length co55 : Value).ownBlock) (Kd.R_keptB ((Kd.R_apart' HO_13.out (Kd.R_typed HO_14.out) (z_19))) hkp (fun k_ hk_ hs_ => (hk_.2) hs_)) (fun k_ hk_ => ⟨hk_.1.1.1, hk_.1.1.2⟩)); have n2_ := Aside0.mk (Kd.R_reok rfl hy0 (fun k_ e_ => HO_14.out.1 k_ e_)); have n3_ := Aside0.mk (Kd.R_mono (ok' := fun k_ => some k_ ≠ (.slice Ao29 t371.length co29 : Value).ownBlock ∧ some k_ ≠ (.slice Ao55 t383.length co55 : Value).ownBlock) (Kd.R_keptB ((Kd.R_apart' HO_15.out (Kd.R_typed HO_14.out) (z_19))) hkp (fun k_ hk_ hs_ => (hk_.2) hs_)) (fun k_ hk_ => ⟨hk_.1.1.1, hk_.1.1.2⟩)); have n4_ := Aside0.mk (Kd.R_mono (ok' := fun k_ => some k_ ≠ (.slice Ao29 t371.length co29 : Value).ownBlock ∧ some k_ ≠ (v380 : Value).ownBlock) (Kd.R_keptB ((Kd.R_apart' HO385.out (Kd.R_typed HO_14.out) (z_19))) hkp (fun k_ hk_ hs_ => (hk_.2) hs_)) (fun k_ hk_ => ⟨hk_.1.1.1, hk_.1.1.2⟩)); have n5_ := Aside0.mk (Kd.R_mono (ok' := fun k_ => some k_ ≠ (.slice Ao30 t374.length co30 : Value).ownBlock) (Kd.R_keptB (HO389.out) hkp (fun k_ hk_ hs_ => (hk_) hs_)) (fun k_ hk_ => hk_.1)); have n6_ := Aside0.mk (hb); clear HO_10; clear HO_13; clear HO_14; clear HO_15; clear HO385; clear HO389; clear HB; have HO_10 := n0_; have HO_13 := n1_; have HO_14 := n2_; have HO_15 := n3_; have HO385 := n4_; have HO389 := n5_; have HB := n6_; clear n0_ n1_ n2_ n3_ n4_ n5_ n6_; (try clear hb); (try clear hkp); (try clear hy0)))
         (try simp only [Act.put, List.setIfInBounds_toArray, List.set_cons_zero, List.set_cons_succ])
         go_cut [108] (fun v108 wc => ∃ (kq : Nat) (x108_52 : Bool), v108 = .bool x108_52 ∧ Aside0 (laws_FnExactKeptFind.j1 kq l0 l1 a2 a3 t366 t369 t370 t377 x108_52 = some r) ∧ Aside0 (kq ≤ kj18) ∧ Aside0 (Kd.V k83 83 wc w.heap.size (fun k_ => some k_ ≠ (v380 : Value).ownBlock) v367 t366) ∧ Aside0 (Kd.R k83 83 wc w.heap.size (fun _ => True) v380 t377) ∧ Aside0 (Below w.heap.size w wc))
         case first =>
          have H := HC53.out
          clear HC53
          by_cases c62 : t393 < 0
          ·rw [if_pos c62] at H
           have c62b0 : decide (t393 < 0) = true := decide_eq_true c62
           clear c62
           (first | rw [c62b0] | (simp only [i64_w, i32_w]; rw [c62b0]) | skip)
           have H' := Aside0.mk H
           clear H
           go_wp2
           go_meet
           case rel => exact ⟨_, (true), (z_6), H', ⟨z_171⟩, ⟨z_172⟩, ⟨z_173⟩, ⟨z_2⟩⟩
          ·rw [if_neg c62] at H
           have c62b0 : decide (t393 < 0) = false := decide_eq_false c62
           clear c62
           (first | rw [c62b0] | (simp only [i64_w, i32_w]; rw [c62b0]) | skip)
           replace H := Option.bind_eq_some_iff.mp H
           obtain ⟨t395, A630, H⟩ := H
           have A63 := Aside0.mk A630
           clear A630
           by_cases c64 : t395 = true
           ·subst c64
            rw [if_pos rfl] at H
            by_cases c65 : t378 = t369
            ·rw [if_pos c65] at H
             have c65b0 : (t378 == t369) = true := beq_iff_eq.mpr c65
             have c65b1 : (t378 != t369) = false := bne_eq_false_iff_eq.mpr c65
             clear c65
             have H' := Aside0.mk H
             clear H
             obtain ⟨Ao66, co66, eo66⟩ := Kd.R_slice HO_15.out
             subst eo66
             obtain ⟨Ao67, co67, eo67⟩ := Kd.V_slice HO_10.out
             subst eo67
             go_wp2_with (first | (go_at_call 37; (with_reducible refine (laws_eqKeptS.calls kj18 _ _ t377 _ _ t366 true _ ?side1 ?side2 ?side3 ?side4 A63.out).mono ?_); (case side1 => exact z_174); (case side2 => exact z_175); (case side3 => exact z_176); (case side4 => exact z_177); rintro e w68 ⟨rfl, hb⟩; have n0_ := Aside0.mk (Kd.V_below (z_161) hb); have n1_ := Aside0.mk (Kd.R_below (z_162) hb); have n2_ := Aside0.mk (Kd.R_below (z_163) hb); have n3_ := Aside0.mk (Kd.R_below (z_164) hb); have n4_ := Aside0.mk (Kd.R_below (z_167) hb); have n5_ := Aside0.mk (Kd.R_below (z_170) hb); have n6_ := Aside0.mk (below_step (z_2) hb); clear HO_10; clear HO_13; clear HO_14; clear HO_15; clear HO385; clear HO389; clear HB; have HO_10 := n0_; have HO_13 := n1_; have HO_14 := n2_; have HO_15 := n3_; have HO385 := n4_; have HO389 := n5_; have HB := n6_; clear n0_ n1_ n2_ n3_ n4_ n5_ n6_; (try clear hb); (try clear hb2); (try clear hk); (try clear hi)))
             go_meet
             case rel => exact ⟨_, ((t379 != t370)), (z_6), H', ⟨z_171⟩, ⟨z_172⟩, ⟨z_173⟩, ⟨z_2⟩⟩
            ·rw [if_neg c65] at H
             have c65b0 : (t378 == t369) = false := beq_eq_false_iff_ne.mpr c65
             have c65b1 : (t378 != t369) = true := bne_iff_ne.mpr c65
             have H' := Aside0.mk H
             clear H
             obtain ⟨Ao69, co69, eo69⟩ := Kd.R_slice HO_15.out
             subst eo69
             obtain ⟨Ao70, co70, eo70⟩ := Kd.V_slice HO_10.out
             subst eo70
             go_wp2_with (first | (go_at_call 37; (with_reducible refine (laws_eqKeptS.calls kj18 _ _ t377 _ _ t366 true _ ?side1 ?side2 ?side3 ?side4 A63.out).mono ?_); (case side1 => exact z_174); (case side2 => exact z_175); (case side3 => exact z_176); (case side4 => exact z_177); rintro e w71 ⟨rfl, hb⟩; have n0_ := Aside0.mk (Kd.V_below (z_161) hb); have n1_ := Aside0.mk (Kd.R_below (z_162) hb); have n2_ := Aside0.mk (Kd.R_below (z_163) hb); have n3_ := Aside0.mk (Kd.R_below (z_164) hb); have n4_ := Aside0.mk (Kd.R_below (z_167) hb); have n5_ := Aside0.mk (Kd.R_below (z_170) hb); have n6_ := Aside0.mk (below_step (z_2) hb); clear HO_10; clear HO_13; clear HO_14; clear HO_15; clear HO385; clear HO389; clear HB; have HO_10 := n0_; have HO_13 := n1_; have HO_14 := n2_; have HO_15 := n3_; have HO385 := n4_; have HO389 := n5_; have HB := n6_; clear n0_ n1_ n2_ n3_ n4_ n5_ n6_; (try clear hb); (try clear hb2); (try clear hk); (try clear hi)))
             go_meet
             case rel => exact ⟨_, (true), (z_6), H', ⟨z_171⟩, ⟨z_172⟩, ⟨z_173⟩, ⟨z_2⟩⟩
           ·replace c64 := Bool.eq_false_iff.mpr c64
            subst c64
            rw [if_neg (show ¬ (false = true) by decide)] at H
            have H' := Aside0.mk H
            clear H
            obtain ⟨Ao72, co72, eo72⟩ := Kd.R_slice HO_15.out
            subst eo72
            obtain ⟨Ao73, co73, eo73⟩ := Kd.V_slice HO_10.out
            subst eo73
            go_wp2_with (first | (go_at_call 37; (with_reducible refine (laws_eqKeptS.calls kj18 _ _ t377 _ _ t366 false _ ?side1 ?side2 ?side3 ?side4 A63.out).mono ?_); (case side1 => exact z_174); (case side2 => exact z_175); (case side3 => exact z_176); (case side4 => exact z_177); rintro e w74 ⟨rfl, hb⟩; have n0_ := Aside0.mk (Kd.V_below (z_161) hb); have n1_ := Aside0.mk (Kd.R_below (z_162) hb); have n2_ := Aside0.mk (Kd.R_below (z_163) hb); have n3_ := Aside0.mk (Kd.R_below (z_164) hb); have n4_ := Aside0.mk (Kd.R_below (z_167) hb); have n5_ := Aside0.mk (Kd.R_below (z_170) hb); have n6_ := Aside0.mk (below_step (z_2) hb); clear HO_10; clear HO_13; clear HO_14; clear HO_15; clear HO385; clear HO389; clear HB; have HO_10 := n0_; have HO_13 := n1_; have HO_14 := n2_; have HO_15 := n3_; have HO385 := n4_; have HO389 := n5_; have HB := n6_; clear n0_ n1_ n2_ n3_ n4_ n5_ n6_; (try clear hb); (try clear hb2); (try clear hk); (try clear hi)))
            go_meet
            case rel => exact ⟨_, (true), (z_6), H', ⟨z_171⟩, ⟨z_172⟩, ⟨z_173⟩, ⟨z_2⟩⟩
         case rest =>
          clear HC53
          try clear c1
          try clear c2
          try clear p2
          try clear c3
          try clear c4
          try clear c5
          try clear c5b0
          try clear c5b1
          try clear c6
          try clear c7
          try clear c7b0
          try clear c10
          try clear c10b0
          try clear c17
          try clear c24
          try clear c26
          try clear c28
          try clear c33
          try clear c34
          try clear c34b0
          try clear c34b1
          try clear c35
          try clear c37
          try clear c44
          try clear c47
          try clear c49
          try clear c50
          try clear c51
          try clear c52
          try clear c62
          try clear c62b0
          try clear c64
          try clear c65
          try clear c65b0
          try clear c65b1
          try clear p2
          obtain ⟨kq, x108_52, rfl, HA, HJ52, HO_10, HO_15, HB⟩ := hcut
          cases kq with
          | zero => exact absurd HA.out (by simp [laws_FnExactKeptFind.j1])
          | succ kj52 =>
           have H := HA.out
           clear HA
           simp only [laws_FnExactKeptFind.j1] at H
           by_cases c75 : x108_52 = true
           ·subst c75
            rw [if_pos rfl] at H
            obtain rfl := Option.some.inj H
            go_wp2
            go_ret
            exact ⟨z_4, z_2⟩
           ·replace c75 := Bool.eq_false_iff.mpr c75
            subst c75
            rw [if_neg (show ¬ (false = true) by decide)] at H
            replace H := Option.bind_eq_some_iff.mp H
            obtain ⟨⟨t396, t397⟩, A760, H⟩ := H
            replace H : ((laws_heldKeptS.f kj52 t397 1).bind fun t398 => (if t398 < 0 then (some false) else (if t398 = t396 then ((laws_toKeptS.f kj52 l0).bind fun t399 => ((laws_toNameS.f kj52 l1).bind fun t402 => ((impl_KeptFind.f kj52 t399 t402 a2 a3).bind fun bt405 => ((laws_eqKeptS.f kj52 bt405.1 t366).bind fun t410 => (if t410 = true then (if bt405.2.1 = t369 then (laws_FnExactKeptFind.j2 kj52 t397 t396 (bt405.2.2 != t370)) else (laws_FnExactKeptFind.j2 kj52 t397 t396 true)) else (laws_FnExactKeptFind.j2 kj52 t397 t396 true)))))) else (some false)))) = some r := H
            have A76 := Aside0.mk A760
            clear A760
            replace H := Option.bind_eq_some_iff.mp H
            obtain ⟨t398, A770, H⟩ := H
            have A77 := Aside0.mk A770
            clear A770
            by_cases c78 : t398 < 0
            ·rw [if_pos c78] at H
             have c78b0 : decide (t398 < 0) = true := decide_eq_true c78
             clear c78
             obtain rfl := Option.some.inj H
             obtain ⟨Ao79, co79, eo79⟩ := Kd.R_slice HO_15.out
             subst eo79
             go_wp2_with (first | ((with_reducible refine gate_callee (f := 51) rfl ?_); refine goesL_ (some 111) rfl rfl Try.func51 (z_0) rfl #[.slice Ao79 t377.length co79, .int .i64 1] rfl (z_8) ?_; (with_reducible refine (laws_markKeptS.calls kj52 (fun k_ => some k_ = (.slice Ao79 t377.length co79 : Value).ownBlock) (.slice Ao79 t377.length co79) t377 1 t396 t397 w _ ?side1 ?side2 A76.out).mono ?_); (case side1 => exact z_2); (case side2 => exact Kd.R_tight rfl HO_15.out); rintro e w80 ⟨rfl, hy0, hb, hkp⟩; refine ⟨_, rfl, ?_⟩; have n0_ := Aside0.mk (Kd.V_mono (ok' := fun k_ => some k_ ≠ (.slice Ao79 t377.length co79 : Value).ownBlock) (Kd.V_keptB (HO_10.out) hkp (fun k_ hk_ hs_ => (hk_) hs_)) (fun k_ hk_ => hk_.1)); have n1_ := Aside0.mk (Kd.R_reok rfl hy0 (fun k_ e_ => HO_15.out.1 k_ e_)); have n2_ := Aside0.mk (hb); clear HO_10; clear HO_15; clear HB; have HO_10 := n0_; have HO_15 := n1_; have HB := n2_; clear n0_ n1_ n2_; (try clear hb); (try clear hkp); (try clear hy0)) | ((with_reducible refine gate_callee (f := 53) rfl ?_); refine goesL_ (some 114) rfl rfl Try.func53 (z_0) rfl #[.slice Ao79 t397.length co79, .int .i64 1] rfl (z_178) ?_; (with_reducible refine (laws_heldKeptS.calls kj52 _ _ t397 1 t398 _ ?side1 ?side2 A77.out).mono ?_); (case side1 => exact z_174); (case side2 => exact z_179); rintro e w81 ⟨rfl, hb⟩; refine ⟨_, rfl, ?_⟩; have n0_ := Aside0.mk (Kd.V_below (z_161) hb); have n1_ := Aside0.mk (Kd.R_below (z_164) hb); have n2_ := Aside0.mk (below_step (z_2) hb); clear HO_10; clear HO_15; clear HB; have HO_10 := n0_; have HO_15 := n1_; have HB := n2_; clear n0_ n1_ n2_; (try clear hb); (try clear hb2); (try clear hk); (try clear hi)))
             go_ret
             exact ⟨z_4, z_2⟩
            ·rw [if_neg c78] at H
             have c78b0 : decide (t398 < 0) = false := decide_eq_false c78
             clear c78
             by_cases c82 : t398 = t396
             ·rw [if_pos c82] at H
              have c82b0 : (t398 == t396) = true := beq_iff_eq.mpr c82
              have c82b1 : (t398 != t396) = false := bne_eq_false_iff_eq.mpr c82
              clear c82
              replace H := Option.bind_eq_some_iff.mp H
              obtain ⟨t399, A830, H⟩ := H
              have A83 := Aside0.mk A830
              clear A830
              replace H := Option.bind_eq_some_iff.mp H
              obtain ⟨t402, A840, H⟩ := H
              have A84 := Aside0.mk A840
              clear A840
              replace H := Option.bind_eq_some_iff.mp H
              obtain ⟨⟨t405, t406, t407⟩, A850, H⟩ := H
              replace H : ((laws_eqKeptS.f kj52 t405 t366).bind fun t410 => (if t410 = true then (if t406 = t369 then (laws_FnExactKeptFind.j2 kj52 t397 t396 (t407 != t370)) else (laws_FnExactKeptFind.j2 kj52 t397 t396 true)) else (laws_FnExactKeptFind.j2 kj52 t397 t396 true))) = some r := H
              have A85 := Aside0.mk A850
              clear A850
              have HC86 := Aside0.mk H
              clear H
              obtain ⟨Ao87, co87, eo87⟩ := Kd.R_slice HO_15.out
              subst eo87
              go_upto_region 34 with (first | ((with_reducible refine gate_callee (f := 51) rfl ?_); refine goesL_ (some 111) rfl rfl Try.func51 (z_0) rfl #[.slice Ao87 t377.length co87, .int .i64 1] rfl (z_8) ?_; (with_reducible refine (laws_markKeptS.calls kj52 (fun k_ => some k_ = (.slice Ao87 t377.length co87 : Value).ownBlock) (.slice Ao87 t377.length co87) t377 1 t396 t397 w _ ?side1 ?side2 A76.out).mono ?_); (case side1 => exact z_2); (case side2 => exact Kd.R_tight rfl HO_15.out); rintro e w88 ⟨rfl, hy0, hb, hkp⟩; refine ⟨_, rfl, ?_⟩; have n0_ := Aside0.mk (Kd.V_mono (ok' := fun k_ => some k_ ≠ (.slice Ao87 t377.length co87 : Value).ownBlock) (Kd.V_keptB (HO_10.out) hkp (fun k_ hk_ hs_ => (hk_) hs_)) (fun k_ hk_ => hk_.1)); have n1_ := Aside0.mk (Kd.R_reok rfl hy0 (fun k_ e_ => HO_15.out.1 k_ e_)); have n2_ := Aside0.mk (hb); clear HO_10; clear HO_15; clear HB; have HO_10 := n0_; have HO_15 := n1_; have HB := n2_; clear n0_ n1_ n2_; (try clear hb); (try clear hkp); (try clear hy0)) | ((with_reducible refine gate_callee (f := 53) rfl ?_); refine goesL_ (some 114) rfl rfl Try.func53 (z_0) rfl #[.slice Ao87 t397.length co87, .int .i64 1] rfl (z_178) ?_; (with_reducible refine (laws_heldKeptS.calls kj52 _ _ t397 1 t398 _ ?side1 ?side2 A77.out).mono ?_); (case side1 => exact z_174); (case side2 => exact z_179); rintro e w89 ⟨rfl, hb⟩; refine ⟨_, rfl, ?_⟩; have n0_ := Aside0.mk (Kd.V_below (z_161) hb); have n1_ := Aside0.mk (Kd.R_below (z_164) hb); have n2_ := Aside0.mk (below_step (z_2) hb); clear HO_10; clear HO_15; clear HB; have HO_10 := n0_; have HO_15 := n1_; have HB := n2_; clear n0_ n1_ n2_; (try clear hb); (try clear hb2); (try clear hk); (try clear hi)) | ((with_reducible refine gate_callee (f := 35) rfl ?_); refine goesL_ (some 122) rfl rfl Try.func35 (z_0) rfl #[.slice A0 l0.length c0] rfl (z_8) ?_; (with_reducible refine (laws_toKeptS.calls kj52 _ _ l0 t399 _ ?side1 ?side2 A83.out).mono ?_); (case side1 => exact z_62); (case side2 => exact HC0.out); rintro e w90 ⟨v400, rfl, ho0, hb⟩; refine ⟨_, rfl, ?_⟩; have n0_ := Aside0.mk (Kd.V_elder' (z_161) (Kd.R_base ho0) hb); have n1_ := Aside0.mk (Kd.R_elder' (z_164) (Kd.R_base ho0) hb); have n2_ := Aside0.mk (Kd.R_lower (Kd.R_new' ho0 (Kd.R_lt (z_164))) (below_size (z_2))); have n3_ := Aside0.mk (below_step (z_2) hb); clear HO_10; clear HO_15; clear HB; have HO_10 := n0_; have HO_15 := n1_; have HO401 := n2_; have HB := n3_; clear n0_ n1_ n2_ n3_; (try clear hb); (try clear hb2); (try clear hk); (try clear hi); (try clear ho0)) | ((with_reducible refine gate_callee (f := 26) rfl ?_); refine goesL_ (some 124) rfl rfl Try.func26 (z_0) rfl #[.slice A1 l1.length c1] rfl (z_8) ?_; (with_reducible refine (laws_toNameS.calls kj52 _ _ l1 t402 _ ?side1 ?side2 A84.out).mono ?_); (case side1 => exact z_61); (case side2 => exact HC1.out); rintro e w91 ⟨v403, rfl, ho0, hb⟩; refine ⟨_, rfl, ?_⟩; have n0_ := Aside0.mk (Kd.V_elder' (z_161) (Kd.R_base ho0) hb); have n1_ := Aside0.mk (Kd.R_below (z_164) hb); have n2_ := Aside0.mk (Kd.R_below (z_180) hb); have n3_ := Aside0.mk (Kd.R_lower ho0 (below_size (z_2))); have n4_ := Aside0.mk (below_step (z_2) hb); clear HO_10; clear HO_15; clear HO401; clear HB; have HO_10 := n0_; have HO_15 := n1_; have HO401 := n2_; have HO404 := n3_; have HB := n4_; clear n0_ n1_ n2_ n3_ n4_; (try clear hb); (try clear hb2); (try clear hk); (try clear hi); (try clear ho0); obtain ⟨Ao92, co92, eo92⟩ := Kd.R_slice HO401.out; subst eo92; obtain ⟨Ao93, co93, eo93⟩ := Kd.R_slice HO404.out; subst eo93) | ((with_reducible refine gate_callee (f := 49) rfl ?_); refine goesL_ (some 127) rfl rfl Try.func49 (z_0) rfl #[.slice Ao92 t399.length co92, .slice Ao93 t402.length co93, .string a2, .int .i64 a3] rfl (z_8) ?_; (with_reducible refine (impl_KeptFind.calls kj52 _ _ t399 _ _ t402 a2 a3 t405 t406 t407 _ ?side1 ?side2 ?side3 ?side4 A85.out).mono ?_); (case side1 => repeat (first | exact (Kd.R_reads' HO401.out).2.2 | (with_reducible refine Kd.C_alloc ?_ _) | (with_reducible refine Kd.C_drewN ?_ _) | (with_reducible refine Kd.C_drew ?_))); (case side2 => exact (Kd.R_reads' HO401.out).2.1); (case side3 => repeat (first | exact (Kd.R_reads' HO404.out).2.2 | (with_reducible refine Kd.C_alloc ?_ _) | (with_reducible refine Kd.C_drewN ?_ _) | (with_reducible refine Kd.C_drew ?_))); (case side4 => exact (Kd.R_reads' HO404.out).2.1); rintro e w94 ⟨v408, rfl, ho0, hb⟩; refine ⟨_, rfl, ?_⟩; have n0_ := Aside0.mk (Kd.V_elder' (z_161) (Kd.R_base ho0) hb); have n1_ := Aside0.mk (Kd.R_elder' (z_164) (Kd.R_base ho0) hb); have n2_ := Aside0.mk (Kd.R_elder' (z_180) (Kd.R_base ho0) hb); have n3_ := Aside0.mk (Kd.R_below (z_181) hb); have n4_ := Aside0.mk (Kd.R_lower (Kd.R_new' (Kd.R_new' ho0 (Kd.R_lt (z_164))) (Kd.R_lt (z_180))) (below_size (z_2))); have n5_ := Aside0.mk (below_step (z_2) hb); clear HO_10; clear HO_15; clear HO401; clear HO404; clear HB; have HO_10 := n0_; have HO_15 := n1_; have HO401 := n2_; have HO404 := n3_; have HO409 := n4_; have HB := n5_; clear n0_ n1_ n2_ n3_ n4_ n5_; (try clear hb); (try clear hb2); (try clear hk); (try clear hi); (try clear ho0)))
              (try simp only [Act.put, List.setIfInBounds_toArray, List.set_cons_zero, List.set_cons_succ])
              go_cut [144] (fun v144 wc => ∃ (kq : Nat) (x144_85 : Bool), v144 = .bool x144_85 ∧ Aside0 (laws_FnExactKeptFind.j2 kq t397 t396 x144_85 = some r) ∧ Aside0 (kq ≤ kj52) ∧ Aside0 (Kd.R k83 83 wc w.heap.size (fun _ => True) (.slice Ao87 t377.length co87) t397) ∧ Aside0 (Below w.heap.size w wc))
              case first =>
               have H := HC86.out
               clear HC86
               replace H := Option.bind_eq_some_iff.mp H
               obtain ⟨t410, A950, H⟩ := H
               have A95 := Aside0.mk A950
               clear A950
               by_cases c96 : t410 = true
               ·subst c96
                rw [if_pos rfl] at H
                by_cases c97 : t406 = t369
                ·rw [if_pos c97] at H
                 have c97b0 : (t406 == t369) = true := beq_iff_eq.mpr c97
                 have c97b1 : (t406 != t369) = false := bne_eq_false_iff_eq.mpr c97
                 clear c97
                 (first | rw [c97b0] | (simp only [i64_w, i32_w]; rw [c97b0]) | skip)
                 have H' := Aside0.mk H
                 clear H
                 obtain ⟨Ao98, co98, eo98⟩ := Kd.R_slice HO409.out
                 subst eo98
                 obtain ⟨Ao99, co99, eo99⟩ := Kd.V_slice HO_10.out
                 subst eo99
                 go_wp2_with (first | ((with_reducible refine gate_callee (f := 37) rfl ?_); refine goesL_ (some 133) rfl rfl Try.func37 (z_0) rfl #[.slice Ao98 t405.length co98, .slice Ao99 t366.length co99] rfl (z_8) ?_; (with_reducible refine (laws_eqKeptS.calls kj52 _ _ t405 _ _ t366 true _ ?side1 ?side2 ?side3 ?side4 A95.out).mono ?_); (case side1 => exact z_182); (case side2 => exact (Kd.R_reads' HO409.out).2.1); (case side3 => exact z_176); (case side4 => exact z_177); rintro e w100 ⟨rfl, hb⟩; refine ⟨_, rfl, ?_⟩; have n0_ := Aside0.mk (Kd.V_below (z_161) hb); have n1_ := Aside0.mk (Kd.R_below (z_164) hb); have n2_ := Aside0.mk (Kd.R_below (z_180) hb); have n3_ := Aside0.mk (Kd.R_below (z_181) hb); have n4_ := Aside0.mk (Kd.R_below (z_183) hb); have n5_ := Aside0.mk (below_step (z_2) hb); clear HO_10; clear HO_15; clear HO401; clear HO404; clear HO409; clear HB; have HO_10 := n0_; have HO_15 := n1_; have HO401 := n2_; have HO404 := n3_; have HO409 := n4_; have HB := n5_; clear n0_ n1_ n2_ n3_ n4_ n5_; (try clear hb); (try clear hb2); (try clear hk); (try clear hi)))
                 go_meet
                 case rel => exact ⟨_, ((t407 != t370)), (z_6), H', ⟨z_184⟩, ⟨z_173⟩, ⟨z_2⟩⟩
                ·rw [if_neg c97] at H
                 have c97b0 : (t406 == t369) = false := beq_eq_false_iff_ne.mpr c97
                 have c97b1 : (t406 != t369) = true := bne_iff_ne.mpr c97
                 (first | rw [c97b0] | (simp only [i64_w, i32_w]; rw [c97b0]) | skip)
                 have H' := Aside0.mk H
                 clear H
                 obtain ⟨Ao101, co101, eo101⟩ := Kd.R_slice HO409.out
                 subst eo101
                 obtain ⟨Ao102, co102, eo102⟩ := Kd.V_slice HO_10.out
                 subst eo102
                 go_wp2_with (first | ((with_reducible refine gate_callee (f := 37) rfl ?_); refine goesL_ (some 133) rfl rfl Try.func37 (z_0) rfl #[.slice Ao101 t405.length co101, .slice Ao102 t366.length co102] rfl (z_8) ?_; (with_reducible refine (laws_eqKeptS.calls kj52 _ _ t405 _ _ t366 true _ ?side1 ?side2 ?side3 ?side4 A95.out).mono ?_); (case side1 => exact z_182); (case side2 => exact (Kd.R_reads' HO409.out).2.1); (case side3 => exact z_176); (case side4 => exact z_177); rintro e w103 ⟨rfl, hb⟩; refine ⟨_, rfl, ?_⟩; have n0_ := Aside0.mk (Kd.V_below (z_161) hb); have n1_ := Aside0.mk (Kd.R_below (z_164) hb); have n2_ := Aside0.mk (Kd.R_below (z_180) hb); have n3_ := Aside0.mk (Kd.R_below (z_181) hb); have n4_ := Aside0.mk (Kd.R_below (z_183) hb); have n5_ := Aside0.mk (below_step (z_2) hb); clear HO_10; clear HO_15; clear HO401; clear HO404; clear HO409; clear HB; have HO_10 := n0_; have HO_15 := n1_; have HO401 := n2_; have HO404 := n3_; have HO409 := n4_; have HB := n5_; clear n0_ n1_ n2_ n3_ n4_ n5_; (try clear hb); (try clear hb2); (try clear hk); (try clear hi)))
                 go_meet
                 case rel => exact ⟨_, (true), (z_6), H', ⟨z_184⟩, ⟨z_173⟩, ⟨z_2⟩⟩
               ·replace c96 := Bool.eq_false_iff.mpr c96
                subst c96
                rw [if_neg (show ¬ (false = true) by decide)] at H
                have H' := Aside0.mk H
                clear H
                obtain ⟨Ao104, co104, eo104⟩ := Kd.R_slice HO409.out
                subst eo104
                obtain ⟨Ao105, co105, eo105⟩ := Kd.V_slice HO_10.out
                subst eo105
                go_wp2_with (first | ((with_reducible refine gate_callee (f := 37) rfl ?_); refine goesL_ (some 133) rfl rfl Try.func37 (z_0) rfl #[.slice Ao104 t405.length co104, .slice Ao105 t366.length co105] rfl (z_8) ?_; (with_reducible refine (laws_eqKeptS.calls kj52 _ _ t405 _ _ t366 false _ ?side1 ?side2 ?side3 ?side4 A95.out).mono ?_); (case side1 => exact z_182); (case side2 => exact (Kd.R_reads' HO409.out).2.1); (case side3 => exact z_176); (case side4 => exact z_177); rintro e w106 ⟨rfl, hb⟩; refine ⟨_, rfl, ?_⟩; have n0_ := Aside0.mk (Kd.V_below (z_161) hb); have n1_ := Aside0.mk (Kd.R_below (z_164) hb); have n2_ := Aside0.mk (Kd.R_below (z_180) hb); have n3_ := Aside0.mk (Kd.R_below (z_181) hb); have n4_ := Aside0.mk (Kd.R_below (z_183) hb); have n5_ := Aside0.mk (below_step (z_2) hb); clear HO_10; clear HO_15; clear HO401; clear HO404; clear HO409; clear HB; have HO_10 := n0_; have HO_15 := n1_; have HO401 := n2_; have HO404 := n3_; have HO409 := n4_; have HB := n5_; clear n0_ n1_ n2_ n3_ n4_ n5_; (try clear hb); (try clear hb2); (try clear hk); (try clear hi)))
                go_meet
                case rel => exact ⟨_, (true), (z_6), H', ⟨z_184⟩, ⟨z_173⟩, ⟨z_2⟩⟩
              case rest =>
               clear HC86
               try clear c1
               try clear c2
               try clear p2
               try clear c3
               try clear c4
               try clear c5
               try clear c5b0
               try clear c5b1
               try clear c6
               try clear c7
               try clear c7b0
               try clear c8
               try clear c9
               try clear c10
               try clear c10b0
               try clear c17
               try clear c24
               try clear c26
               try clear c28
               try clear c33
               try clear c34
               try clear c34b0
               try clear c34b1
               try clear c35
               try clear c37
               try clear c44
               try clear c47
               try clear c49
               try clear c50
               try clear c51
               try clear c52
               try clear c53
               try clear c62
               try clear c62b0
               try clear c64
               try clear c65
               try clear c65b0
               try clear c65b1
               try clear c75
               try clear c78
               try clear c78b0
               try clear c82
               try clear c82b0
               try clear c82b1
               try clear c96
               try clear c97
               try clear c97b0
               try clear c97b1
               try clear p2
               obtain ⟨kq, x144_85, rfl, HA, HJ85, HO_15, HB⟩ := hcut
               have hl15_85 := (Kd.R_reads' HO_15.out).1
               rw [hl15_85] at HO_15
               (try simp only [hl15_85])
               cases kq with
               | zero => exact absurd HA.out (by simp [laws_FnExactKeptFind.j2])
               | succ kj85 =>
                have H := HA.out
                clear HA
                simp only [laws_FnExactKeptFind.j2] at H
                by_cases c107 : x144_85 = true
                ·subst c107
                 rw [if_pos rfl] at H
                 obtain rfl := Option.some.inj H
                 go_wp2
                 go_ret
                 exact ⟨z_4, z_2⟩
                ·replace c107 := Bool.eq_false_iff.mpr c107
                 subst c107
                 rw [if_neg (show ¬ (false = true) by decide)] at H
                 replace H := Option.bind_eq_some_iff.mp H
                 obtain ⟨t411, A1080, H⟩ := H
                 have A108 := Aside0.mk A1080
                 clear A1080
                 by_cases c109 : t411 < 0
                 ·rw [if_pos c109] at H
                  have c109b0 : decide (t411 < 0) = true := decide_eq_true c109
                  clear c109
                  obtain rfl := Option.some.inj H
                  go_wp2_with (first | ((with_reducible refine gate_callee (f := 53) rfl ?_); refine goesL_ (some 147) rfl rfl Try.func53 (z_0) rfl #[.slice Ao87 t397.length co87, .int .i64 1] rfl (z_8) ?_; (with_reducible refine (laws_heldKeptS.calls kj85 _ _ t397 1 t411 _ ?side1 ?side2 A108.out).mono ?_); (case side1 => exact z_174); (case side2 => exact z_175); rintro e w110 ⟨rfl, hb⟩; refine ⟨_, rfl, ?_⟩; have n0_ := Aside0.mk (Kd.R_below (z_164) hb); have n1_ := Aside0.mk (below_step (z_2) hb); clear HO_15; clear HB; have HO_15 := n0_; have HB := n1_; clear n0_ n1_; (try clear hb); (try clear hb2); (try clear hk); (try clear hi)))
                  go_ret
                  exact ⟨z_4, z_2⟩
                 ·rw [if_neg c109] at H
                  have c109b0 : decide (t411 < 0) = false := decide_eq_false c109
                  clear c109
                  by_cases c111 : t411 = t396
                  ·rw [if_pos c111] at H
                   have c111b0 : (t411 == t396) = true := beq_iff_eq.mpr c111
                   have c111b1 : (t411 != t396) = false := bne_eq_false_iff_eq.mpr c111
                   clear c111
                   obtain rfl := Option.some.inj H
                   go_wp2_with (first | ((with_reducible refine gate_callee (f := 53) rfl ?_); refine goesL_ (some 147) rfl rfl Try.func53 (z_0) rfl #[.slice Ao87 t397.length co87, .int .i64 1] rfl (z_8) ?_; (with_reducible refine (laws_heldKeptS.calls kj85 _ _ t397 1 t411 _ ?side1 ?side2 A108.out).mono ?_); (case side1 => exact z_174); (case side2 => exact z_175); rintro e w112 ⟨rfl, hb⟩; refine ⟨_, rfl, ?_⟩; have n0_ := Aside0.mk (Kd.R_below (z_164) hb); have n1_ := Aside0.mk (below_step (z_2) hb); clear HO_15; clear HB; have HO_15 := n0_; have HB := n1_; clear n0_ n1_; (try clear hb); (try clear hb2); (try clear hk); (try clear hi)))
                   go_ret
                   exact ⟨z_4, z_2⟩
                  ·rw [if_neg c111] at H
                   have c111b0 : (t411 == t396) = false := beq_eq_false_iff_ne.mpr c111
                   have c111b1 : (t411 != t396) = true := bne_iff_ne.mpr c111
                   obtain rfl := Option.some.inj H
                   go_wp2_with (first | ((with_reducible refine gate_callee (f := 53) rfl ?_); refine goesL_ (some 147) rfl rfl Try.func53 (z_0) rfl #[.slice Ao87 t397.length co87, .int .i64 1] rfl (z_8) ?_; (with_reducible refine (laws_heldKeptS.calls kj85 _ _ t397 1 t411 _ ?side1 ?side2 A108.out).mono ?_); (case side1 => exact z_174); (case side2 => exact z_175); rintro e w113 ⟨rfl, hb⟩; refine ⟨_, rfl, ?_⟩; have n0_ := Aside0.mk (Kd.R_below (z_164) hb); have n1_ := Aside0.mk (below_step (z_2) hb); clear HO_15; clear HB; have HO_15 := n0_; have HB := n1_; clear n0_ n1_; (try clear hb); (try clear hb2); (try clear hk); (try clear hi)))
                   go_ret
                   exact ⟨z_4, z_2⟩
             ·rw [if_neg c82] at H
              have c82b0 : (t398 == t396) = false := beq_eq_false_iff_ne.mpr c82
              have c82b1 : (t398 != t396) = true := bne_iff_ne.mpr c82
              obtain rfl := Option.some.inj H
              obtain ⟨Ao114, co114, eo114⟩ := Kd.R_slice HO_15.out
              subst eo114
              go_wp2_with (first | ((with_reducible refine gate_callee (f := 51) rfl ?_); refine goesL_ (some 111) rfl rfl Try.func51 (z_0) rfl #[.slice Ao114 t377.length co114, .int .i64 1] rfl (z_8) ?_; (with_reducible refine (laws_markKeptS.calls kj52 (fun k_ => some k_ = (.slice Ao114 t377.length co114 : Value).ownBlock) (.slice Ao114 t377.length co114) t377 1 t396 t397 w _ ?side1 ?side2 A76.out).mono ?_); (case side1 => exact z_2); (case side2 => exact Kd.R_tight rfl HO_15.out); rintro e w115 ⟨rfl, hy0, hb, hkp⟩; refine ⟨_, rfl, ?_⟩; have n0_ := Aside0.mk (Kd.V_mono (ok' := fun k_ => some k_ ≠ (.slice Ao114 t377.length co114 : Value).ownBlock) (Kd.V_keptB (HO_10.out) hkp (fun k_ hk_ hs_ => (hk_) hs_)) (fun k_ hk_ => hk_.1)); have n1_ := Aside0.mk (Kd.R_reok rfl hy0 (fun k_ e_ => HO_15.out.1 k_ e_)); have n2_ := Aside0.mk (hb); clear HO_10; clear HO_15; clear HB; have HO_10 := n0_; have HO_15 := n1_; have HB := n2_; clear n0_ n1_ n2_; (try clear hb); (try clear hkp); (try clear hy0)) | ((with_reducible refine gate_callee (f := 53) rfl ?_); refine goesL_ (some 114) rfl rfl Try.func53 (z_0) rfl #[.slice Ao114 t397.length co114, .int .i64 1] rfl (z_178) ?_; (with_reducible refine (laws_heldKeptS.calls kj52 _ _ t397 1 t398 _ ?side1 ?side2 A77.out).mono ?_); (case side1 => exact z_174); (case side2 => exact z_179); rintro e w116 ⟨rfl, hb⟩; refine ⟨_, rfl, ?_⟩; have n0_ := Aside0.mk (Kd.V_below (z_161) hb); have n1_ := Aside0.mk (Kd.R_below (z_164) hb); have n2_ := Aside0.mk (below_step (z_2) hb); clear HO_10; clear HO_15; clear HB; have HO_10 := n0_; have HO_15 := n1_; have HB := n2_; clear n0_ n1_ n2_; (try clear hb); (try clear hb2); (try clear hk); (try clear hi)))
              go_ret
              exact ⟨z_4, z_2⟩
        ·replace c50 := Bool.eq_false_iff.mpr c50
         subst c50
         rw [if_neg (show ¬ (false = true) by decide)] at H
         obtain rfl := Option.some.inj H
         go_wp2_with (first | ((with_reducible refine gate_callee (f := 35) rfl ?_); refine goesL_ (some 77) rfl rfl Try.func35 (z_0) rfl #[.slice A0 l0.length c0] rfl (z_8) ?_; (with_reducible refine (laws_toKeptS.calls kj18 _ _ l0 t383 _ ?side1 ?side2 A45.out).mono ?_); (case side1 => exact z_62); (case side2 => exact HC0.out); rintro e w117 ⟨v384, rfl, ho0, hb⟩; refine ⟨_, rfl, ?_⟩; have n0_ := Aside0.mk (Kd.V_elder' (z_161) (Kd.R_base ho0) hb); have n1_ := Aside0.mk (Kd.R_elder' (z_162) (Kd.R_base ho0) hb); have n2_ := Aside0.mk (Kd.R_below (z_163) hb); have n3_ := Aside0.mk (Kd.R_elder' (z_164) (Kd.R_base ho0) hb); have n4_ := Aside0.mk (Kd.R_lower (Kd.R_new' (Kd.R_new' ho0 (Kd.R_lt (z_162))) (Kd.R_lt (z_164))) (below_size (z_2))); have n5_ := Aside0.mk (below_step (z_2) hb); clear HO_10; clear HO_13; clear HO_14; clear HO_15; clear HB; have HO_10 := n0_; have HO_13 := n1_; have HO_14 := n2_; have HO_15 := n3_; have HO385 := n4_; have HB := n5_; clear n0_ n1_ n2_ n3_ n4_ n5_; (try clear hb); (try clear hb2); (try clear hk); (try clear hi); (try clear ho0); obtain ⟨Ao118, co118, eo118⟩ := Kd.R_slice HO385.out; subst eo118) | ((with_reducible refine gate_callee (f := 37) rfl ?_); refine goesL_ (some 78) rfl rfl Try.func37 (z_0) rfl #[.slice Ao29 t371.length co29, .slice Ao118 t383.length co118] rfl (z_8) ?_; (with_reducible refine (laws_eqKeptS.calls kj18 _ _ t371 _ _ t383 true _ ?side1 ?side2 ?side3 ?side4 A46.out).mono ?_); (case side1 => exact z_165); (case side2 => exact (Kd.R_reads' HO_13.out).2.1); (case side3 => exact z_166); (case side4 => exact (Kd.R_reads' HO385.out).2.1); rintro e w119 ⟨rfl, hb⟩; refine ⟨_, rfl, ?_⟩; have n0_ := Aside0.mk (Kd.V_below (z_161) hb); have n1_ := Aside0.mk (Kd.R_below (z_162) hb); have n2_ := Aside0.mk (Kd.R_below (z_163) hb); have n3_ := Aside0.mk (Kd.R_below (z_164) hb); have n4_ := Aside0.mk (Kd.R_below (z_167) hb); have n5_ := Aside0.mk (below_step (z_2) hb); clear HO_10; clear HO_13; clear HO_14; clear HO_15; clear HO385; clear HB; have HO_10 := n0_; have HO_13 := n1_; have HO_14 := n2_; have HO_15 := n3_; have HO385 := n4_; have HB := n5_; clear n0_ n1_ n2_ n3_ n4_ n5_; (try clear hb); (try clear hb2); (try clear hk); (try clear hi)) | ((with_reducible refine gate_callee (f := 26) rfl ?_); refine goesL_ (some 82) rfl rfl Try.func26 (z_0) rfl #[.slice A1 l1.length c1] rfl (z_8) ?_; (with_reducible refine (laws_toNameS.calls kj18 _ _ l1 t387 _ ?side1 ?side2 A48.out).mono ?_); (case side1 => exact z_61); (case side2 => exact HC1.out); rintro e w120 ⟨v388, rfl, ho0, hb⟩; refine ⟨_, rfl, ?_⟩; have n0_ := Aside0.mk (Kd.V_elder' (z_161) (Kd.R_base ho0) hb); have n1_ := Aside0.mk (Kd.R_below (z_162) hb); have n2_ := Aside0.mk (Kd.R_elder' (z_163) (Kd.R_base ho0) hb); have n3_ := Aside0.mk (Kd.R_below (z_164) hb); have n4_ := Aside0.mk (Kd.R_below (z_167) hb); have n5_ := Aside0.mk (Kd.R_lower (Kd.R_new' ho0 (Kd.R_lt (z_163))) (below_size (z_2))); have n6_ := Aside0.mk (below_step (z_2) hb); clear HO_10; clear HO_13; clear HO_14; clear HO_15; clear HO385; clear HB; have HO_10 := n0_; have HO_13 := n1_; have HO_14 := n2_; have HO_15 := n3_; have HO385 := n4_; have HO389 := n5_; have HB := n6_; clear n0_ n1_ n2_ n3_ n4_ n5_ n6_; (try clear hb); (try clear hb2); (try clear hk); (try clear hi); (try clear ho0); obtain ⟨Ao121, co121, eo121⟩ := Kd.R_slice HO389.out; subst eo121) | ((with_reducible refine gate_callee (f := 28) rfl ?_); refine goesL_ (some 83) rfl rfl Try.func28 (z_0) rfl #[.slice Ao30 t374.length co30, .slice Ao121 t387.length co121] rfl (z_8) ?_; (with_reducible refine (laws_eqNameS.calls kj18 _ _ t374 _ _ t387 false _ ?side1 ?side2 ?side3 ?side4 A49.out).mono ?_); (case side1 => exact z_168); (case side2 => exact (Kd.R_reads' HO_14.out).2.1); (case side3 => exact z_169); (case side4 => exact (Kd.R_reads' HO389.out).2.1); rintro e w122 ⟨rfl, hb⟩; refine ⟨_, rfl, ?_⟩; have n0_ := Aside0.mk (Kd.V_below (z_161) hb); have n1_ := Aside0.mk (Kd.R_below (z_162) hb); have n2_ := Aside0.mk (Kd.R_below (z_163) hb); have n3_ := Aside0.mk (Kd.R_below (z_164) hb); have n4_ := Aside0.mk (Kd.R_below (z_167) hb); have n5_ := Aside0.mk (Kd.R_below (z_170) hb); have n6_ := Aside0.mk (below_step (z_2) hb); clear HO_10; clear HO_13; clear HO_14; clear HO_15; clear HO385; clear HO389; clear HB; have HO_10 := n0_; have HO_13 := n1_; have HO_14 := n2_; have HO_15 := n3_; have HO385 := n4_; have HO389 := n5_; have HB := n6_; clear n0_ n1_ n2_ n3_ n4_ n5_ n6_; (try clear hb); (try clear hb2); (try clear hk); (try clear hi)))
         go_ret
         exact ⟨z_4, z_2⟩
       ·replace c47 := Bool.eq_false_iff.mpr c47
        subst c47
        rw [if_neg (show ¬ (false = true) by decide)] at H
        obtain rfl := Option.some.inj H
        go_wp2_with (first | ((with_reducible refine gate_callee (f := 35) rfl ?_); refine goesL_ (some 77) rfl rfl Try.func35 (z_0) rfl #[.slice A0 l0.length c0] rfl (z_8) ?_; (with_reducible refine (laws_toKeptS.calls kj18 _ _ l0 t383 _ ?side1 ?side2 A45.out).mono ?_); (case side1 => exact z_62); (case side2 => exact HC0.out); rintro e w123 ⟨v384, rfl, ho0, hb⟩; refine ⟨_, rfl, ?_⟩; have n0_ := Aside0.mk (Kd.V_elder' (z_161) (Kd.R_base ho0) hb); have n1_ := Aside0.mk (Kd.R_elder' (z_162) (Kd.R_base ho0) hb); have n2_ := Aside0.mk (Kd.R_below (z_163) hb); have n3_ := Aside0.mk (Kd.R_elder' (z_164) (Kd.R_base ho0) hb); have n4_ := Aside0.mk (Kd.R_lower (Kd.R_new' (Kd.R_new' ho0 (Kd.R_lt (z_162))) (Kd.R_lt (z_164))) (below_size (z_2))); have n5_ := Aside0.mk (below_step (z_2) hb); clear HO_10; clear HO_13; clear HO_14; clear HO_15; clear HB; have HO_10 := n0_; have HO_13 := n1_; have HO_14 := n2_; have HO_15 := n3_; have HO385 := n4_; have HB := n5_; clear n0_ n1_ n2_ n3_ n4_ n5_; (try clear hb); (try clear hb2); (try clear hk); (try clear hi); (try clear ho0); obtain ⟨Ao124, co124, eo124⟩ := Kd.R_slice HO385.out; subst eo124) | ((with_reducible refine gate_callee (f := 37) rfl ?_); refine goesL_ (some 78) rfl rfl Try.func37 (z_0) rfl #[.slice Ao29 t371.length co29, .slice Ao124 t383.length co124] rfl (z_8) ?_; (with_reducible refine (laws_eqKeptS.calls kj18 _ _ t371 _ _ t383 false _ ?side1 ?side2 ?side3 ?side4 A46.out).mono ?_); (case side1 => exact z_165); (case side2 => exact (Kd.R_reads' HO_13.out).2.1); (case side3 => exact z_166); (case side4 => exact (Kd.R_reads' HO385.out).2.1); rintro e w125 ⟨rfl, hb⟩; refine ⟨_, rfl, ?_⟩; have n0_ := Aside0.mk (Kd.V_below (z_161) hb); have n1_ := Aside0.mk (Kd.R_below (z_162) hb); have n2_ := Aside0.mk (Kd.R_below (z_163) hb); have n3_ := Aside0.mk (Kd.R_below (z_164) hb); have n4_ := Aside0.mk (Kd.R_below (z_167) hb); have n5_ := Aside0.mk (below_step (z_2) hb); clear HO_10; clear HO_13; clear HO_14; clear HO_15; clear HO385; clear HB; have HO_10 := n0_; have HO_13 := n1_; have HO_14 := n2_; have HO_15 := n3_; have HO385 := n4_; have HB := n5_; clear n0_ n1_ n2_ n3_ n4_ n5_; (try clear hb); (try clear hb2); (try clear hk); (try clear hi)))
        go_ret
        exact ⟨z_4, z_2⟩

end Go.Proofs.Ytmgnmgobibpjjaa.GFnExactKeptFind
