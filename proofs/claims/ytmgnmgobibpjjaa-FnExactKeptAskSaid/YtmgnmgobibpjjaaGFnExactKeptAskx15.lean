/- What the Go functions that FnExactKeptAsk reaches come to, walked step by step; there is no condition beyond those each statement names. -/
import Derived.Test.YtmgnmgobibpjjaaGFnExactKeptAskx0
import Derived.Test.YtmgnmgobibpjjaaGFnExactKeptAskx1
import Derived.Test.YtmgnmgobibpjjaaGFnExactKeptAskx2
import Derived.Test.YtmgnmgobibpjjaaGFnExactKeptAskx8
import Derived.Test.YtmgnmgobibpjjaaGFnExactKeptAskx12
import Derived.Test.YtmgnmgobibpjjaaGFnExactKeptAskx13
import Derived.Test.YtmgnmgobibpjjaaGFnExactKeptAskx14
namespace Go.Proofs.Ytmgnmgobibpjjaa.GFnExactKeptAsk
open Go.RowKit Go.Proofs.YtmgnmgobibpjjaaVExactKeptAsk.PrintWords Go.Proofs.YtmgnmgobibpjjaaVExactKeptAsk.PrintLast Go.Proofs.YtmgnmgobibpjjaaVExactKeptAsk.PrintMore
attribute [local go_sem] max2_int min2_int max_two min_two max_three min_three max_four min_four   -- for this text's walks alone
set_option linter.unusedVariables false
set_option linter.unusedSimpArgs false

/-! ### laws_FnExactKeptAsk: function 16 -/
mutual
def laws_FnExactKeptAsk.j0 : Nat → List (S81) → List (S23) → ByteArray → Int → List (S83) → Bool → List (S83) → List (S26) → List (S83) → Bool → Bool → ByteArray → Int → Int → ByteArray → Int → ByteArray → Int → Int → ByteArray → Int → Option (Bool)
 | 0, _, _, _, _, _, _, _, _, _, _, _, _, _, _, _, _, _, _, _, _, _ => none
 | k + 1, x0, x1, x2, x3, x10, x12, x13, x14, x15, x17, x75, x356000, x356001, x356002, x356003, x356004, x372000, x372001, x372002, x372003, x372004 => if x75 = true then (some false) else ((laws_toKeptS.f k x0).bind fun t374 => ((laws_eqKeptS.f k x13 t374).bind fun t377 => (if t377 = true then ((laws_toNameS.f k x1).bind fun t378 => ((laws_eqNameS.f k x14 t378).bind fun t381 => (if t381 = true then ((laws_markKeptS.f k x13 1).bind fun bt382 => ((laws_markNameS.f k x14 bt382.1).bind fun bt384 => (if bt384.1 < 0 then (laws_FnExactKeptAsk.j1 k x0 x1 x2 x3 x10 x12 x15 true x356000 x356001 x356002 x356003 x356004) else ((laws_eqKeptS.f k x15 x10).bind fun t386 => (if t386 = true then ((laws_eqName.f x372000 x372001 x372002 x372003 x372004 x356000 x356001 x356002 x356003 x356004).bind fun t387 => (if t387 = true then (laws_FnExactKeptAsk.j1 k x0 x1 x2 x3 x10 x12 x15 (x17 != x12) x356000 x356001 x356002 x356003 x356004) else (laws_FnExactKeptAsk.j1 k x0 x1 x2 x3 x10 x12 x15 true x356000 x356001 x356002 x356003 x356004))) else (laws_FnExactKeptAsk.j1 k x0 x1 x2 x3 x10 x12 x15 true x356000 x356001 x356002 x356003 x356004)))))) else (some false)))) else (some false))))
def laws_FnExactKeptAsk.j1 : Nat → List (S81) → List (S23) → ByteArray → Int → List (S83) → Bool → List (S83) → Bool → ByteArray → Int → Int → ByteArray → Int → Option (Bool)
 | 0, _, _, _, _, _, _, _, _, _, _, _, _, _ => none
 | k + 1, x0, x1, x2, x3, x10, x12, x15, x110, x356000, x356001, x356002, x356003, x356004 => if x110 = true then (some false) else ((laws_markKeptS.f k x15 1).bind fun bt388 => ((laws_heldKeptS.f k bt388.2 1).bind fun t390 => (if t390 < 0 then (some false) else (if t390 = bt388.1 then ((laws_toKeptS.f k x0).bind fun t391 => ((laws_toNameS.f k x1).bind fun t394 => ((impl_KeptAsk.f k t391 t394 x2 x3).bind fun bt397 => ((laws_eqKeptS.f k bt397.1 x10).bind fun t407 => (if t407 = true then ((laws_eqName.f bt397.2.1 bt397.2.2.1 bt397.2.2.2.1 bt397.2.2.2.2.1 bt397.2.2.2.2.2.1 x356000 x356001 x356002 x356003 x356004).bind fun t408 => (if t408 = true then (laws_FnExactKeptAsk.j2 k bt388.2 bt388.1 (bt397.2.2.2.2.2.2 != x12)) else (laws_FnExactKeptAsk.j2 k bt388.2 bt388.1 true))) else (laws_FnExactKeptAsk.j2 k bt388.2 bt388.1 true)))))) else (some false)))))
def laws_FnExactKeptAsk.j2 : Nat → List (S83) → Int → Bool → Option (Bool)
 | 0, _, _, _ => none
 | k + 1, x15, x19, x147 => if x147 = true then (some false) else ((laws_heldKeptS.f k x15 1).bind fun t409 => (if t409 < 0 then (some false) else (if t409 = x19 then (some true) else (some false))))
end
def laws_FnExactKeptAsk.f (k : Nat) (l0 : List (S81)) (l1 : List (S23)) (a2 : ByteArray) (a3 : Int) : Option (Bool) := if (a2.size : Int) > 1048576 then (some true) else ((laws_szKeptS.f k l0 1048576).bind fun t338 => (if t338 < 0 then (some true) else ((laws_szNameS.f k l1 t338).bind fun t339 => (if t339 < 0 then (some true) else ((laws_toKeptS.f k l0).bind fun t340 => ((laws_toNameS.f k l1).bind fun t343 => ((spec_KeptAsk.f k t340 t343 a2 a3).bind fun bt346 => ((laws_toKeptS.f k l0).bind fun t356 => ((laws_toNameS.f k l1).bind fun t359 => ((impl_KeptAsk.f k t356 t359 a2 a3).bind fun bt362 => ((laws_eqKeptS.f k bt362.1 bt346.1).bind fun t372 => (if t372 = true then ((laws_eqName.f bt362.2.1 bt362.2.2.1 bt362.2.2.2.1 bt362.2.2.2.2.1 bt362.2.2.2.2.2.1 bt346.2.1 bt346.2.2.1 bt346.2.2.2.1 bt346.2.2.2.2.1 bt346.2.2.2.2.2.1).bind fun t373 => (if t373 = true then (laws_FnExactKeptAsk.j0 k l0 l1 a2 a3 bt346.1 bt346.2.2.2.2.2.2 t356 t359 bt362.1 bt362.2.2.2.2.2.2 (bt362.2.2.2.2.2.2 != bt346.2.2.2.2.2.2) bt346.2.1 bt346.2.2.1 bt346.2.2.2.1 bt346.2.2.2.2.1 bt346.2.2.2.2.2.1 bt362.2.1 bt362.2.2.1 bt362.2.2.2.1 bt362.2.2.2.2.1 bt362.2.2.2.2.2.1) else (laws_FnExactKeptAsk.j0 k l0 l1 a2 a3 bt346.1 bt346.2.2.2.2.2.2 t356 t359 bt362.1 bt362.2.2.2.2.2.2 true bt346.2.1 bt346.2.2.1 bt346.2.2.2.1 bt346.2.2.2.2.1 bt346.2.2.2.2.2.1 bt362.2.1 bt362.2.2.1 bt362.2.2.2.1 bt362.2.2.2.2.1 bt362.2.2.2.2.2.1))) else (laws_FnExactKeptAsk.j0 k l0 l1 a2 a3 bt346.1 bt346.2.2.2.2.2.2 t356 t359 bt362.1 bt362.2.2.2.2.2.2 true bt346.2.1 bt346.2.2.1 bt346.2.2.2.1 bt346.2.2.2.2.1 bt346.2.2.2.2.2.1 bt362.2.1 bt362.2.2.1 bt362.2.2.2.1 bt362.2.2.2.2.1 bt362.2.2.2.2.2.1)))))))))))))
theorem laws_FnExactKeptAsk.mono_l : ∀ k, (∀ y0 y1 y2 y3 y4 y5 y6 y7 y8 y9 y10 y11 y12 y13 y14 y15 y16 y17 y18 y19 y20, LeO (laws_FnExactKeptAsk.j0 k y0 y1 y2 y3 y4 y5 y6 y7 y8 y9 y10 y11 y12 y13 y14 y15 y16 y17 y18 y19 y20) (laws_FnExactKeptAsk.j0 (k + 1) y0 y1 y2 y3 y4 y5 y6 y7 y8 y9 y10 y11 y12 y13 y14 y15 y16 y17 y18 y19 y20)) ∧ (∀ y0 y1 y2 y3 y4 y5 y6 y7 y8 y9 y10 y11 y12, LeO (laws_FnExactKeptAsk.j1 k y0 y1 y2 y3 y4 y5 y6 y7 y8 y9 y10 y11 y12) (laws_FnExactKeptAsk.j1 (k + 1) y0 y1 y2 y3 y4 y5 y6 y7 y8 y9 y10 y11 y12)) ∧ (∀ y0 y1 y2, LeO (laws_FnExactKeptAsk.j2 k y0 y1 y2) (laws_FnExactKeptAsk.j2 (k + 1) y0 y1 y2))
 | 0 => ⟨fun _ _ _ _ _ _ _ _ _ _ _ _ _ _ _ _ _ _ _ _ _ r h => by simp [laws_FnExactKeptAsk.j0] at h, fun _ _ _ _ _ _ _ _ _ _ _ _ _ r h => by simp [laws_FnExactKeptAsk.j1] at h, fun _ _ _ r h => by simp [laws_FnExactKeptAsk.j2] at h⟩
 | k + 1 => by
  obtain ⟨ih0, ih1, ih2⟩ := laws_FnExactKeptAsk.mono_l k
  refine ⟨?_, ?_, ?_⟩
  ·intro y0 y1 y2 y3 y4 y5 y6 y7 y8 y9 y10 y11 y12 y13 y14 y15 y16 y17 y18 y19 y20
   unfold laws_FnExactKeptAsk.j0
   repeat' first
   | (with_reducible exact ih0 _ _ _ _ _ _ _ _ _ _ _ _ _ _ _ _ _ _ _ _ _)
   | (with_reducible exact ih1 _ _ _ _ _ _ _ _ _ _ _ _ _)
   | (with_reducible exact ih2 _ _ _)
   | (with_reducible exact impl_KeptAsk.mono _ _ _ _ _)
   | (with_reducible exact laws_eqKeptS.mono _ _ _)
   | (with_reducible exact laws_eqNameS.mono _ _ _)
   | (with_reducible exact laws_heldKeptS.mono _ _ _)
   | (with_reducible exact laws_markKeptS.mono _ _ _)
   | (with_reducible exact laws_markNameS.mono _ _ _)
   | (with_reducible exact laws_szKeptS.mono _ _ _)
   | (with_reducible exact laws_szNameS.mono _ _ _)
   | (with_reducible exact laws_toKeptS.mono _ _)
   | (with_reducible exact laws_toNameS.mono _ _)
   | (with_reducible exact spec_KeptAsk.mono _ _ _ _ _)
   | (with_reducible exact LeO.refl _)
   | (with_reducible exact LeO.none _)
   | (with_reducible refine LeO.ite ?_ ?_)
   | (with_reducible refine LeO.bind ?_ (fun _ => ?_))
   | exact ih0 _ _ _ _ _ _ _ _ _ _ _ _ _ _ _ _ _ _ _ _ _
   | exact ih1 _ _ _ _ _ _ _ _ _ _ _ _ _
   | exact ih2 _ _ _
   | exact impl_KeptAsk.mono _ _ _ _ _
   | exact laws_eqKeptS.mono _ _ _
   | exact laws_eqNameS.mono _ _ _
   | exact laws_heldKeptS.mono _ _ _
   | exact laws_markKeptS.mono _ _ _
   | exact laws_markNameS.mono _ _ _
   | exact laws_szKeptS.mono _ _ _
   | exact laws_szNameS.mono _ _ _
   | exact laws_toKeptS.mono _ _
   | exact laws_toNameS.mono _ _
   | exact spec_KeptAsk.mono _ _ _ _ _
   | exact LeO.none _
   | refine LeO.ite ?_ ?_
   | refine LeO.bind ?_ (fun _ => ?_)
  ·intro y0 y1 y2 y3 y4 y5 y6 y7 y8 y9 y10 y11 y12
   unfold laws_FnExactKeptAsk.j1
   repeat' first
   | (with_reducible exact ih0 _ _ _ _ _ _ _ _ _ _ _ _ _ _ _ _ _ _ _ _ _)
   | (with_reducible exact ih1 _ _ _ _ _ _ _ _ _ _ _ _ _)
   | (with_reducible exact ih2 _ _ _)
   | (with_reducible exact impl_KeptAsk.mono _ _ _ _ _)
   | (with_reducible exact laws_eqKeptS.mono _ _ _)
   | (with_reducible exact laws_eqNameS.mono _ _ _)
   | (with_reducible exact laws_heldKeptS.mono _ _ _)
   | (with_reducible exact laws_markKeptS.mono _ _ _)
   | (with_reducible exact laws_markNameS.mono _ _ _)
   | (with_reducible exact laws_szKeptS.mono _ _ _)
   | (with_reducible exact laws_szNameS.mono _ _ _)
   | (with_reducible exact laws_toKeptS.mono _ _)
   | (with_reducible exact laws_toNameS.mono _ _)
   | (with_reducible exact spec_KeptAsk.mono _ _ _ _ _)
   | (with_reducible exact LeO.refl _)
   | (with_reducible exact LeO.none _)
   | (with_reducible refine LeO.ite ?_ ?_)
   | (with_reducible refine LeO.bind ?_ (fun _ => ?_))
   | exact ih0 _ _ _ _ _ _ _ _ _ _ _ _ _ _ _ _ _ _ _ _ _
   | exact ih1 _ _ _ _ _ _ _ _ _ _ _ _ _
   | exact ih2 _ _ _
   | exact impl_KeptAsk.mono _ _ _ _ _
   | exact laws_eqKeptS.mono _ _ _
   | exact laws_eqNameS.mono _ _ _
   | exact laws_heldKeptS.mono _ _ _
   | exact laws_markKeptS.mono _ _ _
   | exact laws_markNameS.mono _ _ _
   | exact laws_szKeptS.mono _ _ _
   | exact laws_szNameS.mono _ _ _
   | exact laws_toKeptS.mono _ _
   | exact laws_toNameS.mono _ _
   | exact spec_KeptAsk.mono _ _ _ _ _
   | exact LeO.none _
   | refine LeO.ite ?_ ?_
   | refine LeO.bind ?_ (fun _ => ?_)
  ·intro y0 y1 y2
   unfold laws_FnExactKeptAsk.j2
   repeat' first
   | (with_reducible exact ih0 _ _ _ _ _ _ _ _ _ _ _ _ _ _ _ _ _ _ _ _ _)
   | (with_reducible exact ih1 _ _ _ _ _ _ _ _ _ _ _ _ _)
   | (with_reducible exact ih2 _ _ _)
   | (with_reducible exact impl_KeptAsk.mono _ _ _ _ _)
   | (with_reducible exact laws_eqKeptS.mono _ _ _)
   | (with_reducible exact laws_eqNameS.mono _ _ _)
   | (with_reducible exact laws_heldKeptS.mono _ _ _)
   | (with_reducible exact laws_markKeptS.mono _ _ _)
   | (with_reducible exact laws_markNameS.mono _ _ _)
   | (with_reducible exact laws_szKeptS.mono _ _ _)
   | (with_reducible exact laws_szNameS.mono _ _ _)
   | (with_reducible exact laws_toKeptS.mono _ _)
   | (with_reducible exact laws_toNameS.mono _ _)
   | (with_reducible exact spec_KeptAsk.mono _ _ _ _ _)
   | (with_reducible exact LeO.refl _)
   | (with_reducible exact LeO.none _)
   | (with_reducible refine LeO.ite ?_ ?_)
   | (with_reducible refine LeO.bind ?_ (fun _ => ?_))
   | exact ih0 _ _ _ _ _ _ _ _ _ _ _ _ _ _ _ _ _ _ _ _ _
   | exact ih1 _ _ _ _ _ _ _ _ _ _ _ _ _
   | exact ih2 _ _ _
   | exact impl_KeptAsk.mono _ _ _ _ _
   | exact laws_eqKeptS.mono _ _ _
   | exact laws_eqNameS.mono _ _ _
   | exact laws_heldKeptS.mono _ _ _
   | exact laws_markKeptS.mono _ _ _
   | exact laws_markNameS.mono _ _ _
   | exact laws_szKeptS.mono _ _ _
   | exact laws_szNameS.mono _ _ _
   | exact laws_toKeptS.mono _ _
   | exact laws_toNameS.mono _ _
   | exact spec_KeptAsk.mono _ _ _ _ _
   | exact LeO.none _
   | refine LeO.ite ?_ ?_
   | refine LeO.bind ?_ (fun _ => ?_)
theorem laws_FnExactKeptAsk.mono : ∀ a0 a1 a2 a3 k, LeO (laws_FnExactKeptAsk.f k a0 a1 a2 a3) (laws_FnExactKeptAsk.f (k + 1) a0 a1 a2 a3) := by
 intro a0 a1 a2 a3 k
 obtain ⟨ih0, ih1, ih2⟩ := laws_FnExactKeptAsk.mono_l k
 unfold laws_FnExactKeptAsk.f
 repeat' first
   | (with_reducible exact ih0 _ _ _ _ _ _ _ _ _ _ _ _ _ _ _ _ _ _ _ _ _)
   | (with_reducible exact ih1 _ _ _ _ _ _ _ _ _ _ _ _ _)
   | (with_reducible exact ih2 _ _ _)
   | (with_reducible exact impl_KeptAsk.mono _ _ _ _ _)
   | (with_reducible exact laws_eqKeptS.mono _ _ _)
   | (with_reducible exact laws_eqNameS.mono _ _ _)
   | (with_reducible exact laws_heldKeptS.mono _ _ _)
   | (with_reducible exact laws_markKeptS.mono _ _ _)
   | (with_reducible exact laws_markNameS.mono _ _ _)
   | (with_reducible exact laws_szKeptS.mono _ _ _)
   | (with_reducible exact laws_szNameS.mono _ _ _)
   | (with_reducible exact laws_toKeptS.mono _ _)
   | (with_reducible exact laws_toNameS.mono _ _)
   | (with_reducible exact spec_KeptAsk.mono _ _ _ _ _)
   | (with_reducible exact LeO.refl _)
   | (with_reducible exact LeO.none _)
   | (with_reducible refine LeO.ite ?_ ?_)
   | (with_reducible refine LeO.bind ?_ (fun _ => ?_))
   | exact ih0 _ _ _ _ _ _ _ _ _ _ _ _ _ _ _ _ _ _ _ _ _
   | exact ih1 _ _ _ _ _ _ _ _ _ _ _ _ _
   | exact ih2 _ _ _
   | exact impl_KeptAsk.mono _ _ _ _ _
   | exact laws_eqKeptS.mono _ _ _
   | exact laws_eqNameS.mono _ _ _
   | exact laws_heldKeptS.mono _ _ _
   | exact laws_markKeptS.mono _ _ _
   | exact laws_markNameS.mono _ _ _
   | exact laws_szKeptS.mono _ _ _
   | exact laws_szNameS.mono _ _ _
   | exact laws_toKeptS.mono _ _
   | exact laws_toNameS.mono _ _
   | exact spec_KeptAsk.mono _ _ _ _ _
   | exact LeO.none _
   | refine LeO.ite ?_ ?_
   | refine LeO.bind ?_ (fun _ => ?_)
set_option maxHeartbeats 8000000 in
set_option maxRecDepth 100000 in
theorem laws_FnExactKeptAsk.calls (k : Nat) (A0 : Option Addr) (c0 : Nat) (l0 : List (S81)) (A1 : Option Addr) (c1 : Nat) (l1 : List (S23)) (a2 : ByteArray) (a3 : Int) (r : Bool) (w : World) (hr0 : Kd.C k81 w A0 l0.length l0) (hc0 : l0.length ≤ c0) (hr1 : Kd.C k23 w A1 l1.length l1) (hc1 : l1.length ≤ c1) (h : laws_FnExactKeptAsk.f k l0 l1 a2 a3 = some r) :
  Calls Try.prog 16 #[.slice A0 l0.length c0, .slice A1 l1.length c1, .string a2, .int .i64 a3] w fun e w' => e = .returned (.bool r) ∧ Below w.heap.size w w' := by
 have hu26 := Try.underlying26
 have HR0 := Aside0.mk hr0
 have HC0 := Aside0.mk hc0
 clear hr0 hc0
 have HR1 := Aside0.mk hr1
 have HC1 := Aside0.mk hc1
 clear hr1 hc1
 have HB := Aside0.mk (Below.refl w.heap.size w)
 have H : (if (a2.size : Int) > 1048576 then (some true) else ((laws_szKeptS.f k l0 1048576).bind fun t338 => (if t338 < 0 then (some true) else ((laws_szNameS.f k l1 t338).bind fun t339 => (if t339 < 0 then (some true) else ((laws_toKeptS.f k l0).bind fun t340 => ((laws_toNameS.f k l1).bind fun t343 => ((spec_KeptAsk.f k t340 t343 a2 a3).bind fun bt346 => ((laws_toKeptS.f k l0).bind fun t356 => ((laws_toNameS.f k l1).bind fun t359 => ((impl_KeptAsk.f k t356 t359 a2 a3).bind fun bt362 => ((laws_eqKeptS.f k bt362.1 bt346.1).bind fun t372 => (if t372 = true then ((laws_eqName.f bt362.2.1 bt362.2.2.1 bt362.2.2.2.1 bt362.2.2.2.2.1 bt362.2.2.2.2.2.1 bt346.2.1 bt346.2.2.1 bt346.2.2.2.1 bt346.2.2.2.2.1 bt346.2.2.2.2.2.1).bind fun t373 => (if t373 = true then (laws_FnExactKeptAsk.j0 k l0 l1 a2 a3 bt346.1 bt346.2.2.2.2.2.2 t356 t359 bt362.1 bt362.2.2.2.2.2.2 (bt362.2.2.2.2.2.2 != bt346.2.2.2.2.2.2) bt346.2.1 bt346.2.2.1 bt346.2.2.2.1 bt346.2.2.2.2.1 bt346.2.2.2.2.2.1 bt362.2.1 bt362.2.2.1 bt362.2.2.2.1 bt362.2.2.2.2.1 bt362.2.2.2.2.2.1) else (laws_FnExactKeptAsk.j0 k l0 l1 a2 a3 bt346.1 bt346.2.2.2.2.2.2 t356 t359 bt362.1 bt362.2.2.2.2.2.2 true bt346.2.1 bt346.2.2.1 bt346.2.2.2.1 bt346.2.2.2.2.1 bt346.2.2.2.2.2.1 bt362.2.1 bt362.2.2.1 bt362.2.2.2.1 bt362.2.2.2.2.1 bt362.2.2.2.2.2.1))) else (laws_FnExactKeptAsk.j0 k l0 l1 a2 a3 bt346.1 bt346.2.2.2.2.2.2 t356 t359 bt362.1 bt362.2.2.2.2.2.2 true bt346.2.1 bt346.2.2.1 bt346.2.2.2.1 bt346.2.2.2.2.1 bt346.2.2.2.2.2.1 bt362.2.1 bt362.2.2.1 bt362.2.2.2.1 bt362.2.2.2.2.1 bt362.2.2.2.2.2.1)))))))))))))) = some r := h
 clear h
 by_cases c5 : (a2.size : Int) > 1048576
 ·rw [if_pos c5] at H
  have c5b0 : decide (1048576 < (a2.size : Int)) = true := decide_eq_true c5
  have c5b1 : decide (1048576 < a2.size) = true := decide_eq_true (z_20)
  clear c5
  obtain rfl := Option.some.inj H
  go_enter Try.func16, Try.ntmps16
  go_wp2
  go_ret
  exact ⟨z_4, z_2⟩
 ·rw [if_neg c5] at H
  have c5b0 : decide (1048576 < (a2.size : Int)) = false := decide_eq_false c5
  have c5b1 : decide (1048576 < a2.size) = false := decide_eq_false (z_20)
  clear c5
  replace H := Option.bind_eq_some_iff.mp H
  obtain ⟨t338, A60, H⟩ := H
  have A6 := Aside0.mk A60
  clear A60
  by_cases c7 : t338 < 0
  ·rw [if_pos c7] at H
   have c7b0 : decide (t338 < 0) = true := decide_eq_true c7
   clear c7
   obtain rfl := Option.some.inj H
   go_enter Try.func16, Try.ntmps16
   go_wp2_with (first | ((with_reducible refine gate_callee (f := 33) rfl ?_); refine goesL_ (some 29) rfl rfl Try.func33 (z_0) rfl #[.slice A0 l0.length c0, .int .i64 1048576] rfl (z_8) ?_; (with_reducible refine (laws_szKeptS.calls k _ _ l0 1048576 t338 _ ?side1 ?side2 A6.out).mono ?_); (case side1 => exact z_60); (case side2 => exact HC0.out); rintro e w8 ⟨rfl, hb⟩; refine ⟨_, rfl, ?_⟩; have n0_ := Aside0.mk (below_step (z_2) hb); clear HB; have HB := n0_; clear n0_; (try clear hb); (try clear hb2); (try clear hk); (try clear hi)))
   go_ret
   exact ⟨z_4, z_2⟩
  ·rw [if_neg c7] at H
   have c7b0 : decide (t338 < 0) = false := decide_eq_false c7
   clear c7
   replace H := Option.bind_eq_some_iff.mp H
   obtain ⟨t339, A90, H⟩ := H
   have A9 := Aside0.mk A90
   clear A90
   by_cases c10 : t339 < 0
   ·rw [if_pos c10] at H
    have c10b0 : decide (t339 < 0) = true := decide_eq_true c10
    clear c10
    obtain rfl := Option.some.inj H
    go_enter Try.func16, Try.ntmps16
    go_wp2_with (first | ((with_reducible refine gate_callee (f := 33) rfl ?_); refine goesL_ (some 29) rfl rfl Try.func33 (z_0) rfl #[.slice A0 l0.length c0, .int .i64 1048576] rfl (z_8) ?_; (with_reducible refine (laws_szKeptS.calls k _ _ l0 1048576 t338 _ ?side1 ?side2 A6.out).mono ?_); (case side1 => exact z_60); (case side2 => exact HC0.out); rintro e w11 ⟨rfl, hb⟩; refine ⟨_, rfl, ?_⟩; have n0_ := Aside0.mk (below_step (z_2) hb); clear HB; have HB := n0_; clear n0_; (try clear hb); (try clear hb2); (try clear hk); (try clear hi)) | ((with_reducible refine gate_callee (f := 24) rfl ?_); refine goesL_ (some 34) rfl rfl Try.func24 (z_0) rfl #[.slice A1 l1.length c1, .int .i64 t338] rfl (z_8) ?_; (with_reducible refine (laws_szNameS.calls k _ _ l1 t338 t339 _ ?side1 ?side2 A9.out).mono ?_); (case side1 => exact z_61); (case side2 => exact HC1.out); rintro e w12 ⟨rfl, hb⟩; refine ⟨_, rfl, ?_⟩; have n0_ := Aside0.mk (below_step (z_2) hb); clear HB; have HB := n0_; clear n0_; (try clear hb); (try clear hb2); (try clear hk); (try clear hi)))
    go_ret
    exact ⟨z_4, z_2⟩
   ·rw [if_neg c10] at H
    have c10b0 : decide (t339 < 0) = false := decide_eq_false c10
    clear c10
    replace H := Option.bind_eq_some_iff.mp H
    obtain ⟨t340, A130, H⟩ := H
    have A13 := Aside0.mk A130
    clear A130
    replace H := Option.bind_eq_some_iff.mp H
    obtain ⟨t343, A140, H⟩ := H
    have A14 := Aside0.mk A140
    clear A140
    replace H := Option.bind_eq_some_iff.mp H
    obtain ⟨⟨t346, t349, t350, t351, t352, t353, t354⟩, A150, H⟩ := H
    replace H : ((laws_toKeptS.f k l0).bind fun t356 => ((laws_toNameS.f k l1).bind fun t359 => ((impl_KeptAsk.f k t356 t359 a2 a3).bind fun bt362 => ((laws_eqKeptS.f k bt362.1 t346).bind fun t372 => (if t372 = true then ((laws_eqName.f bt362.2.1 bt362.2.2.1 bt362.2.2.2.1 bt362.2.2.2.2.1 bt362.2.2.2.2.2.1 t349 t350 t351 t352 t353).bind fun t373 => (if t373 = true then (laws_FnExactKeptAsk.j0 k l0 l1 a2 a3 t346 t354 t356 t359 bt362.1 bt362.2.2.2.2.2.2 (bt362.2.2.2.2.2.2 != t354) t349 t350 t351 t352 t353 bt362.2.1 bt362.2.2.1 bt362.2.2.2.1 bt362.2.2.2.2.1 bt362.2.2.2.2.2.1) else (laws_FnExactKeptAsk.j0 k l0 l1 a2 a3 t346 t354 t356 t359 bt362.1 bt362.2.2.2.2.2.2 true t349 t350 t351 t352 t353 bt362.2.1 bt362.2.2.1 bt362.2.2.2.1 bt362.2.2.2.2.1 bt362.2.2.2.2.2.1))) else (laws_FnExactKeptAsk.j0 k l0 l1 a2 a3 t346 t354 t356 t359 bt362.1 bt362.2.2.2.2.2.2 true t349 t350 t351 t352 t353 bt362.2.1 bt362.2.2.1 bt362.2.2.2.1 bt362.2.2.2.2.1 bt362.2.2.2.2.2.1)))))) = some r := H
    have A15 := Aside0.mk A150
    clear A150
    replace H := Option.bind_eq_some_iff.mp H
    obtain ⟨t356, A160, H⟩ := H
    have A16 := Aside0.mk A160
    clear A160
    replace H := Option.bind_eq_some_iff.mp H
    obtain ⟨t359, A170, H⟩ := H
    have A17 := Aside0.mk A170
    clear A170
    replace H := Option.bind_eq_some_iff.mp H
    obtain ⟨⟨t362, t365, t366, t367, t368, t369, t370⟩, A180, H⟩ := H
    replace H : ((laws_eqKeptS.f k t362 t346).bind fun t372 => (if t372 = true then ((laws_eqName.f t365 t366 t367 t368 t369 t349 t350 t351 t352 t353).bind fun t373 => (if t373 = true then (laws_FnExactKeptAsk.j0 k l0 l1 a2 a3 t346 t354 t356 t359 t362 t370 (t370 != t354) t349 t350 t351 t352 t353 t365 t366 t367 t368 t369) else (laws_FnExactKeptAsk.j0 k l0 l1 a2 a3 t346 t354 t356 t359 t362 t370 true t349 t350 t351 t352 t353 t365 t366 t367 t368 t369))) else (laws_FnExactKeptAsk.j0 k l0 l1 a2 a3 t346 t354 t356 t359 t362 t370 true t349 t350 t351 t352 t353 t365 t366 t367 t368 t369))) = some r := H
    have A18 := Aside0.mk A180
    clear A180
    have HC19 := Aside0.mk H
    clear H
    go_enter Try.func16, Try.ntmps16
    go_upto_region 14 with (first | ((with_reducible refine gate_callee (f := 33) rfl ?_); refine goesL_ (some 29) rfl rfl Try.func33 (z_0) rfl #[.slice A0 l0.length c0, .int .i64 1048576] rfl (z_8) ?_; (with_reducible refine (laws_szKeptS.calls k _ _ l0 1048576 t338 _ ?side1 ?side2 A6.out).mono ?_); (case side1 => exact z_60); (case side2 => exact HC0.out); rintro e w20 ⟨rfl, hb⟩; refine ⟨_, rfl, ?_⟩; have n0_ := Aside0.mk (below_step (z_2) hb); clear HB; have HB := n0_; clear n0_; (try clear hb); (try clear hb2); (try clear hk); (try clear hi)) | ((with_reducible refine gate_callee (f := 24) rfl ?_); refine goesL_ (some 34) rfl rfl Try.func24 (z_0) rfl #[.slice A1 l1.length c1, .int .i64 t338] rfl (z_8) ?_; (with_reducible refine (laws_szNameS.calls k _ _ l1 t338 t339 _ ?side1 ?side2 A9.out).mono ?_); (case side1 => exact z_61); (case side2 => exact HC1.out); rintro e w21 ⟨rfl, hb⟩; refine ⟨_, rfl, ?_⟩; have n0_ := Aside0.mk (below_step (z_2) hb); clear HB; have HB := n0_; clear n0_; (try clear hb); (try clear hb2); (try clear hk); (try clear hi)) | ((with_reducible refine gate_callee (f := 35) rfl ?_); refine goesL_ (some 39) rfl rfl Try.func35 (z_0) rfl #[.slice A0 l0.length c0] rfl (z_8) ?_; (with_reducible refine (laws_toKeptS.calls k _ _ l0 t340 _ ?side1 ?side2 A13.out).mono ?_); (case side1 => exact z_62); (case side2 => exact HC0.out); rintro e w22 ⟨v341, rfl, ho0, hb⟩; refine ⟨_, rfl, ?_⟩; have n0_ := Aside0.mk (Kd.R_lower ho0 (below_size (z_2))); have n1_ := Aside0.mk (below_step (z_2) hb); clear HB; have HO342 := n0_; have HB := n1_; clear n0_ n1_; (try clear hb); (try clear hb2); (try clear hk); (try clear hi); (try clear ho0)) | ((with_reducible refine gate_callee (f := 26) rfl ?_); refine goesL_ (some 41) rfl rfl Try.func26 (z_0) rfl #[.slice A1 l1.length c1] rfl (z_8) ?_; (with_reducible refine (laws_toNameS.calls k _ _ l1 t343 _ ?side1 ?side2 A14.out).mono ?_); (case side1 => exact z_61); (case side2 => exact HC1.out); rintro e w23 ⟨v344, rfl, ho0, hb⟩; refine ⟨_, rfl, ?_⟩; have n0_ := Aside0.mk (Kd.R_below (z_131) hb); have n1_ := Aside0.mk (Kd.R_lower ho0 (below_size (z_2))); have n2_ := Aside0.mk (below_step (z_2) hb); clear HO342; clear HB; have HO342 := n0_; have HO345 := n1_; have HB := n2_; clear n0_ n1_ n2_; (try clear hb); (try clear hb2); (try clear hk); (try clear hi); (try clear ho0); obtain ⟨Ao24, co24, eo24⟩ := Kd.R_slice HO342.out; subst eo24; obtain ⟨Ao25, co25, eo25⟩ := Kd.R_slice HO345.out; subst eo25) | ((with_reducible refine gate_callee (f := 45) rfl ?_); refine goesL_ (some 44) rfl rfl Try.func45 (z_0) rfl #[.slice Ao24 t340.length co24, .slice Ao25 t343.length co25, .string a2, .int .i64 a3] rfl (z_8) ?_; (with_reducible refine (spec_KeptAsk.calls k _ _ t340 _ _ t343 a2 a3 t346 t349 t350 t351 t352 t353 t354 _ ?side1 ?side2 ?side3 ?side4 A15.out).mono ?_); (case side1 => repeat (first | exact (Kd.R_reads' HO342.out).2.2 | (with_reducible refine Kd.C_alloc ?_ _) | (with_reducible refine Kd.C_drewN ?_ _) | (with_reducible refine Kd.C_drew ?_))); (case side2 => exact (Kd.R_reads' HO342.out).2.1); (case side3 => repeat (first | exact (Kd.R_reads' HO345.out).2.2 | (with_reducible refine Kd.C_alloc ?_ _) | (with_reducible refine Kd.C_drewN ?_ _) | (with_reducible refine Kd.C_drew ?_))); (case side4 => exact (Kd.R_reads' HO345.out).2.1); rintro e w26 ⟨v347, rfl, ho0, hb⟩; refine ⟨_, rfl, ?_⟩; have n0_ := Aside0.mk (Kd.R_elder' (z_131) (Kd.Q_base ho0) hb); have n1_ := Aside0.mk (Kd.R_below (z_132) hb); have n2_ := Aside0.mk (Kd.Q_lower (Kd.Q_new' ho0 (Kd.R_lt (z_131))) (below_size (z_2))); have n3_ := Aside0.mk (below_step (z_2) hb); clear HO342; clear HO345; clear HB; have HO342 := n0_; have HO345 := n1_; have HO348 := n2_; have HB := n3_; clear n0_ n1_ n2_ n3_; (try clear hb); (try clear hb2); (try clear hk); (try clear hi); (try clear ho0)) | ((with_reducible refine gate_dst (N := 11) rfl ?_); refine box_event ?hg (N := 11) ?hd (cs := #[.string (⟨#[]⟩ : ByteArray), .int .i64 0, .int .i64 0, .string (⟨#[]⟩ : ByteArray), .int .i64 0]) (t := 26) ?hr ?_; (case hd => rfl); (case hg => rfl); (case hr => exact z_1); intro gb355 hg w27 hbox hb; have n0_ := Aside0.mk (Kd.R_below (z_131) hb); have n1_ := Aside0.mk (Kd.R_below (Kd.R_elderB (z_132) gb355 (Nat.le_of_eq hg.symm)) hb); have n2_ := Aside0.mk (Kd.Q_below (z_133) hb); have n3_ := Aside0.mk (below_step (z_2) hb); have n4_ := Aside0.mk (hbox); have n5_ := Aside0.mk ((z_3 : w.heap.size ≤ gb355)); have n6_ := Aside0.mk ((z_3 : w.heap.size ≤ gb355)); clear HO342; clear HO345; clear HO348; clear HB; have HO342 := n0_; have HO345 := n1_; have HO348 := n2_; have HB := n3_; have BK355 := n4_; have GW355 := n5_; have GE355 := n6_; clear n0_ n1_ n2_ n3_ n4_ n5_ n6_; clear hb hbox hg; have hcz28_0 : w27.cell? ⟨gb355, 0, none⟩ = some (.string (⟨#[]⟩ : ByteArray)) := (blk_cell BK355.out 0).trans rfl; have hcz28_1 : w27.cell? ⟨gb355, 1, none⟩ = some (.int .i64 0) := (blk_cell BK355.out 1).trans rfl; have hcz28_2 : w27.cell? ⟨gb355, 2, none⟩ = some (.int .i64 0) := (blk_cell BK355.out 2).trans rfl; have hcz28_3 : w27.cell? ⟨gb355, 3, none⟩ = some (.string (⟨#[]⟩ : ByteArray)) := (blk_cell BK355.out 3).trans rfl; have hcz28_4 : w27.cell? ⟨gb355, 4, none⟩ = some (.int .i64 0) := (blk_cell BK355.out 4).trans rfl; have hfz28_0 := blk_frozen BK355.out 0; have hfz28_1 := blk_frozen BK355.out 1; have hfz28_2 := blk_frozen BK355.out 2; have hfz28_3 := blk_frozen BK355.out 3; have hfz28_4 := blk_frozen BK355.out 4) | ((with_reducible refine gate_callee (f := 35) rfl ?_); refine goesL_ (some 49) rfl rfl Try.func35 (z_0) rfl #[.slice A0 l0.length c0] rfl (z_8) ?_; (with_reducible refine (laws_toKeptS.calls k _ _ l0 t356 _ ?side1 ?side2 A16.out).mono ?_); (case side1 => exact Kd.C_below HR0.out (z_134)); (case side2 => exact HC0.out); rintro e w29 ⟨v357, rfl, ho0, hb⟩; refine ⟨_, rfl, ?_⟩; have n0_ := Aside0.mk (Kd.R_elder' (z_135) (Kd.R_base ho0) hb); have n1_ := Aside0.mk (Kd.R_below (by (with_reducible repeat (first | apply Kd.R_alloc | apply Kd.R_drewN | apply Kd.R_drew)); exact (Kd.R_mono (Kd.R_far (p := ⟨gb355, 4, none⟩) (Kd.R_far (p := ⟨gb355, 3, none⟩) (Kd.R_far (p := ⟨gb355, 2, none⟩) (Kd.R_far (p := ⟨gb355, 1, none⟩) (Kd.R_far (p := ⟨gb355, 0, none⟩) (Kd.R_mono HO345.out (fun k_ hk => (⟨hk, hk.2⟩ : _ ∧ k_ ≠ gb355))) (fun _ hk => hk.2) (.string t349)) (fun _ hk => hk.2) (.int .i64 t350)) (fun _ hk => hk.2) (.int .i64 t351)) (fun _ hk => hk.2) (.string t352)) (fun _ hk => hk.2) (.int .i64 t353)) (fun _ h_ => h_.1))) hb); have n2_ := Aside0.mk (Kd.Q_elder' (z_136) (Kd.R_base ho0) hb); have n3_ := Aside0.mk (Kd.R_lower (Kd.R_new' (Kd.R_new' ho0 (Kd.R_lt (z_135))) (Kd.Q_lt (z_136))) (below_size (z_134))); have n4_ := Aside0.mk (blk_below (g := gb355) (o := .cells #[.string t349, .int .i64 t350, .int .i64 t351, .string t352, .int .i64 t353] 26 (0, 0)) (by (with_reducible repeat (first | refine blk_drewN ?_ _ | refine blk_drew ?_ | refine blk_alloc ?_ _)); refine blk_put (cs := #[.string t349, .int .i64 t350, .int .i64 t351, .string t352, .int .i64 0]) ?_ 4 _ rfl; (with_reducible repeat (first | refine blk_drewN ?_ _ | refine blk_drew ?_ | refine blk_alloc ?_ _)); refine blk_put (cs := #[.string t349, .int .i64 t350, .int .i64 t351, .string (⟨#[]⟩ : ByteArray), .int .i64 0]) ?_ 3 _ rfl; (with_reducible repeat (first | refine blk_drewN ?_ _ | refine blk_drew ?_ | refine blk_alloc ?_ _)); refine blk_put (cs := #[.string t349, .int .i64 t350, .int .i64 0, .string (⟨#[]⟩ : ByteArray), .int .i64 0]) ?_ 2 _ rfl; (with_reducible repeat (first | refine blk_drewN ?_ _ | refine blk_drew ?_ | refine blk_alloc ?_ _)); refine blk_put (cs := #[.string t349, .int .i64 0, .int .i64 0, .string (⟨#[]⟩ : ByteArray), .int .i64 0]) ?_ 1 _ rfl; (with_reducible repeat (first | refine blk_drewN ?_ _ | refine blk_drew ?_ | refine blk_alloc ?_ _)); refine blk_put (cs := #[.string (⟨#[]⟩ : ByteArray), .int .i64 0, .int .i64 0, .string (⟨#[]⟩ : ByteArray), .int .i64 0]) ?_ 0 _ rfl; (with_reducible repeat (first | refine blk_drewN ?_ _ | refine blk_drew ?_ | refine blk_alloc ?_ _)); exact BK355.out) hb); have n5_ := Aside0.mk (below_step (z_134) hb); clear HO342; clear HO345; clear HO348; clear BK355; clear HB; have HO342 := n0_; have HO345 := n1_; have HO348 := n2_; have HO358 := n3_; have BK355 := n4_; have HB := n5_; clear n0_ n1_ n2_ n3_ n4_ n5_; (try clear hb); (try clear hb2); (try clear hk); (try clear hi); (try clear ho0)) | ((with_reducible refine gate_callee (f := 26) rfl ?_); refine goesL_ (some 51) rfl rfl Try.func26 (z_0) rfl #[.slice A1 l1.length c1] rfl (z_8) ?_; (with_reducible refine (laws_toNameS.calls k _ _ l1 t359 _ ?side1 ?side2 A17.out).mono ?_); (case side1 => exact z_61); (case side2 => exact HC1.out); rintro e w30 ⟨v360, rfl, ho0, hb⟩; refine ⟨_, rfl, ?_⟩; have n0_ := Aside0.mk (Kd.R_below (z_131) hb); have n1_ := Aside0.mk (Kd.R_elder' (z_132) (Kd.R_base ho0) hb); have n2_ := Aside0.mk (Kd.Q_below (z_133) hb); have n3_ := Aside0.mk (Kd.R_below (z_137) hb); have n4_ := Aside0.mk (Kd.R_lower (Kd.R_newB (Kd.R_new' ho0 (Kd.R_lt (z_132))) (g := gb355) (o := .cells #[.string t349, .int .i64 t350, .int .i64 t351, .string t352, .int .i64 t353] 26 (0, 0)) (z_138)) (below_size (z_134))); have n5_ := Aside0.mk (blk_below (g := gb355) (o := .cells #[.string t349, .int .i64 t350, .int .i64 t351, .string t352, .int .i64 t353] 26 (0, 0)) (z_138) hb); have n6_ := Aside0.mk (below_step (z_134) hb); clear HO342; clear HO345; clear HO348; clear HO358; clear BK355; clear HB; have HO342 := n0_; have HO345 := n1_; have HO348 := n2_; have HO358 := n3_; have HO361 := n4_; have BK355 := n5_; have HB := n6_; clear n0_ n1_ n2_ n3_ n4_ n5_ n6_; (try clear hb); (try clear hb2); (try clear hk); (try clear hi); (try clear ho0); obtain ⟨Ao31, co31, eo31⟩ := Kd.R_slice HO358.out; subst eo31; obtain ⟨Ao32, co32, eo32⟩ := Kd.R_slice HO361.out; subst eo32) | ((with_reducible refine gate_callee (f := 44) rfl ?_); refine goesL_ (some 57) rfl rfl Try.func44 (z_0) rfl #[.slice Ao31 t356.length co31, .slice Ao32 t359.length co32, .string a2, .int .i64 a3] rfl (z_8) ?_; (with_reducible refine (impl_KeptAsk.calls k _ _ t356 _ _ t359 a2 a3 t362 t365 t366 t367 t368 t369 t370 _ ?side1 ?side2 ?side3 ?side4 A18.out).mono ?_); (case side1 => repeat (first | exact (Kd.R_reads' HO358.out).2.2 | (with_reducible refine Kd.C_alloc ?_ _) | (with_reducible refine Kd.C_drewN ?_ _) | (with_reducible refine Kd.C_drew ?_))); (case side2 => exact (Kd.R_reads' HO358.out).2.1); (case side3 => repeat (first | exact (Kd.R_reads' HO361.out).2.2 | (with_reducible refine Kd.C_alloc ?_ _) | (with_reducible refine Kd.C_drewN ?_ _) | (with_reducible refine Kd.C_drew ?_))); (case side4 => exact (Kd.R_reads' HO361.out).2.1); rintro e w33 ⟨v363, rfl, ho0, hb⟩; refine ⟨_, rfl, ?_⟩; have n0_ := Aside0.mk (Kd.R_elder' (z_131) (Kd.R_base ho0) hb); have n1_ := Aside0.mk (Kd.R_below (z_132) hb); have n2_ := Aside0.mk (Kd.Q_elder' (z_133) (Kd.R_base ho0) hb); have n3_ := Aside0.mk (Kd.R_elder' (z_137) (Kd.R_base ho0) hb); have n4_ := Aside0.mk (Kd.R_below (z_139) hb); have n5_ := Aside0.mk (Kd.R_lower (Kd.R_new' (Kd.R_new' (Kd.R_new' ho0 (Kd.R_lt (z_131))) (Kd.Q_lt (z_133))) (Kd.R_lt (z_137))) (below_size (z_134))); have n6_ := Aside0.mk (blk_below (g := gb355) (o := .cells #[.string t349, .int .i64 t350, .int .i64 t351, .string t352, .int .i64 t353] 26 (0, 0)) (z_138) hb); have n7_ := Aside0.mk (below_step (z_134) hb); clear HO342; clear HO345; clear HO348; clear HO358; clear HO361; clear BK355; clear HB; have HO342 := n0_; have HO345 := n1_; have HO348 := n2_; have HO358 := n3_; have HO361 := n4_; have HO364 := n5_; have BK355 := n6_; have HB := n7_; clear n0_ n1_ n2_ n3_ n4_ n5_ n6_ n7_; (try clear hb); (try clear hb2); (try clear hk); (try clear hi); (try clear ho0)) | ((with_reducible refine gate_dst (N := 16) rfl ?_); refine box_event ?hg (N := 16) ?hd (cs := #[.string (⟨#[]⟩ : ByteArray), .int .i64 0, .int .i64 0, .string (⟨#[]⟩ : ByteArray), .int .i64 0]) (t := 26) ?hr ?_; (case hd => rfl); (case hg => rfl); (case hr => exact z_1); intro gb371 hg w34 hbox hb; have n0_ := Aside0.mk (Kd.R_below (z_131) hb); have n1_ := Aside0.mk (Kd.R_below (Kd.R_elderB (z_132) gb371 (Nat.le_of_eq hg.symm)) hb); have n2_ := Aside0.mk (Kd.Q_below (z_133) hb); have n3_ := Aside0.mk (Kd.R_below (z_137) hb); have n4_ := Aside0.mk (Kd.R_below (Kd.R_elderB (z_139) gb371 (Nat.le_of_eq hg.symm)) hb); have n5_ := Aside0.mk (Kd.R_below (z_140) hb); have n6_ := Aside0.mk (blk_below (g := gb355) (o := .cells #[.string t349, .int .i64 t350, .int .i64 t351, .string t352, .int .i64 t353] 26 (0, 0)) (z_138) hb); have n7_ := Aside0.mk (below_step (z_134) hb); have n8_ := Aside0.mk (hbox); have n9_ := Aside0.mk ((z_141 : w.heap.size ≤ gb371)); have n10_ := Aside0.mk ((z_141 : w.heap.size ≤ gb371)); have n11_ := Aside0.mk ((z_142 : gb355 ≠ gb371)); have n12_ := Aside0.mk ((z_143 : gb371 ≠ gb355)); clear HO342; clear HO345; clear HO348; clear HO358; clear HO361; clear HO364; clear BK355; clear HB; have HO342 := n0_; have HO345 := n1_; have HO348 := n2_; have HO358 := n3_; have HO361 := n4_; have HO364 := n5_; have BK355 := n6_; have HB := n7_; have BK371 := n8_; have GW371 := n9_; have GE371 := n10_; have NB355_371 := n11_; have NB371_355 := n12_; clear n0_ n1_ n2_ n3_ n4_ n5_ n6_ n7_ n8_ n9_ n10_ n11_ n12_; clear hb hbox hg; have hnb35 := NB371_355.out; have hnc35 := NB355_371.out; have hcz36_0 : w34.cell? ⟨gb371, 0, none⟩ = some (.string (⟨#[]⟩ : ByteArray)) := (blk_cell BK371.out 0).trans rfl; have hcz36_1 : w34.cell? ⟨gb371, 1, none⟩ = some (.int .i64 0) := (blk_cell BK371.out 1).trans rfl; have hcz36_2 : w34.cell? ⟨gb371, 2, none⟩ = some (.int .i64 0) := (blk_cell BK371.out 2).trans rfl; have hcz36_3 : w34.cell? ⟨gb371, 3, none⟩ = some (.string (⟨#[]⟩ : ByteArray)) := (blk_cell BK371.out 3).trans rfl; have hcz36_4 : w34.cell? ⟨gb371, 4, none⟩ = some (.int .i64 0) := (blk_cell BK371.out 4).trans rfl; have hfz36_0 := blk_frozen BK371.out 0; have hfz36_1 := blk_frozen BK371.out 1; have hfz36_2 := blk_frozen BK371.out 2; have hfz36_3 := blk_frozen BK371.out 3; have hfz36_4 := blk_frozen BK371.out 4))
    (try simp only [Act.put, List.setIfInBounds_toArray, List.set_cons_zero, List.set_cons_succ])
    go_cut [75] (fun v75 wc => ∃ (kq : Nat) (x75_18 : Bool), v75 = .bool x75_18 ∧ Aside0 (laws_FnExactKeptAsk.j0 kq l0 l1 a2 a3 t346 t354 t356 t359 t362 t370 x75_18 t349 t350 t351 t352 t353 t365 t366 t367 t368 t369 = some r) ∧ Aside0 (kq ≤ k) ∧ Aside0 (Kd.Q k83 83 wc w.heap.size (fun k_ => some k_ ≠ ((.slice Ao31 t356.length co31) : Value).ownBlock ∧ some k_ ≠ (v363 : Value).ownBlock) v347 t346) ∧ Aside0 (Kd.R k83 83 wc w.heap.size (fun k_ => some k_ ≠ (v347 : Value).ownBlock ∧ some k_ ≠ (v363 : Value).ownBlock) (.slice Ao31 t356.length co31) t356) ∧ Aside0 (Kd.R k26 26 wc w.heap.size (fun k_ => k_ ≠ gb355 ∧ k_ ≠ gb371) (.slice Ao32 t359.length co32) t359) ∧ Aside0 (Kd.R k83 83 wc w.heap.size (fun k_ => some k_ ≠ (v347 : Value).ownBlock ∧ some k_ ≠ ((.slice Ao31 t356.length co31) : Value).ownBlock) v363 t362) ∧ Aside0 (wc.heap[gb355]? = some (.cells #[.string t349, .int .i64 t350, .int .i64 t351, .string t352, .int .i64 t353] 26 (0, 0))) ∧ Aside0 (wc.heap[gb371]? = some (.cells #[.string t365, .int .i64 t366, .int .i64 t367, .string t368, .int .i64 t369] 26 (0, 0))) ∧ Aside0 (Below w.heap.size w wc))
    case first =>
     have H := HC19.out
     clear HC19
     replace H := Option.bind_eq_some_iff.mp H
     obtain ⟨t372, A370, H⟩ := H
     have A37 := Aside0.mk A370
     clear A370
     by_cases c38 : t372 = true
     ·subst c38
      rw [if_pos rfl] at H
      replace H := Option.bind_eq_some_iff.mp H
      obtain ⟨t373, A390, H⟩ := H
      have A39 := Aside0.mk A390
      clear A390
      by_cases c40 : t373 = true
      ·subst c40
       rw [if_pos rfl] at H
       have H' := Aside0.mk H
       clear H
       obtain ⟨Ao41, co41, eo41⟩ := Kd.R_slice HO364.out
       subst eo41
       obtain ⟨Ao42, co42, eo42, _⟩ := Kd.Q_slice HO348.out
       subst eo42
       go_wp2_with (first | ((with_reducible refine gate_callee (f := 37) rfl ?_); refine goesL_ (some 63) rfl rfl Try.func37 (z_0) rfl #[.slice Ao41 t362.length co41, .slice Ao42 t346.length co42] rfl (z_8) ?_; (with_reducible refine (laws_eqKeptS.calls k _ _ t362 _ _ t346 true _ ?side1 ?side2 ?side3 ?side4 A37.out).mono ?_); (case side1 => refine (Kd.R_reads' (e := 83) (base := w.heap.size) (ok := fun k_ => (((True ∧ some k_ ≠ (.slice Ao24 t340.length co24 : Value).ownBlock) ∧ some k_ ≠ (.slice Ao42 t346.length co42 : Value).ownBlock) ∧ some k_ ≠ (.slice Ao31 t356.length co31 : Value).ownBlock)) (n := t362.length) (c := co41) ?_).2.2; exact (z_144)); (case side2 => exact (Kd.R_reads' HO364.out).2.1); (case side3 => refine (Kd.Q_reads' (e := 83) (base := w.heap.size) (ok := fun k_ => (((True ∧ some k_ ≠ (.slice Ao24 t340.length co24 : Value).ownBlock) ∧ some k_ ≠ (.slice Ao31 t356.length co31 : Value).ownBlock) ∧ some k_ ≠ (.slice Ao41 t362.length co41 : Value).ownBlock)) (n := t346.length) (c := co42) ?_).2.2; exact (z_145)); (case side4 => exact (Kd.Q_reads' HO348.out).2.1); rintro e w43 ⟨rfl, hb⟩; refine ⟨_, rfl, ?_⟩; have n0_ := Aside0.mk (Kd.R_below (z_146) hb); have n1_ := Aside0.mk (Kd.R_below (z_147) hb); have n2_ := Aside0.mk (Kd.Q_below (z_145) hb); have n3_ := Aside0.mk (Kd.R_below (z_148) hb); have n4_ := Aside0.mk (Kd.R_below (z_149) hb); have n5_ := Aside0.mk (Kd.R_below (z_144) hb); have n6_ := Aside0.mk (blk_below (g := gb355) (o := .cells #[.string t349, .int .i64 t350, .int .i64 t351, .string t352, .int .i64 t353] 26 (0, 0)) (z_150) hb); have n7_ := Aside0.mk (blk_below (g := gb371) (o := .cells #[.string t365, .int .i64 t366, .int .i64 t367, .string t368, .int .i64 t369] 26 (0, 0)) (z_151) hb); have n8_ := Aside0.mk (below_step (z_152) hb); clear HO342; clear HO345; clear HO348; clear HO358; clear HO361; clear HO364; clear BK355; clear BK371; clear HB; have HO342 := n0_; have HO345 := n1_; have HO348 := n2_; have HO358 := n3_; have HO361 := n4_; have HO364 := n5_; have BK355 := n6_; have BK371 := n7_; have HB := n8_; clear n0_ n1_ n2_ n3_ n4_ n5_ n6_ n7_ n8_; (try clear hb); (try clear hb2); (try clear hk); (try clear hi); have hnb44 := NB371_355.out; have hnc44 := NB355_371.out; have hcz45_0 : w43.cell? ⟨gb371, 0, none⟩ = some (.string t365) := (blk_cell BK371.out 0).trans rfl; have hcz45_1 : w43.cell? ⟨gb371, 1, none⟩ = some (.int .i64 t366) := (blk_cell BK371.out 1).trans rfl; have hcz45_2 : w43.cell? ⟨gb371, 2, none⟩ = some (.int .i64 t367) := (blk_cell BK371.out 2).trans rfl; have hcz45_3 : w43.cell? ⟨gb371, 3, none⟩ = some (.string t368) := (blk_cell BK371.out 3).trans rfl; have hcz45_4 : w43.cell? ⟨gb371, 4, none⟩ = some (.int .i64 t369) := (blk_cell BK371.out 4).trans rfl; have hfz45_0 := blk_frozen BK371.out 0; have hfz45_1 := blk_frozen BK371.out 1; have hfz45_2 := blk_frozen BK371.out 2; have hfz45_3 := blk_frozen BK371.out 3; have hfz45_4 := blk_frozen BK371.out 4; have hcz46_0 : w43.cell? ⟨gb355, 0, none⟩ = some (.string t349) := (blk_cell BK355.out 0).trans rfl; have hcz46_1 : w43.cell? ⟨gb355, 1, none⟩ = some (.int .i64 t350) := (blk_cell BK355.out 1).trans rfl; have hcz46_2 : w43.cell? ⟨gb355, 2, none⟩ = some (.int .i64 t351) := (blk_cell BK355.out 2).trans rfl; have hcz46_3 : w43.cell? ⟨gb355, 3, none⟩ = some (.string t352) := (blk_cell BK355.out 3).trans rfl; have hcz46_4 : w43.cell? ⟨gb355, 4, none⟩ = some (.int .i64 t353) := (blk_cell BK355.out 4).trans rfl; have hfz46_0 := blk_frozen BK355.out 0; have hfz46_1 := blk_frozen BK355.out 1; have hfz46_2 := blk_frozen BK355.out 2; have hfz46_3 := blk_frozen BK355.out 3; have hfz46_4 := blk_frozen BK355.out 4) | (go_at_call 32; (with_reducible refine (laws_eqName.calls t365 t366 t367 t368 t369 t349 t350 t351 t352 t353 true _ A39.out).mono ?_); rintro e w47 ⟨rfl, hb⟩; have n0_ := Aside0.mk (Kd.R_below (z_131) hb); have n1_ := Aside0.mk (Kd.R_below (z_132) hb); have n2_ := Aside0.mk (Kd.Q_below (z_133) hb); have n3_ := Aside0.mk (Kd.R_below (z_137) hb); have n4_ := Aside0.mk (Kd.R_below (z_139) hb); have n5_ := Aside0.mk (Kd.R_below (z_140) hb); have n6_ := Aside0.mk (blk_below (g := gb355) (o := .cells #[.string t349, .int .i64 t350, .int .i64 t351, .string t352, .int .i64 t353] 26 (0, 0)) (z_138) hb); have n7_ := Aside0.mk (blk_below (g := gb371) (o := .cells #[.string t365, .int .i64 t366, .int .i64 t367, .string t368, .int .i64 t369] 26 (0, 0)) (z_153) hb); have n8_ := Aside0.mk (below_step (z_152) hb); clear HO342; clear HO345; clear HO348; clear HO358; clear HO361; clear HO364; clear BK355; clear BK371; clear HB; have HO342 := n0_; have HO345 := n1_; have HO348 := n2_; have HO358 := n3_; have HO361 := n4_; have HO364 := n5_; have BK355 := n6_; have BK371 := n7_; have HB := n8_; clear n0_ n1_ n2_ n3_ n4_ n5_ n6_ n7_ n8_; (try clear hb); (try clear hb2); (try clear hk); (try clear hi)))
       go_meet
       case rel => exact ⟨_, ((t370 != t354)), (z_6), H', ⟨z_52⟩, ⟨z_154⟩, ⟨z_155⟩, ⟨z_156⟩, ⟨z_157⟩, ⟨z_138⟩, ⟨z_153⟩, ⟨z_152⟩⟩
      ·replace c40 := Bool.eq_false_iff.mpr c40
       subst c40
       rw [if_neg (show ¬ (false = true) by decide)] at H
       have H' := Aside0.mk H
       clear H
       obtain ⟨Ao48, co48, eo48⟩ := Kd.R_slice HO364.out
       subst eo48
       obtain ⟨Ao49, co49, eo49, _⟩ := Kd.Q_slice HO348.out
       subst eo49
       go_wp2_with (first | ((with_reducible refine gate_callee (f := 37) rfl ?_); refine goesL_ (some 63) rfl rfl Try.func37 (z_0) rfl #[.slice Ao48 t362.length co48, .slice Ao49 t346.length co49] rfl (z_8) ?_; (with_reducible refine (laws_eqKeptS.calls k _ _ t362 _ _ t346 true _ ?side1 ?side2 ?side3 ?side4 A37.out).mono ?_); (case side1 => refine (Kd.R_reads' (e := 83) (base := w.heap.size) (ok := fun k_ => (((True ∧ some k_ ≠ (.slice Ao24 t340.length co24 : Value).ownBlock) ∧ some k_ ≠ (.slice Ao49 t346.length co49 : Value).ownBlock) ∧ some k_ ≠ (.slice Ao31 t356.length co31 : Value).ownBlock)) (n := t362.length) (c := co48) ?_).2.2; exact (z_144)); (case side2 => exact (Kd.R_reads' HO364.out).2.1); (case side3 => refine (Kd.Q_reads' (e := 83) (base := w.heap.size) (ok := fun k_ => (((True ∧ some k_ ≠ (.slice Ao24 t340.length co24 : Value).ownBlock) ∧ some k_ ≠ (.slice Ao31 t356.length co31 : Value).ownBlock) ∧ some k_ ≠ (.slice Ao48 t362.length co48 : Value).ownBlock)) (n := t346.length) (c := co49) ?_).2.2; exact (z_145)); (case side4 => exact (Kd.Q_reads' HO348.out).2.1); rintro e w50 ⟨rfl, hb⟩; refine ⟨_, rfl, ?_⟩; have n0_ := Aside0.mk (Kd.R_below (z_146) hb); have n1_ := Aside0.mk (Kd.R_below (z_147) hb); have n2_ := Aside0.mk (Kd.Q_below (z_145) hb); have n3_ := Aside0.mk (Kd.R_below (z_148) hb); have n4_ := Aside0.mk (Kd.R_below (z_149) hb); have n5_ := Aside0.mk (Kd.R_below (z_144) hb); have n6_ := Aside0.mk (blk_below (g := gb355) (o := .cells #[.string t349, .int .i64 t350, .int .i64 t351, .string t352, .int .i64 t353] 26 (0, 0)) (z_150) hb); have n7_ := Aside0.mk (blk_below (g := gb371) (o := .cells #[.string t365, .int .i64 t366, .int .i64 t367, .string t368, .int .i64 t369] 26 (0, 0)) (z_151) hb); have n8_ := Aside0.mk (below_step (z_152) hb); clear HO342; clear HO345; clear HO348; clear HO358; clear HO361; clear HO364; clear BK355; clear BK371; clear HB; have HO342 := n0_; have HO345 := n1_; have HO348 := n2_; have HO358 := n3_; have HO361 := n4_; have HO364 := n5_; have BK355 := n6_; have BK371 := n7_; have HB := n8_; clear n0_ n1_ n2_ n3_ n4_ n5_ n6_ n7_ n8_; (try clear hb); (try clear hb2); (try clear hk); (try clear hi); have hnb51 := NB371_355.out; have hnc51 := NB355_371.out; have hcz52_0 : w50.cell? ⟨gb371, 0, none⟩ = some (.string t365) := (blk_cell BK371.out 0).trans rfl; have hcz52_1 : w50.cell? ⟨gb371, 1, none⟩ = some (.int .i64 t366) := (blk_cell BK371.out 1).trans rfl; have hcz52_2 : w50.cell? ⟨gb371, 2, none⟩ = some (.int .i64 t367) := (blk_cell BK371.out 2).trans rfl; have hcz52_3 : w50.cell? ⟨gb371, 3, none⟩ = some (.string t368) := (blk_cell BK371.out 3).trans rfl; have hcz52_4 : w50.cell? ⟨gb371, 4, none⟩ = some (.int .i64 t369) := (blk_cell BK371.out 4).trans rfl; have hfz52_0 := blk_frozen BK371.out 0; have hfz52_1 := blk_frozen BK371.out 1; have hfz52_2 := blk_frozen BK371.out 2; have hfz52_3 := blk_frozen BK371.out 3; have hfz52_4 := blk_frozen BK371.out 4; have hcz53_0 : w50.cell? ⟨gb355, 0, none⟩ = some (.string t349) := (blk_cell BK355.out 0).trans rfl; have hcz53_1 : w50.cell? ⟨gb355, 1, none⟩ = some (.int .i64 t350) := (blk_cell BK355.out 1).trans rfl; have hcz53_2 : w50.cell? ⟨gb355, 2, none⟩ = some (.int .i64 t351) := (blk_cell BK355.out 2).trans rfl; have hcz53_3 : w50.cell? ⟨gb355, 3, none⟩ = some (.string t352) := (blk_cell BK355.out 3).trans rfl; have hcz53_4 : w50.cell? ⟨gb355, 4, none⟩ = some (.int .i64 t353) := (blk_cell BK355.out 4).trans rfl; have hfz53_0 := blk_frozen BK355.out 0; have hfz53_1 := blk_frozen BK355.out 1; have hfz53_2 := blk_frozen BK355.out 2; have hfz53_3 := blk_frozen BK355.out 3; have hfz53_4 := blk_frozen BK355.out 4) | (go_at_call 32; (with_reducible refine (laws_eqName.calls t365 t366 t367 t368 t369 t349 t350 t351 t352 t353 false _ A39.out).mono ?_); rintro e w54 ⟨rfl, hb⟩; have n0_ := Aside0.mk (Kd.R_below (z_131) hb); have n1_ := Aside0.mk (Kd.R_below (z_132) hb); have n2_ := Aside0.mk (Kd.Q_below (z_133) hb); have n3_ := Aside0.mk (Kd.R_below (z_137) hb); have n4_ := Aside0.mk (Kd.R_below (z_139) hb); have n5_ := Aside0.mk (Kd.R_below (z_140) hb); have n6_ := Aside0.mk (blk_below (g := gb355) (o := .cells #[.string t349, .int .i64 t350, .int .i64 t351, .string t352, .int .i64 t353] 26 (0, 0)) (z_138) hb); have n7_ := Aside0.mk (blk_below (g := gb371) (o := .cells #[.string t365, .int .i64 t366, .int .i64 t367, .string t368, .int .i64 t369] 26 (0, 0)) (z_153) hb); have n8_ := Aside0.mk (below_step (z_152) hb); clear HO342; clear HO345; clear HO348; clear HO358; clear HO361; clear HO364; clear BK355; clear BK371; clear HB; have HO342 := n0_; have HO345 := n1_; have HO348 := n2_; have HO358 := n3_; have HO361 := n4_; have HO364 := n5_; have BK355 := n6_; have BK371 := n7_; have HB := n8_; clear n0_ n1_ n2_ n3_ n4_ n5_ n6_ n7_ n8_; (try clear hb); (try clear hb2); (try clear hk); (try clear hi)))
       go_meet
       case rel => exact ⟨_, (true), (z_6), H', ⟨z_52⟩, ⟨z_154⟩, ⟨z_155⟩, ⟨z_156⟩, ⟨z_157⟩, ⟨z_138⟩, ⟨z_153⟩, ⟨z_152⟩⟩
     ·replace c38 := Bool.eq_false_iff.mpr c38
      subst c38
      rw [if_neg (show ¬ (false = true) by decide)] at H
      have H' := Aside0.mk H
      clear H
      obtain ⟨Ao55, co55, eo55⟩ := Kd.R_slice HO364.out
      subst eo55
      obtain ⟨Ao56, co56, eo56, _⟩ := Kd.Q_slice HO348.out
      subst eo56
      go_wp2_with (first | ((with_reducible refine gate_callee (f := 37) rfl ?_); refine goesL_ (some 63) rfl rfl Try.func37 (z_0) rfl #[.slice Ao55 t362.length co55, .slice Ao56 t346.length co56] rfl (z_8) ?_; (with_reducible refine (laws_eqKeptS.calls k _ _ t362 _ _ t346 false _ ?side1 ?side2 ?side3 ?side4 A37.out).mono ?_); (case side1 => refine (Kd.R_reads' (e := 83) (base := w.heap.size) (ok := fun k_ => (((True ∧ some k_ ≠ (.slice Ao24 t340.length co24 : Value).ownBlock) ∧ some k_ ≠ (.slice Ao56 t346.length co56 : Value).ownBlock) ∧ some k_ ≠ (.slice Ao31 t356.length co31 : Value).ownBlock)) (n := t362.length) (c := co55) ?_).2.2; exact (z_144)); (case side2 => exact (Kd.R_reads' HO364.out).2.1); (case side3 => refine (Kd.Q_reads' (e := 83) (base := w.heap.size) (ok := fun k_ => (((True ∧ some k_ ≠ (.slice Ao24 t340.length co24 : Value).ownBlock) ∧ some k_ ≠ (.slice Ao31 t356.length co31 : Value).ownBlock) ∧ some k_ ≠ (.slice Ao55 t362.length co55 : Value).ownBlock)) (n := t346.length) (c := co56) ?_).2.2; exact (z_145)); (case side4 => exact (Kd.Q_reads' HO348.out).2.1); rintro e w57 ⟨rfl, hb⟩; refine ⟨_, rfl, ?_⟩; have n0_ := Aside0.mk (Kd.R_below (z_146) hb); have n1_ := Aside0.mk (Kd.R_below (z_147) hb); have n2_ := Aside0.mk (Kd.Q_below (z_145) hb); have n3_ := Aside0.mk (Kd.R_below (z_148) hb); have n4_ := Aside0.mk (Kd.R_below (z_149) hb); have n5_ := Aside0.mk (Kd.R_below (z_144) hb); have n6_ := Aside0.mk (blk_below (g := gb355) (o := .cells #[.string t349, .int .i64 t350, .int .i64 t351, .string t352, .int .i64 t353] 26 (0, 0)) (z_150) hb); have n7_ := Aside0.mk (blk_below (g := gb371) (o := .cells #[.string t365, .int .i64 t366, .int .i64 t367, .string t368, .int .i64 t369] 26 (0, 0)) (z_151) hb); have n8_ := Aside0.mk (below_step (z_152) hb); clear HO342; clear HO345; clear HO348; clear HO358; clear HO361; clear HO364; clear BK355; clear BK371; clear HB; have HO342 := n0_; have HO345 := n1_; have HO348 := n2_; have HO358 := n3_; have HO361 := n4_; have HO364 := n5_; have BK355 := n6_; have BK371 := n7_; have HB := n8_; clear n0_ n1_ n2_ n3_ n4_ n5_ n6_ n7_ n8_; (try clear hb); (try clear hb2); (try clear hk); (try clear hi)))
      go_meet
      case rel => exact ⟨_, (true), (z_6), H', ⟨z_52⟩, ⟨z_154⟩, ⟨z_155⟩, ⟨z_156⟩, ⟨z_157⟩, ⟨z_138⟩, ⟨z_153⟩, ⟨z_152⟩⟩
    case rest =>
     clear HC19
     try clear c1
     try clear c2
     try clear p2
     try clear c3
     try clear c4
     try clear c5
     try clear c5b0
     try clear c5b1
     try clear c7
     try clear c7b0
     try clear c10
     try clear c10b0
     try clear c16
     try clear c24
     try clear c26
     try clear c33
     try clear c35
     try clear c37
     try clear c38
     try clear c40
     try clear c44
     try clear c45
     try clear c51
     try clear hcz28_0
     try clear hcz28_1
     try clear hcz28_2
     try clear hcz28_3
     try clear hcz28_4
     try clear hcz36_0
     try clear hcz36_1
     try clear hcz36_2
     try clear hcz36_3
     try clear hcz36_4
     try clear hcz45_0
     try clear hcz45_1
     try clear hcz45_2
     try clear hcz45_3
     try clear hcz45_4
     try clear hcz46_0
     try clear hcz46_1
     try clear hcz46_2
     try clear hcz46_3
     try clear hcz46_4
     try clear hcz52_0
     try clear hcz52_1
     try clear hcz52_2
     try clear hcz52_3
     try clear hcz52_4
     try clear hcz53_0
     try clear hcz53_1
     try clear hcz53_2
     try clear hcz53_3
     try clear hcz53_4
     try clear hfz28_0
     try clear hfz28_1
     try clear hfz28_2
     try clear hfz28_3
     try clear hfz28_4
     try clear hfz36_0
     try clear hfz36_1
     try clear hfz36_2
     try clear hfz36_3
     try clear hfz36_4
     try clear hfz45_0
     try clear hfz45_1
     try clear hfz45_2
     try clear hfz45_3
     try clear hfz45_4
     try clear hfz46_0
     try clear hfz46_1
     try clear hfz46_2
     try clear hfz46_3
     try clear hfz46_4
     try clear hfz52_0
     try clear hfz52_1
     try clear hfz52_2
     try clear hfz52_3
     try clear hfz52_4
     try clear hfz53_0
     try clear hfz53_1
     try clear hfz53_2
     try clear hfz53_3
     try clear hfz53_4
     obtain ⟨kq, x75_18, rfl, HA, HJ18, HO_10, HO_13, HO_14, HO_15, BK355, BK371, HB⟩ := hcut
     cases kq with
     | zero => exact absurd HA.out (by simp [laws_FnExactKeptAsk.j0])
     | succ kj18 =>
      have H := HA.out
      clear HA
      simp only [laws_FnExactKeptAsk.j0] at H
      by_cases c58 : x75_18 = true
      ·subst c58
       rw [if_pos rfl] at H
       obtain rfl := Option.some.inj H
       go_wp2
       go_ret
       exact ⟨z_4, z_152⟩
      ·replace c58 := Bool.eq_false_iff.mpr c58
       subst c58
       rw [if_neg (show ¬ (false = true) by decide)] at H
       replace H := Option.bind_eq_some_iff.mp H
       obtain ⟨t374, A590, H⟩ := H
       have A59 := Aside0.mk A590
       clear A590
       replace H := Option.bind_eq_some_iff.mp H
       obtain ⟨t377, A600, H⟩ := H
       have A60 := Aside0.mk A600
       clear A600
       by_cases c61 : t377 = true
       ·subst c61
        rw [if_pos rfl] at H
        replace H := Option.bind_eq_some_iff.mp H
        obtain ⟨t378, A620, H⟩ := H
        have A62 := Aside0.mk A620
        clear A620
        replace H := Option.bind_eq_some_iff.mp H
        obtain ⟨t381, A630, H⟩ := H
        have A63 := Aside0.mk A630
        clear A630
        by_cases c64 : t381 = true
        ·subst c64
         rw [if_pos rfl] at H
         replace H := Option.bind_eq_some_iff.mp H
         obtain ⟨⟨t382, t383⟩, A650, H⟩ := H
         replace H : ((laws_markNameS.f kj18 t359 t382).bind fun bt384 => (if bt384.1 < 0 then (laws_FnExactKeptAsk.j1 kj18 l0 l1 a2 a3 t346 t354 t362 true t349 t350 t351 t352 t353) else ((laws_eqKeptS.f kj18 t362 t346).bind fun t386 => (if t386 = true then ((laws_eqName.f t365 t366 t367 t368 t369 t349 t350 t351 t352 t353).bind fun t387 => (if t387 = true then (laws_FnExactKeptAsk.j1 kj18 l0 l1 a2 a3 t346 t354 t362 (t370 != t354) t349 t350 t351 t352 t353) else (laws_FnExactKeptAsk.j1 kj18 l0 l1 a2 a3 t346 t354 t362 true t349 t350 t351 t352 t353))) else (laws_FnExactKeptAsk.j1 kj18 l0 l1 a2 a3 t346 t354 t362 true t349 t350 t351 t352 t353))))) = some r := H
         have A65 := Aside0.mk A650
         clear A650
         replace H := Option.bind_eq_some_iff.mp H
         obtain ⟨⟨t384, t385⟩, A660, H⟩ := H
         replace H : (if t384 < 0 then (laws_FnExactKeptAsk.j1 kj18 l0 l1 a2 a3 t346 t354 t362 true t349 t350 t351 t352 t353) else ((laws_eqKeptS.f kj18 t362 t346).bind fun t386 => (if t386 = true then ((laws_eqName.f t365 t366 t367 t368 t369 t349 t350 t351 t352 t353).bind fun t387 => (if t387 = true then (laws_FnExactKeptAsk.j1 kj18 l0 l1 a2 a3 t346 t354 t362 (t370 != t354) t349 t350 t351 t352 t353) else (laws_FnExactKeptAsk.j1 kj18 l0 l1 a2 a3 t346 t354 t362 true t349 t350 t351 t352 t353))) else (laws_FnExactKeptAsk.j1 kj18 l0 l1 a2 a3 t346 t354 t362 true t349 t350 t351 t352 t353)))) = some r := H
         have A66 := Aside0.mk A660
         clear A660
         have HC67 := Aside0.mk H
         clear H
         go_upto_region 23 with (first | ((with_reducible refine gate_callee (f := 35) rfl ?_); refine goesL_ (some 78) rfl rfl Try.func35 (z_0) rfl #[.slice A0 l0.length c0] rfl (z_8) ?_; (with_reducible refine (laws_toKeptS.calls kj18 _ _ l0 t374 _ ?side1 ?side2 A59.out).mono ?_); (case side1 => exact z_62); (case side2 => exact HC0.out); rintro e w68 ⟨v375, rfl, ho0, hb⟩; refine ⟨_, rfl, ?_⟩; have n0_ := Aside0.mk (Kd.Q_elder' (z_158) (Kd.R_base ho0) hb); have n1_ := Aside0.mk (Kd.R_elder' (z_159) (Kd.R_base ho0) hb); have n2_ := Aside0.mk (Kd.R_below (z_160) hb); have n3_ := Aside0.mk (Kd.R_elder' (z_161) (Kd.R_base ho0) hb); have n4_ := Aside0.mk (Kd.R_lower (Kd.R_new' (Kd.R_new' (Kd.R_new' ho0 (Kd.Q_lt (z_158))) (Kd.R_lt (z_159))) (Kd.R_lt (z_161))) (below_size (z_152))); have n5_ := Aside0.mk (blk_below (g := gb355) (o := .cells #[.string t349, .int .i64 t350, .int .i64 t351, .string t352, .int .i64 t353] 26 (0, 0)) (z_138) hb); have n6_ := Aside0.mk (blk_below (g := gb371) (o := .cells #[.string t365, .int .i64 t366, .int .i64 t367, .string t368, .int .i64 t369] 26 (0, 0)) (z_153) hb); have n7_ := Aside0.mk (below_step (z_152) hb); clear HO_10; clear HO_13; clear HO_14; clear HO_15; clear BK355; clear BK371; clear HB; have HO_10 := n0_; have HO_13 := n1_; have HO_14 := n2_; have HO_15 := n3_; have HO376 := n4_; have BK355 := n5_; have BK371 := n6_; have HB := n7_; clear n0_ n1_ n2_ n3_ n4_ n5_ n6_ n7_; (try clear hb); (try clear hb2); (try clear hk); (try clear hi); (try clear ho0); obtain ⟨Ao69, co69, eo69⟩ := Kd.R_slice HO376.out; subst eo69) | ((with_reducible refine gate_callee (f := 37) rfl ?_); refine goesL_ (some 79) rfl rfl Try.func37 (z_0) rfl #[.slice Ao31 t356.length co31, .slice Ao69 t374.length co69] rfl (z_8) ?_; (with_reducible refine (laws_eqKeptS.calls kj18 _ _ t356 _ _ t374 true _ ?side1 ?side2 ?side3 ?side4 A60.out).mono ?_); (case side1 => exact z_162); (case side2 => exact (Kd.R_reads' HO_13.out).2.1); (case side3 => exact z_163); (case side4 => exact (Kd.R_reads' HO376.out).2.1); rintro e w70 ⟨rfl, hb⟩; refine ⟨_, rfl, ?_⟩; have n0_ := Aside0.mk (Kd.Q_below (z_158) hb); have n1_ := Aside0.mk (Kd.R_below (z_159) hb); have n2_ := Aside0.mk (Kd.R_below (z_160) hb); have n3_ := Aside0.mk (Kd.R_below (z_161) hb); have n4_ := Aside0.mk (Kd.R_below (z_164) hb); have n5_ := Aside0.mk (blk_below (g := gb355) (o := .cells #[.string t349, .int .i64 t350, .int .i64 t351, .string t352, .int .i64 t353] 26 (0, 0)) (z_138) hb); have n6_ := Aside0.mk (blk_below (g := gb371) (o := .cells #[.string t365, .int .i64 t366, .int .i64 t367, .string t368, .int .i64 t369] 26 (0, 0)) (z_153) hb); have n7_ := Aside0.mk (below_step (z_152) hb); clear HO_10; clear HO_13; clear HO_14; clear HO_15; clear HO376; clear BK355; clear BK371; clear HB; have HO_10 := n0_; have HO_13 := n1_; have HO_14 := n2_; have HO_15 := n3_; have HO376 := n4_; have BK355 := n5_; have BK371 := n6_; have HB := n7_; clear n0_ n1_ n2_ n3_ n4_ n5_ n6_ n7_; (try clear hb); (try clear hb2); (try clear hk); (try clear hi)) | ((with_reducible refine gate_callee (f := 26) rfl ?_); refine goesL_ (some 83) rfl rfl Try.func26 (z_0) rfl #[.slice A1 l1.length c1] rfl (z_8) ?_; (with_reducible refine (laws_toNameS.calls kj18 _ _ l1 t378 _ ?side1 ?side2 A62.out).mono ?_); (case side1 => exact z_61); (case side2 => exact HC1.out); rintro e w71 ⟨v379, rfl, ho0, hb⟩; refine ⟨_, rfl, ?_⟩; have n0_ := Aside0.mk (Kd.Q_below (z_158) hb); have n1_ := Aside0.mk (Kd.R_below (z_159) hb); have n2_ := Aside0.mk (Kd.R_elder' (z_160) (Kd.R_base ho0) hb); have n3_ := Aside0.mk (Kd.R_below (z_161) hb); have n4_ := Aside0.mk (Kd.R_below (z_164) hb); have n5_ := Aside0.mk (Kd.R_lower (Kd.R_newB (Kd.R_newB (Kd.R_new' ho0 (Kd.R_lt (z_160))) (g := gb355) (o := .cells #[.string t349, .int .i64 t350, .int .i64 t351, .string t352, .int .i64 t353] 26 (0, 0)) (z_138)) (g := gb371) (o := .cells #[.string t365, .int .i64 t366, .int .i64 t367, .string t368, .int .i64 t369] 26 (0, 0)) (z_153)) (below_size (z_152))); have n6_ := Aside0.mk (blk_below (g := gb355) (o := .cells #[.string t349, .int .i64 t350, .int .i64 t351, .string t352, .int .i64 t353] 26 (0, 0)) (z_138) hb); have n7_ := Aside0.mk (blk_below (g := gb371) (o := .cells #[.string t365, .int .i64 t366, .int .i64 t367, .string t368, .int .i64 t369] 26 (0, 0)) (z_153) hb); have n8_ := Aside0.mk (below_step (z_152) hb); clear HO_10; clear HO_13; clear HO_14; clear HO_15; clear HO376; clear BK355; clear BK371; clear HB; have HO_10 := n0_; have HO_13 := n1_; have HO_14 := n2_; have HO_15 := n3_; have HO376 := n4_; have HO380 := n5_; have BK355 := n6_; have BK371 := n7_; have HB := n8_; clear n0_ n1_ n2_ n3_ n4_ n5_ n6_ n7_ n8_; (try clear hb); (try clear hb2); (try clear hk); (try clear hi); (try clear ho0); obtain ⟨Ao72, co72, eo72⟩ := Kd.R_slice HO380.out; subst eo72) | ((with_reducible refine gate_callee (f := 28) rfl ?_); refine goesL_ (some 84) rfl rfl Try.func28 (z_0) rfl #[.slice Ao32 t359.length co32, .slice Ao72 t378.length co72] rfl (z_8) ?_; (with_reducible refine (laws_eqNameS.calls kj18 _ _ t359 _ _ t378 true _ ?side1 ?side2 ?side3 ?side4 A63.out).mono ?_); (case side1 => exact z_165); (case side2 => exact (Kd.R_reads' HO_14.out).2.1); (case side3 => exact z_166); (case side4 => exact (Kd.R_reads' HO380.out).2.1); rintro e w73 ⟨rfl, hb⟩; refine ⟨_, rfl, ?_⟩; have n0_ := Aside0.mk (Kd.Q_below (z_158) hb); have n1_ := Aside0.mk (Kd.R_below (z_159) hb); have n2_ := Aside0.mk (Kd.R_below (z_160) hb); have n3_ := Aside0.mk (Kd.R_below (z_161) hb); have n4_ := Aside0.mk (Kd.R_below (z_164) hb); have n5_ := Aside0.mk (Kd.R_below (z_167) hb); have n6_ := Aside0.mk (blk_below (g := gb355) (o := .cells #[.string t349, .int .i64 t350, .int .i64 t351, .string t352, .int .i64 t353] 26 (0, 0)) (z_138) hb); have n7_ := Aside0.mk (blk_below (g := gb371) (o := .cells #[.string t365, .int .i64 t366, .int .i64 t367, .string t368, .int .i64 t369] 26 (0, 0)) (z_153) hb); have n8_ := Aside0.mk (below_step (z_152) hb); clear HO_10; clear HO_13; clear HO_14; clear HO_15; clear HO376; clear HO380; clear BK355; clear BK371; clear HB; have HO_10 := n0_; have HO_13 := n1_; have HO_14 := n2_; have HO_15 := n3_; have HO376 := n4_; have HO380 := n5_; have BK355 := n6_; have BK371 := n7_; have HB := n8_; clear n0_ n1_ n2_ n3_ n4_ n5_ n6_ n7_ n8_; (try clear hb); (try clear hb2); (try clear hk); (try clear hi)) | ((with_reducible refine gate_callee (f := 51) rfl ?_); refine goesL_ (some 88) rfl rfl Try.func51 (z_0) rfl #[.slice Ao31 t356.length co31, .int .i64 1] rfl (z_8) ?_; (with_reducible refine (laws_markKeptS.calls kj18 (fun k_ => some k_ = (.slice Ao31 t356.length co31 : Value).ownBlock) (.slice Ao31 t356.length co31) t356 1 t382 t383 w _ ?side1 ?side2 A65.out).mono ?_); (case side1 => exact z_152); (case side2 => exact Kd.R_tight rfl HO_13.out); rintro e w74 ⟨rfl, hy0, hb, hkp⟩; refine ⟨_, rfl, ?_⟩; have n0_ := Aside0.mk (Kd.Q_mono (ok' := fun k_ => some k_ ≠ (.slice Ao31 t356.length co31 : Value).ownBlock ∧ some k_ ≠ (v363 : Value).ownBlock ∧ some k_ ≠ (.slice Ao69 t374.length co69 : Value).ownBlock) (Kd.Q_keptB (HO_10.out) hkp (fun k_ hk_ hs_ => (hk_.1.1) hs_)) (fun k_ hk_ => ⟨hk_.1.1.1, hk_.1.1.2, hk_.1.2⟩)); have n1_ := Aside0.mk (Kd.R_reok rfl hy0 (fun k_ e_ => HO_13.out.1 k_ e_)); have n2_ := Aside0.mk (Kd.R_mono (ok' := fun k_ => some k_ ≠ (.slice Ao72 t378.length co72 : Value).ownBlock ∧ k_ ≠ gb355 ∧ k_ ≠ gb371) (Kd.R_keptB ((Kd.R_apart' HO_14.out (Kd.R_typed HO_13.out) (z_19))) hkp (fun k_ hk_ hs_ => (hk_.2) hs_)) (fun k_ hk_ => ⟨hk_.1.1.2, hk_.1.1.1.1, hk_.1.1.1.2⟩)); have n3_ := Aside0.mk (Kd.R_mono (ok' := fun k_ => some k_ ≠ (v347 : Value).ownBlock ∧ some k_ ≠ (.slice Ao31 t356.length co31 : Value).ownBlock ∧ some k_ ≠ (.slice Ao69 t374.length co69 : Value).ownBlock) (Kd.R_keptB (HO_15.out) hkp (fun k_ hk_ hs_ => (hk_.1.2) hs_)) (fun k_ hk_ => ⟨hk_.1.1.1, hk_.1.1.2, hk_.1.2⟩)); have n4_ := Aside0.mk (blk_kept (z_138) hkp (fun hs_ => (fun e_ => (Kd.R_ne HO_13.out BK355.out (z_19)) e_) hs_)); have n5_ := Aside0.mk (blk_kept (z_153) hkp (fun hs_ => (fun e_ => (Kd.R_ne HO_13.out BK371.out (z_19)) e_) hs_)); have n6_ := Aside0.mk (Kd.R_mono (ok' := fun k_ => some k_ ≠ (v347 : Value).ownBlock ∧ some k_ ≠ (.slice Ao31 t356.length co31 : Value).ownBlock ∧ some k_ ≠ (v363 : Value).ownBlock) (Kd.R_keptB (HO376.out) hkp (fun k_ hk_ hs_ => (hk_.1.2) hs_)) (fun k_ hk_ => ⟨hk_.1.1.1.2, hk_.1.1.2, hk_.1.2⟩)); have n7_ := Aside0.mk (Kd.R_mono (ok' := fun k_ => some k_ ≠ (.slice Ao32 t359.length co32 : Value).ownBlock ∧ k_ ≠ gb355 ∧ k_ ≠ gb371) (Kd.R_keptB ((Kd.R_apart' HO380.out (Kd.R_typed HO_13.out) (z_19))) hkp (fun k_ hk_ hs_ => (hk_.2) hs_)) (fun k_ hk_ => ⟨hk_.1.1.1.1.2, hk_.1.1.1.2, hk_.1.1.2⟩)); have n8_ := Aside0.mk (hb); clear HO_10; clear HO_13; clear HO_14; clear HO_15; clear BK355; clear BK371; clear HO376; clear HO380; clear HB; have HO_10 := n0_; have HO_13 := n1_; have HO_14 := n2_; have HO_15 := n3_; have BK355 := n4_; have BK371 := n5_; have HO376 := n6_; have HO380 := n7_; have HB := n8_; clear n0_ n1_ n2_ n3_ n4_ n5_ n6_ n7_ n8_; (try clear hb); (try clear hkp); (try clear hy0)) | ((with_reducible refine gate_callee (f := 52) rfl ?_); refine goesL_ (some 91) rfl rfl Try.func52 (z_0) rfl #[.slice Ao32 t359.length co32, .int .i64 t382] rfl (z_8) ?_; (with_reducible refine (laws_markNameS.calls kj18 (fun k_ => some k_ = (.slice Ao32 t359.length co32 : Value).ownBlock) (.slice Ao32 t359.length co32) t359 t382 t384 t385 w _ ?side1 ?side2 A66.out).mono ?_); (case side1 => exact z_152); (case side2 => exact Kd.R_tight rfl HO_14.out); rintro e w75 ⟨rfl, hy0, hb, hkp⟩; refine ⟨_, rfl, ?_⟩; have n0_ := Aside0.mk (Kd.Q_mono (ok' := fun k_ => some k_ ≠ (.slice Ao31 t356.length co31 : Value).ownBlock ∧ some k_ ≠ (v363 : Value).ownBlock ∧ some k_ ≠ (.slice Ao69 t374.length co69 : Value).ownBlock) (Kd.Q_keptB ((Kd.Q_apart' HO_10.out (Kd.R_typed HO_14.out) (z_19))) hkp (fun k_ hk_ hs_ => (hk_.2) hs_)) (fun k_ hk_ => ⟨hk_.1.1.1, hk_.1.1.2.1, hk_.1.1.2.2⟩)); have n1_ := Aside0.mk (Kd.R_mono (ok' := fun k_ => some k_ ≠ (v347 : Value).ownBlock ∧ some k_ ≠ (v363 : Value).ownBlock ∧ some k_ ≠ (.slice Ao69 t374.length co69 : Value).ownBlock) (Kd.R_keptB ((Kd.R_apart' HO_13.out (Kd.R_typed HO_14.out) (z_19))) hkp (fun k_ hk_ hs_ => (hk_.2) hs_)) (fun k_ hk_ => ⟨hk_.1.1.1.1, hk_.1.1.1.2, hk_.1.1.2⟩)); have n2_ := Aside0.mk (Kd.R_reok rfl hy0 (fun k_ e_ => HO_14.out.1 k_ e_)); have n3_ := Aside0.mk (Kd.R_mono (ok' := fun k_ => some k_ ≠ (v347 : Value).ownBlock ∧ some k_ ≠ (.slice Ao31 t356.length co31 : Value).ownBlock ∧ some k_ ≠ (.slice Ao69 t374.length co69 : Value).ownBlock) (Kd.R_keptB ((Kd.R_apart' HO_15.out (Kd.R_typed HO_14.out) (z_19))) hkp (fun k_ hk_ hs_ => (hk_.2) hs_)) (fun k_ hk_ => ⟨hk_.1.1.1, hk_.1.1.2.1, hk_.1.1.2.2⟩)); have n4_ := Aside0.mk (blk_kept (z_138) hkp (fun hs_ => (fun e_ => (Kd.R_away HO_14.out (fun _ hk => hk.2.1)) e_) hs_)); have n5_ := Aside0.mk (blk_kept (z_153) hkp (fun hs_ => (fun e_ => (Kd.R_away HO_14.out (fun _ hk => hk.2.2)) e_) hs_)); have n6_ := Aside0.mk (Kd.R_mono (ok' := fun k_ => some k_ ≠ (v347 : Value).ownBlock ∧ some k_ ≠ (.slice Ao31 t356.length co31 : Value).ownBlock ∧ some k_ ≠ (v363 : Value).ownBlock) (Kd.R_keptB ((Kd.R_apart' HO376.out (Kd.R_typed HO_14.out) (z_19))) hkp (fun k_ hk_ hs_ => (hk_.2) hs_)) (fun k_ hk_ => ⟨hk_.1.1.1, hk_.1.1.2.1, hk_.1.1.2.2⟩)); have n7_ := Aside0.mk (Kd.R_mono (ok' := fun k_ => some k_ ≠ (.slice Ao32 t359.length co32 : Value).ownBlock ∧ k_ ≠ gb355 ∧ k_ ≠ gb371) (Kd.R_keptB (HO380.out) hkp (fun k_ hk_ hs_ => (hk_.1) hs_)) (fun k_ hk_ => ⟨hk_.1.1, hk_.1.2.1, hk_.1.2.2⟩)); have n8_ := Aside0.mk (hb); clear HO_10; clear HO_13; clear HO_14; clear HO_15; clear BK355; clear BK371; clear HO376; clear HO380; clear HB; have HO_10 := n0_; have HO_13 := n1_; have HO_14 := n2_; have HO_15 := n3_; have BK355 := n4_; have BK371 := n5_; have HO376 := n6_; have HO380 := n7_; have HB := n8_; clear n0_ n1_ n2_ n3_ n4_ n5_ n6_ n7_ n8_; (try clear hb); (try clear hkp); (try clear hy0)))
         (try simp only [Act.put, List.setIfInBounds_toArray, List.set_cons_zero, List.set_cons_succ])
         go_cut [110] (fun v110 wc => ∃ (kq : Nat) (x110_66 : Bool), v110 = .bool x110_66 ∧ Aside0 (laws_FnExactKeptAsk.j1 kq l0 l1 a2 a3 t346 t354 t362 x110_66 t349 t350 t351 t352 t353 = some r) ∧ Aside0 (kq ≤ kj18) ∧ Aside0 (Kd.Q k83 83 wc w.heap.size (fun k_ => some k_ ≠ (v363 : Value).ownBlock) v347 t346) ∧ Aside0 (Kd.R k83 83 wc w.heap.size (fun k_ => some k_ ≠ (v347 : Value).ownBlock) v363 t362) ∧ Aside0 (wc.heap[gb355]? = some (.cells #[.string t349, .int .i64 t350, .int .i64 t351, .string t352, .int .i64 t353] 26 (0, 0))) ∧ Aside0 (wc.heap[gb371]? = some (.cells #[.string t365, .int .i64 t366, .int .i64 t367, .string t368, .int .i64 t369] 26 (0, 0))) ∧ Aside0 (Below w.heap.size w wc))
         case first =>
          have H := HC67.out
          clear HC67
          by_cases c76 : t384 < 0
          ·rw [if_pos c76] at H
           have c76b0 : decide (t384 < 0) = true := decide_eq_true c76
           clear c76
           (first | rw [c76b0] | (simp only [i64_w, i32_w]; rw [c76b0]) | skip)
           have H' := Aside0.mk H
           clear H
           go_wp2
           go_meet
           case rel => exact ⟨_, (true), (z_6), H', ⟨z_168⟩, ⟨z_169⟩, ⟨z_170⟩, ⟨z_138⟩, ⟨z_153⟩, ⟨z_152⟩⟩
          ·rw [if_neg c76] at H
           have c76b0 : decide (t384 < 0) = false := decide_eq_false c76
           clear c76
           (first | rw [c76b0] | (simp only [i64_w, i32_w]; rw [c76b0]) | skip)
           replace H := Option.bind_eq_some_iff.mp H
           obtain ⟨t386, A770, H⟩ := H
           have A77 := Aside0.mk A770
           clear A770
           by_cases c78 : t386 = true
           ·subst c78
            rw [if_pos rfl] at H
            replace H := Option.bind_eq_some_iff.mp H
            obtain ⟨t387, A790, H⟩ := H
            have A79 := Aside0.mk A790
            clear A790
            by_cases c80 : t387 = true
            ·subst c80
             rw [if_pos rfl] at H
             have H' := Aside0.mk H
             clear H
             obtain ⟨Ao81, co81, eo81⟩ := Kd.R_slice HO_15.out
             subst eo81
             obtain ⟨Ao82, co82, eo82, _⟩ := Kd.Q_slice HO_10.out
             subst eo82
             go_wp2_with (first | (go_at_call 37; (with_reducible refine (laws_eqKeptS.calls kj18 _ _ t362 _ _ t346 true _ ?side1 ?side2 ?side3 ?side4 A77.out).mono ?_); (case side1 => exact z_171); (case side2 => exact z_172); (case side3 => exact z_173); (case side4 => exact z_174); rintro e w83 ⟨rfl, hb⟩; have n0_ := Aside0.mk (Kd.Q_below (z_158) hb); have n1_ := Aside0.mk (Kd.R_below (z_159) hb); have n2_ := Aside0.mk (Kd.R_below (z_160) hb); have n3_ := Aside0.mk (Kd.R_below (z_161) hb); have n4_ := Aside0.mk (Kd.R_below (z_164) hb); have n5_ := Aside0.mk (Kd.R_below (z_167) hb); have n6_ := Aside0.mk (blk_below (g := gb355) (o := .cells #[.string t349, .int .i64 t350, .int .i64 t351, .string t352, .int .i64 t353] 26 (0, 0)) (z_138) hb); have n7_ := Aside0.mk (blk_below (g := gb371) (o := .cells #[.string t365, .int .i64 t366, .int .i64 t367, .string t368, .int .i64 t369] 26 (0, 0)) (z_153) hb); have n8_ := Aside0.mk (below_step (z_152) hb); clear HO_10; clear HO_13; clear HO_14; clear HO_15; clear HO376; clear HO380; clear BK355; clear BK371; clear HB; have HO_10 := n0_; have HO_13 := n1_; have HO_14 := n2_; have HO_15 := n3_; have HO376 := n4_; have HO380 := n5_; have BK355 := n6_; have BK371 := n7_; have HB := n8_; clear n0_ n1_ n2_ n3_ n4_ n5_ n6_ n7_ n8_; (try clear hb); (try clear hb2); (try clear hk); (try clear hi); have hnb84 := NB371_355.out; have hnc84 := NB355_371.out; have hcz85_0 : w83.cell? ⟨gb371, 0, none⟩ = some (.string t365) := (blk_cell BK371.out 0).trans rfl; have hcz85_1 : w83.cell? ⟨gb371, 1, none⟩ = some (.int .i64 t366) := (blk_cell BK371.out 1).trans rfl; have hcz85_2 : w83.cell? ⟨gb371, 2, none⟩ = some (.int .i64 t367) := (blk_cell BK371.out 2).trans rfl; have hcz85_3 : w83.cell? ⟨gb371, 3, none⟩ = some (.string t368) := (blk_cell BK371.out 3).trans rfl; have hcz85_4 : w83.cell? ⟨gb371, 4, none⟩ = some (.int .i64 t369) := (blk_cell BK371.out 4).trans rfl; have hfz85_0 := blk_frozen BK371.out 0; have hfz85_1 := blk_frozen BK371.out 1; have hfz85_2 := blk_frozen BK371.out 2; have hfz85_3 := blk_frozen BK371.out 3; have hfz85_4 := blk_frozen BK371.out 4; have hcz86_0 : w83.cell? ⟨gb355, 0, none⟩ = some (.string t349) := (blk_cell BK355.out 0).trans rfl; have hcz86_1 : w83.cell? ⟨gb355, 1, none⟩ = some (.int .i64 t350) := (blk_cell BK355.out 1).trans rfl; have hcz86_2 : w83.cell? ⟨gb355, 2, none⟩ = some (.int .i64 t351) := (blk_cell BK355.out 2).trans rfl; have hcz86_3 : w83.cell? ⟨gb355, 3, none⟩ = some (.string t352) := (blk_cell BK355.out 3).trans rfl; have hcz86_4 : w83.cell? ⟨gb355, 4, none⟩ = some (.int .i64 t353) := (blk_cell BK355.out 4).trans rfl; have hfz86_0 := blk_frozen BK355.out 0; have hfz86_1 := blk_frozen BK355.out 1; have hfz86_2 := blk_frozen BK355.out 2; have hfz86_3 := blk_frozen BK355.out 3; have hfz86_4 := blk_frozen BK355.out 4) | (go_at_call 32; (with_reducible refine (laws_eqName.calls t365 t366 t367 t368 t369 t349 t350 t351 t352 t353 true _ A79.out).mono ?_); rintro e w87 ⟨rfl, hb⟩; have n0_ := Aside0.mk (Kd.Q_below (z_158) hb); have n1_ := Aside0.mk (Kd.R_below (z_159) hb); have n2_ := Aside0.mk (Kd.R_below (z_160) hb); have n3_ := Aside0.mk (Kd.R_below (z_161) hb); have n4_ := Aside0.mk (Kd.R_below (z_164) hb); have n5_ := Aside0.mk (Kd.R_below (z_167) hb); have n6_ := Aside0.mk (blk_below (g := gb355) (o := .cells #[.string t349, .int .i64 t350, .int .i64 t351, .string t352, .int .i64 t353] 26 (0, 0)) (z_138) hb); have n7_ := Aside0.mk (blk_below (g := gb371) (o := .cells #[.string t365, .int .i64 t366, .int .i64 t367, .string t368, .int .i64 t369] 26 (0, 0)) (z_153) hb); have n8_ := Aside0.mk (below_step (z_152) hb); clear HO_10; clear HO_13; clear HO_14; clear HO_15; clear HO376; clear HO380; clear BK355; clear BK371; clear HB; have HO_10 := n0_; have HO_13 := n1_; have HO_14 := n2_; have HO_15 := n3_; have HO376 := n4_; have HO380 := n5_; have BK355 := n6_; have BK371 := n7_; have HB := n8_; clear n0_ n1_ n2_ n3_ n4_ n5_ n6_ n7_ n8_; (try clear hb); (try clear hb2); (try clear hk); (try clear hi)))
             go_meet
             case rel => exact ⟨_, ((t370 != t354)), (z_6), H', ⟨z_168⟩, ⟨z_169⟩, ⟨z_170⟩, ⟨z_138⟩, ⟨z_153⟩, ⟨z_152⟩⟩
            ·replace c80 := Bool.eq_false_iff.mpr c80
             subst c80
             rw [if_neg (show ¬ (false = true) by decide)] at H
             have H' := Aside0.mk H
             clear H
             obtain ⟨Ao88, co88, eo88⟩ := Kd.R_slice HO_15.out
             subst eo88
             obtain ⟨Ao89, co89, eo89, _⟩ := Kd.Q_slice HO_10.out
             subst eo89
             go_wp2_with (first | (go_at_call 37; (with_reducible refine (laws_eqKeptS.calls kj18 _ _ t362 _ _ t346 true _ ?side1 ?side2 ?side3 ?side4 A77.out).mono ?_); (case side1 => exact z_171); (case side2 => exact z_172); (case side3 => exact z_173); (case side4 => exact z_174); rintro e w90 ⟨rfl, hb⟩; have n0_ := Aside0.mk (Kd.Q_below (z_158) hb); have n1_ := Aside0.mk (Kd.R_below (z_159) hb); have n2_ := Aside0.mk (Kd.R_below (z_160) hb); have n3_ := Aside0.mk (Kd.R_below (z_161) hb); have n4_ := Aside0.mk (Kd.R_below (z_164) hb); have n5_ := Aside0.mk (Kd.R_below (z_167) hb); have n6_ := Aside0.mk (blk_below (g := gb355) (o := .cells #[.string t349, .int .i64 t350, .int .i64 t351, .string t352, .int .i64 t353] 26 (0, 0)) (z_138) hb); have n7_ := Aside0.mk (blk_below (g := gb371) (o := .cells #[.string t365, .int .i64 t366, .int .i64 t367, .string t368, .int .i64 t369] 26 (0, 0)) (z_153) hb); have n8_ := Aside0.mk (below_step (z_152) hb); clear HO_10; clear HO_13; clear HO_14; clear HO_15; clear HO376; clear HO380; clear BK355; clear BK371; clear HB; have HO_10 := n0_; have HO_13 := n1_; have HO_14 := n2_; have HO_15 := n3_; have HO376 := n4_; have HO380 := n5_; have BK355 := n6_; have BK371 := n7_; have HB := n8_; clear n0_ n1_ n2_ n3_ n4_ n5_ n6_ n7_ n8_; (try clear hb); (try clear hb2); (try clear hk); (try clear hi); have hnb91 := NB371_355.out; have hnc91 := NB355_371.out; have hcz92_0 : w90.cell? ⟨gb371, 0, none⟩ = some (.string t365) := (blk_cell BK371.out 0).trans rfl; have hcz92_1 : w90.cell? ⟨gb371, 1, none⟩ = some (.int .i64 t366) := (blk_cell BK371.out 1).trans rfl; have hcz92_2 : w90.cell? ⟨gb371, 2, none⟩ = some (.int .i64 t367) := (blk_cell BK371.out 2).trans rfl; have hcz92_3 : w90.cell? ⟨gb371, 3, none⟩ = some (.string t368) := (blk_cell BK371.out 3).trans rfl; have hcz92_4 : w90.cell? ⟨gb371, 4, none⟩ = some (.int .i64 t369) := (blk_cell BK371.out 4).trans rfl; have hfz92_0 := blk_frozen BK371.out 0; have hfz92_1 := blk_frozen BK371.out 1; have hfz92_2 := blk_frozen BK371.out 2; have hfz92_3 := blk_frozen BK371.out 3; have hfz92_4 := blk_frozen BK371.out 4; have hcz93_0 : w90.cell? ⟨gb355, 0, none⟩ = some (.string t349) := (blk_cell BK355.out 0).trans rfl; have hcz93_1 : w90.cell? ⟨gb355, 1, none⟩ = some (.int .i64 t350) := (blk_cell BK355.out 1).trans rfl; have hcz93_2 : w90.cell? ⟨gb355, 2, none⟩ = some (.int .i64 t351) := (blk_cell BK355.out 2).trans rfl; have hcz93_3 : w90.cell? ⟨gb355, 3, none⟩ = some (.string t352) := (blk_cell BK355.out 3).trans rfl; have hcz93_4 : w90.cell? ⟨gb355, 4, none⟩ = some (.int .i64 t353) := (blk_cell BK355.out 4).trans rfl; have hfz93_0 := blk_frozen BK355.out 0; have hfz93_1 := blk_frozen BK355.out 1; have hfz93_2 := blk_frozen BK355.out 2; have hfz93_3 := blk_frozen BK355.out 3; have hfz93_4 := blk_frozen BK355.out 4) | (go_at_call 32; (with_reducible refine (laws_eqName.calls t365 t366 t367 t368 t369 t349 t350 t351 t352 t353 false _ A79.out).mono ?_); rintro e w94 ⟨rfl, hb⟩; have n0_ := Aside0.mk (Kd.Q_below (z_158) hb); have n1_ := Aside0.mk (Kd.R_below (z_159) hb); have n2_ := Aside0.mk (Kd.R_below (z_160) hb); have n3_ := Aside0.mk (Kd.R_below (z_161) hb); have n4_ := Aside0.mk (Kd.R_below (z_164) hb); have n5_ := Aside0.mk (Kd.R_below (z_167) hb); have n6_ := Aside0.mk (blk_below (g := gb355) (o := .cells #[.string t349, .int .i64 t350, .int .i64 t351, .string t352, .int .i64 t353] 26 (0, 0)) (z_138) hb); have n7_ := Aside0.mk (blk_below (g := gb371) (o := .cells #[.string t365, .int .i64 t366, .int .i64 t367, .string t368, .int .i64 t369] 26 (0, 0)) (z_153) hb); have n8_ := Aside0.mk (below_step (z_152) hb); clear HO_10; clear HO_13; clear HO_14; clear HO_15; clear HO376; clear HO380; clear BK355; clear BK371; clear HB; have HO_10 := n0_; have HO_13 := n1_; have HO_14 := n2_; have HO_15 := n3_; have HO376 := n4_; have HO380 := n5_; have BK355 := n6_; have BK371 := n7_; have HB := n8_; clear n0_ n1_ n2_ n3_ n4_ n5_ n6_ n7_ n8_; (try clear hb); (try clear hb2); (try clear hk); (try clear hi)))
             go_meet
             case rel => exact ⟨_, (true), (z_6), H', ⟨z_168⟩, ⟨z_169⟩, ⟨z_170⟩, ⟨z_138⟩, ⟨z_153⟩, ⟨z_152⟩⟩
           ·replace c78 := Bool.eq_false_iff.mpr c78
            subst c78
            rw [if_neg (show ¬ (false = true) by decide)] at H
            have H' := Aside0.mk H
            clear H
            obtain ⟨Ao95, co95, eo95⟩ := Kd.R_slice HO_15.out
            subst eo95
            obtain ⟨Ao96, co96, eo96, _⟩ := Kd.Q_slice HO_10.out
            subst eo96
            go_wp2_with (first | (go_at_call 37; (with_reducible refine (laws_eqKeptS.calls kj18 _ _ t362 _ _ t346 false _ ?side1 ?side2 ?side3 ?side4 A77.out).mono ?_); (case side1 => exact z_171); (case side2 => exact z_172); (case side3 => exact z_173); (case side4 => exact z_174); rintro e w97 ⟨rfl, hb⟩; have n0_ := Aside0.mk (Kd.Q_below (z_158) hb); have n1_ := Aside0.mk (Kd.R_below (z_159) hb); have n2_ := Aside0.mk (Kd.R_below (z_160) hb); have n3_ := Aside0.mk (Kd.R_below (z_161) hb); have n4_ := Aside0.mk (Kd.R_below (z_164) hb); have n5_ := Aside0.mk (Kd.R_below (z_167) hb); have n6_ := Aside0.mk (blk_below (g := gb355) (o := .cells #[.string t349, .int .i64 t350, .int .i64 t351, .string t352, .int .i64 t353] 26 (0, 0)) (z_138) hb); have n7_ := Aside0.mk (blk_below (g := gb371) (o := .cells #[.string t365, .int .i64 t366, .int .i64 t367, .string t368, .int .i64 t369] 26 (0, 0)) (z_153) hb); have n8_ := Aside0.mk (below_step (z_152) hb); clear HO_10; clear HO_13; clear HO_14; clear HO_15; clear HO376; clear HO380; clear BK355; clear BK371; clear HB; have HO_10 := n0_; have HO_13 := n1_; have HO_14 := n2_; have HO_15 := n3_; have HO376 := n4_; have HO380 := n5_; have BK355 := n6_; have BK371 := n7_; have HB := n8_; clear n0_ n1_ n2_ n3_ n4_ n5_ n6_ n7_ n8_; (try clear hb); (try clear hb2); (try clear hk); (try clear hi)))
            go_meet
            case rel => exact ⟨_, (true), (z_6), H', ⟨z_168⟩, ⟨z_169⟩, ⟨z_170⟩, ⟨z_138⟩, ⟨z_153⟩, ⟨z_152⟩⟩
         case rest =>
          clear HC67
          try clear c1
          try clear c2
          try clear p2
          try clear c3
          try clear c4
          try clear c5
          try clear c5b0
          try clear c5b1
          try clear c6
          try clear c7
          try clear c7b0
          try clear c8
          try clear c9
          try clear c10
          try clear c10b0
          try clear c16
          try clear c24
          try clear c26
          try clear c28
          try clear c33
          try clear c35
          try clear c37
          try clear c38
          try clear c40
          try clear c44
          try clear c45
          try clear c51
          try clear c52
          try clear c58
          try clear c61
          try clear c64
          try clear c76
          try clear c76b0
          try clear c78
          try clear c80
          try clear c84
          try clear c91
          try clear hcz28_0
          try clear hcz28_1
          try clear hcz28_2
          try clear hcz28_3
          try clear hcz28_4
          try clear hcz36_0
          try clear hcz36_1
          try clear hcz36_2
          try clear hcz36_3
          try clear hcz36_4
          try clear hcz45_0
          try clear hcz45_1
          try clear hcz45_2
          try clear hcz45_3
          try clear hcz45_4
          try clear hcz46_0
          try clear hcz46_1
          try clear hcz46_2
          try clear hcz46_3
          try clear hcz46_4
          try clear hcz52_0
          try clear hcz52_1
          try clear hcz52_2
          try clear hcz52_3
          try clear hcz52_4
          try clear hcz53_0
          try clear hcz53_1
          try clear hcz53_2
          try clear hcz53_3
          try clear hcz53_4
          try clear hcz85_0
          try clear hcz85_1
          try clear hcz85_2
          try clear hcz85_3
          try clear hcz85_4
          try clear hcz86_0
          try clear hcz86_1
          try clear hcz86_2
          try clear hcz86_3
          try clear hcz86_4
          try clear hcz92_0
          try clear hcz92_1
          try clear hcz92_2
          try clear hcz92_3
          try clear hcz92_4
          try clear hcz93_0
          try clear hcz93_1
          try clear hcz93_2
          try clear hcz93_3
          try clear hcz93_4
          try clear hfz28_0
          try clear hfz28_1
          try clear hfz28_2
          try clear hfz28_3
          try clear hfz28_4
          try clear hfz36_0
          try clear hfz36_1
          try clear hfz36_2
          try clear hfz36_3
          try clear hfz36_4
          try clear hfz45_0
          try clear hfz45_1
          try clear hfz45_2
          try clear hfz45_3
          try clear hfz45_4
          try clear hfz46_0
          try clear hfz46_1
          try clear hfz46_2
          try clear hfz46_3
          try clear hfz46_4
          try clear hfz52_0
          try clear hfz52_1
          try clear hfz52_2
          try clear hfz52_3
          try clear hfz52_4
          try clear hfz53_0
          try clear hfz53_1
          try clear hfz53_2
          try clear hfz53_3
          try clear hfz53_4
          try clear hfz85_0
          try clear hfz85_1
          try clear hfz85_2
          try clear hfz85_3
          try clear hfz85_4
          try clear hfz86_0
          try clear hfz86_1
          try clear hfz86_2
          try clear hfz86_3
          try clear hfz86_4
          try clear hfz92_0
          try clear hfz92_1
          try clear hfz92_2
          try clear hfz92_3
          try clear hfz92_4
          try clear hfz93_0
          try clear hfz93_1
          try clear hfz93_2
          try clear hfz93_3
          try clear hfz93_4
          try clear p2
          obtain ⟨kq, x110_66, rfl, HA, HJ66, HO_10, HO_15, BK355, BK371, HB⟩ := hcut
          cases kq with
          | zero => exact absurd HA.out (by simp [laws_FnExactKeptAsk.j1])
          | succ kj66 =>
           have H := HA.out
           clear HA
           simp only [laws_FnExactKeptAsk.j1] at H
           by_cases c98 : x110_66 = true
           ·subst c98
            rw [if_pos rfl] at H
            obtain rfl := Option.some.inj H
            go_wp2
            go_ret
            exact ⟨z_4, z_152⟩
           ·replace c98 := Bool.eq_false_iff.mpr c98
            subst c98
            rw [if_neg (show ¬ (false = true) by decide)] at H
            replace H := Option.bind_eq_some_iff.mp H
            obtain ⟨⟨t388, t389⟩, A990, H⟩ := H
            replace H : ((laws_heldKeptS.f kj66 t389 1).bind fun t390 => (if t390 < 0 then (some false) else (if t390 = t388 then ((laws_toKeptS.f kj66 l0).bind fun t391 => ((laws_toNameS.f kj66 l1).bind fun t394 => ((impl_KeptAsk.f kj66 t391 t394 a2 a3).bind fun bt397 => ((laws_eqKeptS.f kj66 bt397.1 t346).bind fun t407 => (if t407 = true then ((laws_eqName.f bt397.2.1 bt397.2.2.1 bt397.2.2.2.1 bt397.2.2.2.2.1 bt397.2.2.2.2.2.1 t349 t350 t351 t352 t353).bind fun t408 => (if t408 = true then (laws_FnExactKeptAsk.j2 kj66 t389 t388 (bt397.2.2.2.2.2.2 != t354)) else (laws_FnExactKeptAsk.j2 kj66 t389 t388 true))) else (laws_FnExactKeptAsk.j2 kj66 t389 t388 true)))))) else (some false)))) = some r := H
            have A99 := Aside0.mk A990
            clear A990
            replace H := Option.bind_eq_some_iff.mp H
            obtain ⟨t390, A1000, H⟩ := H
            have A100 := Aside0.mk A1000
            clear A1000
            by_cases c101 : t390 < 0
            ·rw [if_pos c101] at H
             have c101b0 : decide (t390 < 0) = true := decide_eq_true c101
             clear c101
             obtain rfl := Option.some.inj H
             obtain ⟨Ao102, co102, eo102⟩ := Kd.R_slice HO_15.out
             subst eo102
             go_wp2_with (first | ((with_reducible refine gate_callee (f := 51) rfl ?_); refine goesL_ (some 113) rfl rfl Try.func51 (z_0) rfl #[.slice Ao102 t362.length co102, .int .i64 1] rfl (z_8) ?_; (with_reducible refine (laws_markKeptS.calls kj66 (fun k_ => some k_ = (.slice Ao102 t362.length co102 : Value).ownBlock) (.slice Ao102 t362.length co102) t362 1 t388 t389 w _ ?side1 ?side2 A99.out).mono ?_); (case side1 => exact z_152); (case side2 => exact Kd.R_tight rfl HO_15.out); rintro e w103 ⟨rfl, hy0, hb, hkp⟩; refine ⟨_, rfl, ?_⟩; have n0_ := Aside0.mk (Kd.Q_mono (ok' := fun k_ => some k_ ≠ (.slice Ao102 t362.length co102 : Value).ownBlock) (Kd.Q_keptB (HO_10.out) hkp (fun k_ hk_ hs_ => (hk_) hs_)) (fun k_ hk_ => hk_.1)); have n1_ := Aside0.mk (Kd.R_reok rfl hy0 (fun k_ e_ => HO_15.out.1 k_ e_)); have n2_ := Aside0.mk (blk_kept (z_138) hkp (fun hs_ => (fun e_ => (Kd.R_ne HO_15.out BK355.out (z_19)) e_) hs_)); have n3_ := Aside0.mk (blk_kept (z_153) hkp (fun hs_ => (fun e_ => (Kd.R_ne HO_15.out BK371.out (z_19)) e_) hs_)); have n4_ := Aside0.mk (hb); clear HO_10; clear HO_15; clear BK355; clear BK371; clear HB; have HO_10 := n0_; have HO_15 := n1_; have BK355 := n2_; have BK371 := n3_; have HB := n4_; clear n0_ n1_ n2_ n3_ n4_; (try clear hb); (try clear hkp); (try clear hy0)) | ((with_reducible refine gate_callee (f := 53) rfl ?_); refine goesL_ (some 116) rfl rfl Try.func53 (z_0) rfl #[.slice Ao102 t389.length co102, .int .i64 1] rfl (z_175) ?_; (with_reducible refine (laws_heldKeptS.calls kj66 _ _ t389 1 t390 _ ?side1 ?side2 A100.out).mono ?_); (case side1 => exact z_171); (case side2 => exact z_176); rintro e w104 ⟨rfl, hb⟩; refine ⟨_, rfl, ?_⟩; have n0_ := Aside0.mk (Kd.Q_below (z_158) hb); have n1_ := Aside0.mk (Kd.R_below (z_161) hb); have n2_ := Aside0.mk (blk_below (g := gb355) (o := .cells #[.string t349, .int .i64 t350, .int .i64 t351, .string t352, .int .i64 t353] 26 (0, 0)) (z_138) hb); have n3_ := Aside0.mk (blk_below (g := gb371) (o := .cells #[.string t365, .int .i64 t366, .int .i64 t367, .string t368, .int .i64 t369] 26 (0, 0)) (z_153) hb); have n4_ := Aside0.mk (below_step (z_152) hb); clear HO_10; clear HO_15; clear BK355; clear BK371; clear HB; have HO_10 := n0_; have HO_15 := n1_; have BK355 := n2_; have BK371 := n3_; have HB := n4_; clear n0_ n1_ n2_ n3_ n4_; (try clear hb); (try clear hb2); (try clear hk); (try clear hi)))
             go_ret
             exact ⟨z_4, z_152⟩
            ·rw [if_neg c101] at H
             have c101b0 : decide (t390 < 0) = false := decide_eq_false c101
             clear c101
             by_cases c105 : t390 = t388
             ·rw [if_pos c105] at H
              have c105b0 : (t390 == t388) = true := beq_iff_eq.mpr c105
              have c105b1 : (t390 != t388) = false := bne_eq_false_iff_eq.mpr c105
              clear c105
              replace H := Option.bind_eq_some_iff.mp H
              obtain ⟨t391, A1060, H⟩ := H
              have A106 := Aside0.mk A1060
              clear A1060
              replace H := Option.bind_eq_some_iff.mp H
              obtain ⟨t394, A1070, H⟩ := H
              have A107 := Aside0.mk A1070
              clear A1070
              replace H := Option.bind_eq_some_iff.mp H
              obtain ⟨⟨t397, t400, t401, t402, t403, t404, t405⟩, A1080, H⟩ := H
              replace H : ((laws_eqKeptS.f kj66 t397 t346).bind fun t407 => (if t407 = true then ((laws_eqName.f t400 t401 t402 t403 t404 t349 t350 t351 t352 t353).bind fun t408 => (if t408 = true then (laws_FnExactKeptAsk.j2 kj66 t389 t388 (t405 != t354)) else (laws_FnExactKeptAsk.j2 kj66 t389 t388 true))) else (laws_FnExactKeptAsk.j2 kj66 t389 t388 true))) = some r := H
              have A108 := Aside0.mk A1080
              clear A1080
              have HC109 := Aside0.mk H
              clear H
              obtain ⟨Ao110, co110, eo110⟩ := Kd.R_slice HO_15.out
              subst eo110
              go_upto_region 34 with (first | ((with_reducible refine gate_callee (f := 51) rfl ?_); refine goesL_ (some 113) rfl rfl Try.func51 (z_0) rfl #[.slice Ao110 t362.length co110, .int .i64 1] rfl (z_8) ?_; (with_reducible refine (laws_markKeptS.calls kj66 (fun k_ => some k_ = (.slice Ao110 t362.length co110 : Value).ownBlock) (.slice Ao110 t362.length co110) t362 1 t388 t389 w _ ?side1 ?side2 A99.out).mono ?_); (case side1 => exact z_152); (case side2 => exact Kd.R_tight rfl HO_15.out); rintro e w111 ⟨rfl, hy0, hb, hkp⟩; refine ⟨_, rfl, ?_⟩; have n0_ := Aside0.mk (Kd.Q_mono (ok' := fun k_ => some k_ ≠ (.slice Ao110 t362.length co110 : Value).ownBlock) (Kd.Q_keptB (HO_10.out) hkp (fun k_ hk_ hs_ => (hk_) hs_)) (fun k_ hk_ => hk_.1)); have n1_ := Aside0.mk (Kd.R_reok rfl hy0 (fun k_ e_ => HO_15.out.1 k_ e_)); have n2_ := Aside0.mk (blk_kept (z_138) hkp (fun hs_ => (fun e_ => (Kd.R_ne HO_15.out BK355.out (z_19)) e_) hs_)); have n3_ := Aside0.mk (blk_kept (z_153) hkp (fun hs_ => (fun e_ => (Kd.R_ne HO_15.out BK371.out (z_19)) e_) hs_)); have n4_ := Aside0.mk (hb); clear HO_10; clear HO_15; clear BK355; clear BK371; clear HB; have HO_10 := n0_; have HO_15 := n1_; have BK355 := n2_; have BK371 := n3_; have HB := n4_; clear n0_ n1_ n2_ n3_ n4_; (try clear hb); (try clear hkp); (try clear hy0)) | ((with_reducible refine gate_callee (f := 53) rfl ?_); refine goesL_ (some 116) rfl rfl Try.func53 (z_0) rfl #[.slice Ao110 t389.length co110, .int .i64 1] rfl (z_175) ?_; (with_reducible refine (laws_heldKeptS.calls kj66 _ _ t389 1 t390 _ ?side1 ?side2 A100.out).mono ?_); (case side1 => exact z_171); (case side2 => exact z_176); rintro e w112 ⟨rfl, hb⟩; refine ⟨_, rfl, ?_⟩; have n0_ := Aside0.mk (Kd.Q_below (z_158) hb); have n1_ := Aside0.mk (Kd.R_below (z_161) hb); have n2_ := Aside0.mk (blk_below (g := gb355) (o := .cells #[.string t349, .int .i64 t350, .int .i64 t351, .string t352, .int .i64 t353] 26 (0, 0)) (z_138) hb); have n3_ := Aside0.mk (blk_below (g := gb371) (o := .cells #[.string t365, .int .i64 t366, .int .i64 t367, .string t368, .int .i64 t369] 26 (0, 0)) (z_153) hb); have n4_ := Aside0.mk (below_step (z_152) hb); clear HO_10; clear HO_15; clear BK355; clear BK371; clear HB; have HO_10 := n0_; have HO_15 := n1_; have BK355 := n2_; have BK371 := n3_; have HB := n4_; clear n0_ n1_ n2_ n3_ n4_; (try clear hb); (try clear hb2); (try clear hk); (try clear hi)) | ((with_reducible refine gate_callee (f := 35) rfl ?_); refine goesL_ (some 124) rfl rfl Try.func35 (z_0) rfl #[.slice A0 l0.length c0] rfl (z_8) ?_; (with_reducible refine (laws_toKeptS.calls kj66 _ _ l0 t391 _ ?side1 ?side2 A106.out).mono ?_); (case side1 => exact z_62); (case side2 => exact HC0.out); rintro e w113 ⟨v392, rfl, ho0, hb⟩; refine ⟨_, rfl, ?_⟩; have n0_ := Aside0.mk (Kd.Q_elder' (z_158) (Kd.R_base ho0) hb); have n1_ := Aside0.mk (Kd.R_elder' (z_161) (Kd.R_base ho0) hb); have n2_ := Aside0.mk (Kd.R_lower (Kd.R_new' (Kd.R_new' ho0 (Kd.Q_lt (z_158))) (Kd.R_lt (z_161))) (below_size (z_152))); have n3_ := Aside0.mk (blk_below (g := gb355) (o := .cells #[.string t349, .int .i64 t350, .int .i64 t351, .string t352, .int .i64 t353] 26 (0, 0)) (z_138) hb); have n4_ := Aside0.mk (blk_below (g := gb371) (o := .cells #[.string t365, .int .i64 t366, .int .i64 t367, .string t368, .int .i64 t369] 26 (0, 0)) (z_153) hb); have n5_ := Aside0.mk (below_step (z_152) hb); clear HO_10; clear HO_15; clear BK355; clear BK371; clear HB; have HO_10 := n0_; have HO_15 := n1_; have HO393 := n2_; have BK355 := n3_; have BK371 := n4_; have HB := n5_; clear n0_ n1_ n2_ n3_ n4_ n5_; (try clear hb); (try clear hb2); (try clear hk); (try clear hi); (try clear ho0)) | ((with_reducible refine gate_callee (f := 26) rfl ?_); refine goesL_ (some 126) rfl rfl Try.func26 (z_0) rfl #[.slice A1 l1.length c1] rfl (z_8) ?_; (with_reducible refine (laws_toNameS.calls kj66 _ _ l1 t394 _ ?side1 ?side2 A107.out).mono ?_); (case side1 => exact z_61); (case side2 => exact HC1.out); rintro e w114 ⟨v395, rfl, ho0, hb⟩; refine ⟨_, rfl, ?_⟩; have n0_ := Aside0.mk (Kd.Q_below (z_158) hb); have n1_ := Aside0.mk (Kd.R_below (z_161) hb); have n2_ := Aside0.mk (Kd.R_below (z_177) hb); have n3_ := Aside0.mk (Kd.R_lower (Kd.R_newB (Kd.R_newB ho0 (g := gb355) (o := .cells #[.string t349, .int .i64 t350, .int .i64 t351, .string t352, .int .i64 t353] 26 (0, 0)) (z_138)) (g := gb371) (o := .cells #[.string t365, .int .i64 t366, .int .i64 t367, .string t368, .int .i64 t369] 26 (0, 0)) (z_153)) (below_size (z_152))); have n4_ := Aside0.mk (blk_below (g := gb355) (o := .cells #[.string t349, .int .i64 t350, .int .i64 t351, .string t352, .int .i64 t353] 26 (0, 0)) (z_138) hb); have n5_ := Aside0.mk (blk_below (g := gb371) (o := .cells #[.string t365, .int .i64 t366, .int .i64 t367, .string t368, .int .i64 t369] 26 (0, 0)) (z_153) hb); have n6_ := Aside0.mk (below_step (z_152) hb); clear HO_10; clear HO_15; clear HO393; clear BK355; clear BK371; clear HB; have HO_10 := n0_; have HO_15 := n1_; have HO393 := n2_; have HO396 := n3_; have BK355 := n4_; have BK371 := n5_; have HB := n6_; clear n0_ n1_ n2_ n3_ n4_ n5_ n6_; (try clear hb); (try clear hb2); (try clear hk); (try clear hi); (try clear ho0); obtain ⟨Ao115, co115, eo115⟩ := Kd.R_slice HO393.out; subst eo115; obtain ⟨Ao116, co116, eo116⟩ := Kd.R_slice HO396.out; subst eo116) | ((with_reducible refine gate_callee (f := 44) rfl ?_); refine goesL_ (some 129) rfl rfl Try.func44 (z_0) rfl #[.slice Ao115 t391.length co115, .slice Ao116 t394.length co116, .string a2, .int .i64 a3] rfl (z_8) ?_; (with_reducible refine (impl_KeptAsk.calls kj66 _ _ t391 _ _ t394 a2 a3 t397 t400 t401 t402 t403 t404 t405 _ ?side1 ?side2 ?side3 ?side4 A108.out).mono ?_); (case side1 => repeat (first | exact (Kd.R_reads' HO393.out).2.2 | (with_reducible refine Kd.C_alloc ?_ _) | (with_reducible refine Kd.C_drewN ?_ _) | (with_reducible refine Kd.C_drew ?_))); (case side2 => exact (Kd.R_reads' HO393.out).2.1); (case side3 => repeat (first | exact (Kd.R_reads' HO396.out).2.2 | (with_reducible refine Kd.C_alloc ?_ _) | (with_reducible refine Kd.C_drewN ?_ _) | (with_reducible refine Kd.C_drew ?_))); (case side4 => exact (Kd.R_reads' HO396.out).2.1); rintro e w117 ⟨v398, rfl, ho0, hb⟩; refine ⟨_, rfl, ?_⟩; have n0_ := Aside0.mk (Kd.Q_elder' (z_158) (Kd.R_base ho0) hb); have n1_ := Aside0.mk (Kd.R_elder' (z_161) (Kd.R_base ho0) hb); have n2_ := Aside0.mk (Kd.R_elder' (z_177) (Kd.R_base ho0) hb); have n3_ := Aside0.mk (Kd.R_below (z_178) hb); have n4_ := Aside0.mk (Kd.R_lower (Kd.R_new' (Kd.R_new' (Kd.R_new' ho0 (Kd.Q_lt (z_158))) (Kd.R_lt (z_161))) (Kd.R_lt (z_177))) (below_size (z_152))); have n5_ := Aside0.mk (blk_below (g := gb355) (o := .cells #[.string t349, .int .i64 t350, .int .i64 t351, .string t352, .int .i64 t353] 26 (0, 0)) (z_138) hb); have n6_ := Aside0.mk (blk_below (g := gb371) (o := .cells #[.string t365, .int .i64 t366, .int .i64 t367, .string t368, .int .i64 t369] 26 (0, 0)) (z_153) hb); have n7_ := Aside0.mk (below_step (z_152) hb); clear HO_10; clear HO_15; clear HO393; clear HO396; clear BK355; clear BK371; clear HB; have HO_10 := n0_; have HO_15 := n1_; have HO393 := n2_; have HO396 := n3_; have HO399 := n4_; have BK355 := n5_; have BK371 := n6_; have HB := n7_; clear n0_ n1_ n2_ n3_ n4_ n5_ n6_ n7_; (try clear hb); (try clear hb2); (try clear hk); (try clear hi); (try clear ho0)) | ((with_reducible refine gate_dst (N := 22) rfl ?_); refine box_event ?hg (N := 22) ?hd (cs := #[.string (⟨#[]⟩ : ByteArray), .int .i64 0, .int .i64 0, .string (⟨#[]⟩ : ByteArray), .int .i64 0]) (t := 26) ?hr ?_; (case hd => rfl); (case hg => rfl); (case hr => exact z_1); intro gb406 hg w118 hbox hb; have n0_ := Aside0.mk (Kd.Q_below (z_158) hb); have n1_ := Aside0.mk (Kd.R_below (z_161) hb); have n2_ := Aside0.mk (Kd.R_below (z_177) hb); have n3_ := Aside0.mk (Kd.R_below (Kd.R_elderB (z_178) gb406 (Nat.le_of_eq hg.symm)) hb); have n4_ := Aside0.mk (Kd.R_below (z_179) hb); have n5_ := Aside0.mk (blk_below (g := gb355) (o := .cells #[.string t349, .int .i64 t350, .int .i64 t351, .string t352, .int .i64 t353] 26 (0, 0)) (z_138) hb); have n6_ := Aside0.mk (blk_below (g := gb371) (o := .cells #[.string t365, .int .i64 t366, .int .i64 t367, .string t368, .int .i64 t369] 26 (0, 0)) (z_153) hb); have n7_ := Aside0.mk (below_step (z_152) hb); have n8_ := Aside0.mk (hbox); have n9_ := Aside0.mk ((z_180 : w.heap.size ≤ gb406)); have n10_ := Aside0.mk ((z_180 : w.heap.size ≤ gb406)); have n11_ := Aside0.mk ((z_142 : gb355 ≠ gb406)); have n12_ := Aside0.mk ((z_143 : gb406 ≠ gb355)); have n13_ := Aside0.mk ((by rw [hg]; exact Nat.ne_of_lt (blk_lt (g := gb371) (o := .cells #[.string t365, .int .i64 t366, .int .i64 t367, .string t368, .int .i64 t369] 26 (0, 0)) (z_153)) : gb371 ≠ gb406)); have n14_ := Aside0.mk ((by rw [hg]; exact Nat.ne_of_gt (blk_lt (g := gb371) (o := .cells #[.string t365, .int .i64 t366, .int .i64 t367, .string t368, .int .i64 t369] 26 (0, 0)) (z_153)) : gb406 ≠ gb371)); clear HO_10; clear HO_15; clear HO393; clear HO396; clear HO399; clear BK355; clear BK371; clear HB; have HO_10 := n0_; have HO_15 := n1_; have HO393 := n2_; have HO396 := n3_; have HO399 := n4_; have BK355 := n5_; have BK371 := n6_; have HB := n7_; have BK406 := n8_; have GW406 := n9_; have GE406 := n10_; have NB355_406 := n11_; have NB406_355 := n12_; have NB371_406 := n13_; have NB406_371 := n14_; clear n0_ n1_ n2_ n3_ n4_ n5_ n6_ n7_ n8_ n9_ n10_ n11_ n12_ n13_ n14_; clear hb hbox hg; have hnb119 := NB406_355.out; have hnc119 := NB355_406.out; have hnb120 := NB406_371.out; have hnc120 := NB371_406.out; have hcz121_0 : w118.cell? ⟨gb406, 0, none⟩ = some (.string (⟨#[]⟩ : ByteArray)) := (blk_cell BK406.out 0).trans rfl; have hcz121_1 : w118.cell? ⟨gb406, 1, none⟩ = some (.int .i64 0) := (blk_cell BK406.out 1).trans rfl; have hcz121_2 : w118.cell? ⟨gb406, 2, none⟩ = some (.int .i64 0) := (blk_cell BK406.out 2).trans rfl; have hcz121_3 : w118.cell? ⟨gb406, 3, none⟩ = some (.string (⟨#[]⟩ : ByteArray)) := (blk_cell BK406.out 3).trans rfl; have hcz121_4 : w118.cell? ⟨gb406, 4, none⟩ = some (.int .i64 0) := (blk_cell BK406.out 4).trans rfl; have hfz121_0 := blk_frozen BK406.out 0; have hfz121_1 := blk_frozen BK406.out 1; have hfz121_2 := blk_frozen BK406.out 2; have hfz121_3 := blk_frozen BK406.out 3; have hfz121_4 := blk_frozen BK406.out 4))
              (try simp only [Act.put, List.setIfInBounds_toArray, List.set_cons_zero, List.set_cons_succ])
              go_cut [147] (fun v147 wc => ∃ (kq : Nat) (x147_108 : Bool), v147 = .bool x147_108 ∧ Aside0 (laws_FnExactKeptAsk.j2 kq t389 t388 x147_108 = some r) ∧ Aside0 (kq ≤ kj66) ∧ Aside0 (Kd.R k83 83 wc w.heap.size (fun _ => True) (.slice Ao110 t362.length co110) t389) ∧ Aside0 (wc.heap[gb355]? = some (.cells #[.string t349, .int .i64 t350, .int .i64 t351, .string t352, .int .i64 t353] 26 (0, 0))) ∧ Aside0 (wc.heap[gb371]? = some (.cells #[.string t365, .int .i64 t366, .int .i64 t367, .string t368, .int .i64 t369] 26 (0, 0))) ∧ Aside0 (wc.heap[gb406]? = some (.cells #[.string t400, .int .i64 t401, .int .i64 t402, .string t403, .int .i64 t404] 26 (0, 0))) ∧ Aside0 (Below w.heap.size w wc))
              case first =>
               have H := HC109.out
               clear HC109
               replace H := Option.bind_eq_some_iff.mp H
               obtain ⟨t407, A1220, H⟩ := H
               have A122 := Aside0.mk A1220
               clear A1220
               by_cases c123 : t407 = true
               ·subst c123
                rw [if_pos rfl] at H
                replace H := Option.bind_eq_some_iff.mp H
                obtain ⟨t408, A1240, H⟩ := H
                have A124 := Aside0.mk A1240
                clear A1240
                by_cases c125 : t408 = true
                ·subst c125
                 rw [if_pos rfl] at H
                 have H' := Aside0.mk H
                 clear H
                 obtain ⟨Ao126, co126, eo126⟩ := Kd.R_slice HO399.out
                 subst eo126
                 obtain ⟨Ao127, co127, eo127, _⟩ := Kd.Q_slice HO_10.out
                 subst eo127
                 go_wp2_with (first | ((with_reducible refine gate_callee (f := 37) rfl ?_); refine goesL_ (some 135) rfl rfl Try.func37 (z_0) rfl #[.slice Ao126 t397.length co126, .slice Ao127 t346.length co127] rfl (z_8) ?_; (with_reducible refine (laws_eqKeptS.calls kj66 _ _ t397 _ _ t346 true _ ?side1 ?side2 ?side3 ?side4 A122.out).mono ?_); (case side1 => refine (Kd.R_reads' (e := 83) (base := w.heap.size) (ok := fun k_ => (((True ∧ some k_ ≠ (.slice Ao127 t346.length co127 : Value).ownBlock) ∧ some k_ ≠ (.slice Ao110 t362.length co110 : Value).ownBlock) ∧ some k_ ≠ (.slice Ao115 t391.length co115 : Value).ownBlock)) (n := t397.length) (c := co126) ?_).2.2; exact (z_181)); (case side2 => exact (Kd.R_reads' HO399.out).2.1); (case side3 => refine (Kd.Q_reads' (e := 83) (base := w.heap.size) (ok := fun k_ => ((some k_ ≠ (.slice Ao110 t362.length co110 : Value).ownBlock ∧ some k_ ≠ (.slice Ao115 t391.length co115 : Value).ownBlock) ∧ some k_ ≠ (.slice Ao126 t397.length co126 : Value).ownBlock)) (n := t346.length) (c := co127) ?_).2.2; exact (z_182)); (case side4 => exact z_174); rintro e w128 ⟨rfl, hb⟩; refine ⟨_, rfl, ?_⟩; have n0_ := Aside0.mk (Kd.Q_below (z_182) hb); have n1_ := Aside0.mk (Kd.R_below (z_183) hb); have n2_ := Aside0.mk (Kd.R_below (z_184) hb); have n3_ := Aside0.mk (Kd.R_below (z_185) hb); have n4_ := Aside0.mk (Kd.R_below (z_181) hb); have n5_ := Aside0.mk (blk_below (g := gb355) (o := .cells #[.string t349, .int .i64 t350, .int .i64 t351, .string t352, .int .i64 t353] 26 (0, 0)) (z_186) hb); have n6_ := Aside0.mk (blk_below (g := gb371) (o := .cells #[.string t365, .int .i64 t366, .int .i64 t367, .string t368, .int .i64 t369] 26 (0, 0)) (z_187) hb); have n7_ := Aside0.mk (blk_below (g := gb406) (o := .cells #[.string t400, .int .i64 t401, .int .i64 t402, .string t403, .int .i64 t404] 26 (0, 0)) (z_188) hb); have n8_ := Aside0.mk (below_step (z_189) hb); clear HO_10; clear HO_15; clear HO393; clear HO396; clear HO399; clear BK355; clear BK371; clear BK406; clear HB; have HO_10 := n0_; have HO_15 := n1_; have HO393 := n2_; have HO396 := n3_; have HO399 := n4_; have BK355 := n5_; have BK371 := n6_; have BK406 := n7_; have HB := n8_; clear n0_ n1_ n2_ n3_ n4_ n5_ n6_ n7_ n8_; (try clear hb); (try clear hb2); (try clear hk); (try clear hi); have hnb129 := NB406_355.out; have hnc129 := NB355_406.out; have hnb130 := NB406_371.out; have hnc130 := NB371_406.out; have hcz131_0 : w128.cell? ⟨gb406, 0, none⟩ = some (.string t400) := (blk_cell BK406.out 0).trans rfl; have hcz131_1 : w128.cell? ⟨gb406, 1, none⟩ = some (.int .i64 t401) := (blk_cell BK406.out 1).trans rfl; have hcz131_2 : w128.cell? ⟨gb406, 2, none⟩ = some (.int .i64 t402) := (blk_cell BK406.out 2).trans rfl; have hcz131_3 : w128.cell? ⟨gb406, 3, none⟩ = some (.string t403) := (blk_cell BK406.out 3).trans rfl; have hcz131_4 : w128.cell? ⟨gb406, 4, none⟩ = some (.int .i64 t404) := (blk_cell BK406.out 4).trans rfl; have hfz131_0 := blk_frozen BK406.out 0; have hfz131_1 := blk_frozen BK406.out 1; have hfz131_2 := blk_frozen BK406.out 2; have hfz131_3 := blk_frozen BK406.out 3; have hfz131_4 := blk_frozen BK406.out 4; have hnb132 := NB355_371.out; have hnc132 := NB371_355.out; have hcz133_0 : w128.cell? ⟨gb355, 0, none⟩ = some (.string t349) := (blk_cell BK355.out 0).trans rfl; have hcz133_1 : w128.cell? ⟨gb355, 1, none⟩ = some (.int .i64 t350) := (blk_cell BK355.out 1).trans rfl; have hcz133_2 : w128.cell? ⟨gb355, 2, none⟩ = some (.int .i64 t351) := (blk_cell BK355.out 2).trans rfl; have hcz133_3 : w128.cell? ⟨gb355, 3, none⟩ = some (.string t352) := (blk_cell BK355.out 3).trans rfl; have hcz133_4 : w128.cell? ⟨gb355, 4, none⟩ = some (.int .i64 t353) := (blk_cell BK355.out 4).trans rfl; have hfz133_0 := blk_frozen BK355.out 0; have hfz133_1 := blk_frozen BK355.out 1; have hfz133_2 := blk_frozen BK355.out 2; have hfz133_3 := blk_frozen BK355.out 3; have hfz133_4 := blk_frozen BK355.out 4) | (go_at_call 32; (with_reducible refine (laws_eqName.calls t400 t401 t402 t403 t404 t349 t350 t351 t352 t353 true _ A124.out).mono ?_); rintro e w134 ⟨rfl, hb⟩; have n0_ := Aside0.mk (Kd.Q_below (z_158) hb); have n1_ := Aside0.mk (Kd.R_below (z_161) hb); have n2_ := Aside0.mk (Kd.R_below (z_177) hb); have n3_ := Aside0.mk (Kd.R_below (z_178) hb); have n4_ := Aside0.mk (Kd.R_below (z_179) hb); have n5_ := Aside0.mk (blk_below (g := gb355) (o := .cells #[.string t349, .int .i64 t350, .int .i64 t351, .string t352, .int .i64 t353] 26 (0, 0)) (z_138) hb); have n6_ := Aside0.mk (blk_below (g := gb371) (o := .cells #[.string t365, .int .i64 t366, .int .i64 t367, .string t368, .int .i64 t369] 26 (0, 0)) (z_153) hb); have n7_ := Aside0.mk (blk_below (g := gb406) (o := .cells #[.string t400, .int .i64 t401, .int .i64 t402, .string t403, .int .i64 t404] 26 (0, 0)) (z_190) hb); have n8_ := Aside0.mk (below_step (z_189) hb); clear HO_10; clear HO_15; clear HO393; clear HO396; clear HO399; clear BK355; clear BK371; clear BK406; clear HB; have HO_10 := n0_; have HO_15 := n1_; have HO393 := n2_; have HO396 := n3_; have HO399 := n4_; have BK355 := n5_; have BK371 := n6_; have BK406 := n7_; have HB := n8_; clear n0_ n1_ n2_ n3_ n4_ n5_ n6_ n7_ n8_; (try clear hb); (try clear hb2); (try clear hk); (try clear hi)))
                 go_meet
                 case rel => exact ⟨_, ((t405 != t354)), (z_6), H', ⟨z_191⟩, ⟨z_192⟩, ⟨z_138⟩, ⟨z_153⟩, ⟨z_190⟩, ⟨z_189⟩⟩
                ·replace c125 := Bool.eq_false_iff.mpr c125
                 subst c125
                 rw [if_neg (show ¬ (false = true) by decide)] at H
                 have H' := Aside0.mk H
                 clear H
                 obtain ⟨Ao135, co135, eo135⟩ := Kd.R_slice HO399.out
                 subst eo135
                 obtain ⟨Ao136, co136, eo136, _⟩ := Kd.Q_slice HO_10.out
                 subst eo136
                 go_wp2_with (first | ((with_reducible refine gate_callee (f := 37) rfl ?_); refine goesL_ (some 135) rfl rfl Try.func37 (z_0) rfl #[.slice Ao135 t397.length co135, .slice Ao136 t346.length co136] rfl (z_8) ?_; (with_reducible refine (laws_eqKeptS.calls kj66 _ _ t397 _ _ t346 true _ ?side1 ?side2 ?side3 ?side4 A122.out).mono ?_); (case side1 => refine (Kd.R_reads' (e := 83) (base := w.heap.size) (ok := fun k_ => (((True ∧ some k_ ≠ (.slice Ao136 t346.length co136 : Value).ownBlock) ∧ some k_ ≠ (.slice Ao110 t362.length co110 : Value).ownBlock) ∧ some k_ ≠ (.slice Ao115 t391.length co115 : Value).ownBlock)) (n := t397.length) (c := co135) ?_).2.2; exact (z_181)); (case side2 => exact (Kd.R_reads' HO399.out).2.1); (case side3 => refine (Kd.Q_reads' (e := 83) (base := w.heap.size) (ok := fun k_ => ((some k_ ≠ (.slice Ao110 t362.length co110 : Value).ownBlock ∧ some k_ ≠ (.slice Ao115 t391.length co115 : Value).ownBlock) ∧ some k_ ≠ (.slice Ao135 t397.length co135 : Value).ownBlock)) (n := t346.length) (c := co136) ?_).2.2; exact (z_182)); (case side4 => exact z_174); rintro e w137 ⟨rfl, hb⟩; refine ⟨_, rfl, ?_⟩; have n0_ := Aside0.mk (Kd.Q_below (z_182) hb); have n1_ := Aside0.mk (Kd.R_below (z_183) hb); have n2_ := Aside0.mk (Kd.R_below (z_184) hb); have n3_ := Aside0.mk (Kd.R_below (z_185) hb); have n4_ := Aside0.mk (Kd.R_below (z_181) hb); have n5_ := Aside0.mk (blk_below (g := gb355) (o := .cells #[.string t349, .int .i64 t350, .int .i64 t351, .string t352, .int .i64 t353] 26 (0, 0)) (z_186) hb); have n6_ := Aside0.mk (blk_below (g := gb371) (o := .cells #[.string t365, .int .i64 t366, .int .i64 t367, .string t368, .int .i64 t369] 26 (0, 0)) (z_187) hb); have n7_ := Aside0.mk (blk_below (g := gb406) (o := .cells #[.string t400, .int .i64 t401, .int .i64 t402, .string t403, .int .i64 t404] 26 (0, 0)) (z_188) hb); have n8_ := Aside0.mk (below_step (z_189) hb); clear HO_10; clear HO_15; clear HO393; clear HO396; clear HO399; clear BK355; clear BK371; clear BK406; clear HB; have HO_10 := n0_; have HO_15 := n1_; have HO393 := n2_; have HO396 := n3_; have HO399 := n4_; have BK355 := n5_; have BK371 := n6_; have BK406 := n7_; have HB := n8_; clear n0_ n1_ n2_ n3_ n4_ n5_ n6_ n7_ n8_; (try clear hb); (try clear hb2); (try clear hk); (try clear hi); have hnb138 := NB406_355.out; have hnc138 := NB355_406.out; have hnb139 := NB406_371.out; have hnc139 := NB371_406.out; have hcz140_0 : w137.cell? ⟨gb406, 0, none⟩ = some (.string t400) := (blk_cell BK406.out 0).trans rfl; have hcz140_1 : w137.cell? ⟨gb406, 1, none⟩ = some (.int .i64 t401) := (blk_cell BK406.out 1).trans rfl; have hcz140_2 : w137.cell? ⟨gb406, 2, none⟩ = some (.int .i64 t402) := (blk_cell BK406.out 2).trans rfl; have hcz140_3 : w137.cell? ⟨gb406, 3, none⟩ = some (.string t403) := (blk_cell BK406.out 3).trans rfl; have hcz140_4 : w137.cell? ⟨gb406, 4, none⟩ = some (.int .i64 t404) := (blk_cell BK406.out 4).trans rfl; have hfz140_0 := blk_frozen BK406.out 0; have hfz140_1 := blk_frozen BK406.out 1; have hfz140_2 := blk_frozen BK406.out 2; have hfz140_3 := blk_frozen BK406.out 3; have hfz140_4 := blk_frozen BK406.out 4; have hnb141 := NB355_371.out; have hnc141 := NB371_355.out; have hcz142_0 : w137.cell? ⟨gb355, 0, none⟩ = some (.string t349) := (blk_cell BK355.out 0).trans rfl; have hcz142_1 : w137.cell? ⟨gb355, 1, none⟩ = some (.int .i64 t350) := (blk_cell BK355.out 1).trans rfl; have hcz142_2 : w137.cell? ⟨gb355, 2, none⟩ = some (.int .i64 t351) := (blk_cell BK355.out 2).trans rfl; have hcz142_3 : w137.cell? ⟨gb355, 3, none⟩ = some (.string t352) := (blk_cell BK355.out 3).trans rfl; have hcz142_4 : w137.cell? ⟨gb355, 4, none⟩ = some (.int .i64 t353) := (blk_cell BK355.out 4).trans rfl; have hfz142_0 := blk_frozen BK355.out 0; have hfz142_1 := blk_frozen BK355.out 1; have hfz142_2 := blk_frozen BK355.out 2; have hfz142_3 := blk_frozen BK355.out 3; have hfz142_4 := blk_frozen BK355.out 4) | (go_at_call 32; (with_reducible refine (laws_eqName.calls t400 t401 t402 t403 t404 t349 t350 t351 t352 t353 false _ A124.out).mono ?_); rintro e w143 ⟨rfl, hb⟩; have n0_ := Aside0.mk (Kd.Q_below (z_158) hb); have n1_ := Aside0.mk (Kd.R_below (z_161) hb); have n2_ := Aside0.mk (Kd.R_below (z_177) hb); have n3_ := Aside0.mk (Kd.R_below (z_178) hb); have n4_ := Aside0.mk (Kd.R_below (z_179) hb); have n5_ := Aside0.mk (blk_below (g := gb355) (o := .cells #[.string t349, .int .i64 t350, .int .i64 t351, .string t352, .int .i64 t353] 26 (0, 0)) (z_138) hb); have n6_ := Aside0.mk (blk_below (g := gb371) (o := .cells #[.string t365, .int .i64 t366, .int .i64 t367, .string t368, .int .i64 t369] 26 (0, 0)) (z_153) hb); have n7_ := Aside0.mk (blk_below (g := gb406) (o := .cells #[.string t400, .int .i64 t401, .int .i64 t402, .string t403, .int .i64 t404] 26 (0, 0)) (z_190) hb); have n8_ := Aside0.mk (below_step (z_189) hb); clear HO_10; clear HO_15; clear HO393; clear HO396; clear HO399; clear BK355; clear BK371; clear BK406; clear HB; have HO_10 := n0_; have HO_15 := n1_; have HO393 := n2_; have HO396 := n3_; have HO399 := n4_; have BK355 := n5_; have BK371 := n6_; have BK406 := n7_; have HB := n8_; clear n0_ n1_ n2_ n3_ n4_ n5_ n6_ n7_ n8_; (try clear hb); (try clear hb2); (try clear hk); (try clear hi)))
                 go_meet
                 case rel => exact ⟨_, (true), (z_6), H', ⟨z_191⟩, ⟨z_192⟩, ⟨z_138⟩, ⟨z_153⟩, ⟨z_190⟩, ⟨z_189⟩⟩
               ·replace c123 := Bool.eq_false_iff.mpr c123
                subst c123
                rw [if_neg (show ¬ (false = true) by decide)] at H
                have H' := Aside0.mk H
                clear H
                obtain ⟨Ao144, co144, eo144⟩ := Kd.R_slice HO399.out
                subst eo144
                obtain ⟨Ao145, co145, eo145, _⟩ := Kd.Q_slice HO_10.out
                subst eo145
                go_wp2_with (first | ((with_reducible refine gate_callee (f := 37) rfl ?_); refine goesL_ (some 135) rfl rfl Try.func37 (z_0) rfl #[.slice Ao144 t397.length co144, .slice Ao145 t346.length co145] rfl (z_8) ?_; (with_reducible refine (laws_eqKeptS.calls kj66 _ _ t397 _ _ t346 false _ ?side1 ?side2 ?side3 ?side4 A122.out).mono ?_); (case side1 => refine (Kd.R_reads' (e := 83) (base := w.heap.size) (ok := fun k_ => (((True ∧ some k_ ≠ (.slice Ao145 t346.length co145 : Value).ownBlock) ∧ some k_ ≠ (.slice Ao110 t362.length co110 : Value).ownBlock) ∧ some k_ ≠ (.slice Ao115 t391.length co115 : Value).ownBlock)) (n := t397.length) (c := co144) ?_).2.2; exact (z_181)); (case side2 => exact (Kd.R_reads' HO399.out).2.1); (case side3 => refine (Kd.Q_reads' (e := 83) (base := w.heap.size) (ok := fun k_ => ((some k_ ≠ (.slice Ao110 t362.length co110 : Value).ownBlock ∧ some k_ ≠ (.slice Ao115 t391.length co115 : Value).ownBlock) ∧ some k_ ≠ (.slice Ao144 t397.length co144 : Value).ownBlock)) (n := t346.length) (c := co145) ?_).2.2; exact (z_182)); (case side4 => exact z_174); rintro e w146 ⟨rfl, hb⟩; refine ⟨_, rfl, ?_⟩; have n0_ := Aside0.mk (Kd.Q_below (z_182) hb); have n1_ := Aside0.mk (Kd.R_below (z_183) hb); have n2_ := Aside0.mk (Kd.R_below (z_184) hb); have n3_ := Aside0.mk (Kd.R_below (z_185) hb); have n4_ := Aside0.mk (Kd.R_below (z_181) hb); have n5_ := Aside0.mk (blk_below (g := gb355) (o := .cells #[.string t349, .int .i64 t350, .int .i64 t351, .string t352, .int .i64 t353] 26 (0, 0)) (z_186) hb); have n6_ := Aside0.mk (blk_below (g := gb371) (o := .cells #[.string t365, .int .i64 t366, .int .i64 t367, .string t368, .int .i64 t369] 26 (0, 0)) (z_187) hb); have n7_ := Aside0.mk (blk_below (g := gb406) (o := .cells #[.string t400, .int .i64 t401, .int .i64 t402, .string t403, .int .i64 t404] 26 (0, 0)) (z_188) hb); have n8_ := Aside0.mk (below_step (z_189) hb); clear HO_10; clear HO_15; clear HO393; clear HO396; clear HO399; clear BK355; clear BK371; clear BK406; clear HB; have HO_10 := n0_; have HO_15 := n1_; have HO393 := n2_; have HO396 := n3_; have HO399 := n4_; have BK355 := n5_; have BK371 := n6_; have BK406 := n7_; have HB := n8_; clear n0_ n1_ n2_ n3_ n4_ n5_ n6_ n7_ n8_; (try clear hb); (try clear hb2); (try clear hk); (try clear hi)))
                go_meet
                case rel => exact ⟨_, (true), (z_6), H', ⟨z_191⟩, ⟨z_192⟩, ⟨z_138⟩, ⟨z_153⟩, ⟨z_190⟩, ⟨z_189⟩⟩
              case rest =>
               clear HC109
               try clear c1
               try clear c2
               try clear p2
               try clear c3
               try clear c4
               try clear c5
               try clear c5b0
               try clear c5b1
               try clear c6
               try clear c7
               try clear c7b0
               try clear c8
               try clear c9
               try clear c10
               try clear c10b0
               try clear c11
               try clear c12
               try clear c13
               try clear c14
               try clear c16
               try clear c24
               try clear c26
               try clear c28
               try clear c33
               try clear c35
               try clear c37
               try clear c38
               try clear c40
               try clear c44
               try clear c45
               try clear c51
               try clear c52
               try clear c53
               try clear c58
               try clear c61
               try clear c64
               try clear c76
               try clear c76b0
               try clear c78
               try clear c80
               try clear c84
               try clear c91
               try clear c98
               try clear c101
               try clear c101b0
               try clear c105
               try clear c105b0
               try clear c105b1
               try clear c119
               try clear c120
               try clear c123
               try clear c125
               try clear c129
               try clear c130
               try clear c132
               try clear c138
               try clear c139
               try clear c141
               try clear hcz121_0
               try clear hcz121_1
               try clear hcz121_2
               try clear hcz121_3
               try clear hcz121_4
               try clear hcz131_0
               try clear hcz131_1
               try clear hcz131_2
               try clear hcz131_3
               try clear hcz131_4
               try clear hcz133_0
               try clear hcz133_1
               try clear hcz133_2
               try clear hcz133_3
               try clear hcz133_4
               try clear hcz140_0
               try clear hcz140_1
               try clear hcz140_2
               try clear hcz140_3
               try clear hcz140_4
               try clear hcz142_0
               try clear hcz142_1
               try clear hcz142_2
               try clear hcz142_3
               try clear hcz142_4
               try clear hcz28_0
               try clear hcz28_1
               try clear hcz28_2
               try clear hcz28_3
               try clear hcz28_4
               try clear hcz36_0
               try clear hcz36_1
               try clear hcz36_2
               try clear hcz36_3
               try clear hcz36_4
               try clear hcz45_0
               try clear hcz45_1
               try clear hcz45_2
               try clear hcz45_3
               try clear hcz45_4
               try clear hcz46_0
               try clear hcz46_1
               try clear hcz46_2
               try clear hcz46_3
               try clear hcz46_4
               try clear hcz52_0
               try clear hcz52_1
               try clear hcz52_2
               try clear hcz52_3
               try clear hcz52_4
               try clear hcz53_0
               try clear hcz53_1
               try clear hcz53_2
               try clear hcz53_3
               try clear hcz53_4
               try clear hcz85_0
               try clear hcz85_1
               try clear hcz85_2
               try clear hcz85_3
               try clear hcz85_4
               try clear hcz86_0
               try clear hcz86_1
               try clear hcz86_2
               try clear hcz86_3
               try clear hcz86_4
               try clear hcz92_0
               try clear hcz92_1
               try clear hcz92_2
               try clear hcz92_3
               try clear hcz92_4
               try clear hcz93_0
               try clear hcz93_1
               try clear hcz93_2
               try clear hcz93_3
               try clear hcz93_4
               try clear hfz121_0
               try clear hfz121_1
               try clear hfz121_2
               try clear hfz121_3
               try clear hfz121_4
               try clear hfz131_0
               try clear hfz131_1
               try clear hfz131_2
               try clear hfz131_3
               try clear hfz131_4
               try clear hfz133_0
               try clear hfz133_1
               try clear hfz133_2
               try clear hfz133_3
               try clear hfz133_4
               try clear hfz140_0
               try clear hfz140_1
               try clear hfz140_2
               try clear hfz140_3
               try clear hfz140_4
               try clear hfz142_0
               try clear hfz142_1
               try clear hfz142_2
               try clear hfz142_3
               try clear hfz142_4
               try clear hfz28_0
               try clear hfz28_1
               try clear hfz28_2
               try clear hfz28_3
               try clear hfz28_4
               try clear hfz36_0
               try clear hfz36_1
               try clear hfz36_2
               try clear hfz36_3
               try clear hfz36_4
               try clear hfz45_0
               try clear hfz45_1
               try clear hfz45_2
               try clear hfz45_3
               try clear hfz45_4
               try clear hfz46_0
               try clear hfz46_1
               try clear hfz46_2
               try clear hfz46_3
               try clear hfz46_4
               try clear hfz52_0
               try clear hfz52_1
               try clear hfz52_2
               try clear hfz52_3
               try clear hfz52_4
               try clear hfz53_0
               try clear hfz53_1
               try clear hfz53_2
               try clear hfz53_3
               try clear hfz53_4
               try clear hfz85_0
               try clear hfz85_1
               try clear hfz85_2
               try clear hfz85_3
               try clear hfz85_4
               try clear hfz86_0
               try clear hfz86_1
               try clear hfz86_2
               try clear hfz86_3
               try clear hfz86_4
               try clear hfz92_0
               try clear hfz92_1
               try clear hfz92_2
               try clear hfz92_3
               try clear hfz92_4
               try clear hfz93_0
               try clear hfz93_1
               try clear hfz93_2
               try clear hfz93_3
               try clear hfz93_4
               try clear p2
               obtain ⟨kq, x147_108, rfl, HA, HJ108, HO_15, BK355, BK371, BK406, HB⟩ := hcut
               have hl15_108 := (Kd.R_reads' HO_15.out).1
               rw [hl15_108] at HO_15
               (try simp only [hl15_108])
               (try simp only [hl15_108] at BK355)
               (try simp only [hl15_108] at BK371)
               (try simp only [hl15_108] at BK406)
               cases kq with
               | zero => exact absurd HA.out (by simp [laws_FnExactKeptAsk.j2])
               | succ kj108 =>
                have H := HA.out
                clear HA
                simp only [laws_FnExactKeptAsk.j2] at H
                by_cases c147 : x147_108 = true
                ·subst c147
                 rw [if_pos rfl] at H
                 obtain rfl := Option.some.inj H
                 go_wp2
                 go_ret
                 exact ⟨z_4, z_189⟩
                ·replace c147 := Bool.eq_false_iff.mpr c147
                 subst c147
                 rw [if_neg (show ¬ (false = true) by decide)] at H
                 replace H := Option.bind_eq_some_iff.mp H
                 obtain ⟨t409, A1480, H⟩ := H
                 have A148 := Aside0.mk A1480
                 clear A1480
                 by_cases c149 : t409 < 0
                 ·rw [if_pos c149] at H
                  have c149b0 : decide (t409 < 0) = true := decide_eq_true c149
                  clear c149
                  obtain rfl := Option.some.inj H
                  go_wp2_with (first | ((with_reducible refine gate_callee (f := 53) rfl ?_); refine goesL_ (some 150) rfl rfl Try.func53 (z_0) rfl #[.slice Ao110 t389.length co110, .int .i64 1] rfl (z_8) ?_; (with_reducible refine (laws_heldKeptS.calls kj108 _ _ t389 1 t409 _ ?side1 ?side2 A148.out).mono ?_); (case side1 => exact z_171); (case side2 => exact z_172); rintro e w150 ⟨rfl, hb⟩; refine ⟨_, rfl, ?_⟩; have n0_ := Aside0.mk (Kd.R_below (z_161) hb); have n1_ := Aside0.mk (blk_below (g := gb355) (o := .cells #[.string t349, .int .i64 t350, .int .i64 t351, .string t352, .int .i64 t353] 26 (0, 0)) (z_138) hb); have n2_ := Aside0.mk (blk_below (g := gb371) (o := .cells #[.string t365, .int .i64 t366, .int .i64 t367, .string t368, .int .i64 t369] 26 (0, 0)) (z_153) hb); have n3_ := Aside0.mk (blk_below (g := gb406) (o := .cells #[.string t400, .int .i64 t401, .int .i64 t402, .string t403, .int .i64 t404] 26 (0, 0)) (z_190) hb); have n4_ := Aside0.mk (below_step (z_189) hb); clear HO_15; clear BK355; clear BK371; clear BK406; clear HB; have HO_15 := n0_; have BK355 := n1_; have BK371 := n2_; have BK406 := n3_; have HB := n4_; clear n0_ n1_ n2_ n3_ n4_; (try clear hb); (try clear hb2); (try clear hk); (try clear hi)))
                  go_ret
                  exact ⟨z_4, z_189⟩
                 ·rw [if_neg c149] at H
                  have c149b0 : decide (t409 < 0) = false := decide_eq_false c149
                  clear c149
                  by_cases c151 : t409 = t388
                  ·rw [if_pos c151] at H
                   have c151b0 : (t409 == t388) = true := beq_iff_eq.mpr c151
                   have c151b1 : (t409 != t388) = false := bne_eq_false_iff_eq.mpr c151
                   clear c151
                   obtain rfl := Option.some.inj H
                   go_wp2_with (first | ((with_reducible refine gate_callee (f := 53) rfl ?_); refine goesL_ (some 150) rfl rfl Try.func53 (z_0) rfl #[.slice Ao110 t389.length co110, .int .i64 1] rfl (z_8) ?_; (with_reducible refine (laws_heldKeptS.calls kj108 _ _ t389 1 t409 _ ?side1 ?side2 A148.out).mono ?_); (case side1 => exact z_171); (case side2 => exact z_172); rintro e w152 ⟨rfl, hb⟩; refine ⟨_, rfl, ?_⟩; have n0_ := Aside0.mk (Kd.R_below (z_161) hb); have n1_ := Aside0.mk (blk_below (g := gb355) (o := .cells #[.string t349, .int .i64 t350, .int .i64 t351, .string t352, .int .i64 t353] 26 (0, 0)) (z_138) hb); have n2_ := Aside0.mk (blk_below (g := gb371) (o := .cells #[.string t365, .int .i64 t366, .int .i64 t367, .string t368, .int .i64 t369] 26 (0, 0)) (z_153) hb); have n3_ := Aside0.mk (blk_below (g := gb406) (o := .cells #[.string t400, .int .i64 t401, .int .i64 t402, .string t403, .int .i64 t404] 26 (0, 0)) (z_190) hb); have n4_ := Aside0.mk (below_step (z_189) hb); clear HO_15; clear BK355; clear BK371; clear BK406; clear HB; have HO_15 := n0_; have BK355 := n1_; have BK371 := n2_; have BK406 := n3_; have HB := n4_; clear n0_ n1_ n2_ n3_ n4_; (try clear hb); (try clear hb2); (try clear hk); (try clear hi)))
                   go_ret
                   exact ⟨z_4, z_189⟩
                  ·rw [if_neg c151] at H
                   have c151b0 : (t409 == t388) = false := beq_eq_false_iff_ne.mpr c151
                   have c151b1 : (t409 != t388) = true := bne_iff_ne.mpr c151
                   obtain rfl := Option.some.inj H
                   go_wp2_with (first | ((with_reducible refine gate_callee (f := 53) rfl ?_); refine goesL_ (some 150) rfl rfl Try.func53 (z_0) rfl #[.slice Ao110 t389.length co110, .int .i64 1] rfl (z_8) ?_; (with_reducible refine (laws_heldKeptS.calls kj108 _ _ t389 1 t409 _ ?side1 ?side2 A148.out).mono ?_); (case side1 => exact z_171); (case side2 => exact z_172); rintro e w153 ⟨rfl, hb⟩; refine ⟨_, rfl, ?_⟩; have n0_ := Aside0.mk (Kd.R_below (z_161) hb); have n1_ := Aside0.mk (blk_below (g := gb355) (o := .cells #[.string t349, .int .i64 t350, .int .i64 t351, .string t352, .int .i64 t353] 26 (0, 0)) (z_138) hb); have n2_ := Aside0.mk (blk_below (g := gb371) (o := .cells #[.string t365, .int .i64 t366, .int .i64 t367, .string t368, .int .i64 t369] 26 (0, 0)) (z_153) hb); have n3_ := Aside0.mk (blk_below (g := gb406) (o := .cells #[.string t400, .int .i64 t401, .int .i64 t402, .string t403, .int .i64 t404] 26 (0, 0)) (z_190) hb); have n4_ := Aside0.mk (below_step (z_189) hb); clear HO_15; clear BK355; clear BK371; clear BK406; clear HB; have HO_15 := n0_; have BK355 := n1_; have BK371 := n2_; have BK406 := n3_; have HB := n4_; clear n0_ n1_ n2_ n3_ n4_; (try clear hb); (try clear hb2); (try clear hk); (try clear hi)))
                   go_ret
                   exact ⟨z_4, z_189⟩
             ·rw [if_neg c105] at H
              have c105b0 : (t390 == t388) = false := beq_eq_false_iff_ne.mpr c105
              have c105b1 : (t390 != t388) = true := bne_iff_ne.mpr c105
              obtain rfl := Option.some.inj H
              obtain ⟨Ao154, co154, eo154⟩ := Kd.R_slice HO_15.out
              subst eo154
              go_wp2_with (first | ((with_reducible refine gate_callee (f := 51) rfl ?_); refine goesL_ (some 113) rfl rfl Try.func51 (z_0) rfl #[.slice Ao154 t362.length co154, .int .i64 1] rfl (z_8) ?_; (with_reducible refine (laws_markKeptS.calls kj66 (fun k_ => some k_ = (.slice Ao154 t362.length co154 : Value).ownBlock) (.slice Ao154 t362.length co154) t362 1 t388 t389 w _ ?side1 ?side2 A99.out).mono ?_); (case side1 => exact z_152); (case side2 => exact Kd.R_tight rfl HO_15.out); rintro e w155 ⟨rfl, hy0, hb, hkp⟩; refine ⟨_, rfl, ?_⟩; have n0_ := Aside0.mk (Kd.Q_mono (ok' := fun k_ => some k_ ≠ (.slice Ao154 t362.length co154 : Value).ownBlock) (Kd.Q_keptB (HO_10.out) hkp (fun k_ hk_ hs_ => (hk_) hs_)) (fun k_ hk_ => hk_.1)); have n1_ := Aside0.mk (Kd.R_reok rfl hy0 (fun k_ e_ => HO_15.out.1 k_ e_)); have n2_ := Aside0.mk (blk_kept (z_138) hkp (fun hs_ => (fun e_ => (Kd.R_ne HO_15.out BK355.out (z_19)) e_) hs_)); have n3_ := Aside0.mk (blk_kept (z_153) hkp (fun hs_ => (fun e_ => (Kd.R_ne HO_15.out BK371.out (z_19)) e_) hs_)); have n4_ := Aside0.mk (hb); clear HO_10; clear HO_15; clear BK355; clear BK371; clear HB; have HO_10 := n0_; have HO_15 := n1_; have BK355 := n2_; have BK371 := n3_; have HB := n4_; clear n0_ n1_ n2_ n3_ n4_; (try clear hb); (try clear hkp); (try clear hy0)) | ((with_reducible refine gate_callee (f := 53) rfl ?_); refine goesL_ (some 116) rfl rfl Try.func53 (z_0) rfl #[.slice Ao154 t389.length co154, .int .i64 1] rfl (z_175) ?_; (with_reducible refine (laws_heldKeptS.calls kj66 _ _ t389 1 t390 _ ?side1 ?side2 A100.out).mono ?_); (case side1 => exact z_171); (case side2 => exact z_176); rintro e w156 ⟨rfl, hb⟩; refine ⟨_, rfl, ?_⟩; have n0_ := Aside0.mk (Kd.Q_below (z_158) hb); have n1_ := Aside0.mk (Kd.R_below (z_161) hb); have n2_ := Aside0.mk (blk_below (g := gb355) (o := .cells #[.string t349, .int .i64 t350, .int .i64 t351, .string t352, .int .i64 t353] 26 (0, 0)) (z_138) hb); have n3_ := Aside0.mk (blk_below (g := gb371) (o := .cells #[.string t365, .int .i64 t366, .int .i64 t367, .string t368, .int .i64 t369] 26 (0, 0)) (z_153) hb); have n4_ := Aside0.mk (below_step (z_152) hb); clear HO_10; clear HO_15; clear BK355; clear BK371; clear HB; have HO_10 := n0_; have HO_15 := n1_; have BK355 := n2_; have BK371 := n3_; have HB := n4_; clear n0_ n1_ n2_ n3_ n4_; (try clear hb); (try clear hb2); (try clear hk); (try clear hi)))
              go_ret
              exact ⟨z_4, z_152⟩
        ·replace c64 := Bool.eq_false_iff.mpr c64
         subst c64
         rw [if_neg (show ¬ (false = true) by decide)] at H
         obtain rfl := Option.some.inj H
         go_wp2_with (first | ((with_reducible refine gate_callee (f := 35) rfl ?_); refine goesL_ (some 78) rfl rfl Try.func35 (z_0) rfl #[.slice A0 l0.length c0] rfl (z_8) ?_; (with_reducible refine (laws_toKeptS.calls kj18 _ _ l0 t374 _ ?side1 ?side2 A59.out).mono ?_); (case side1 => exact z_62); (case side2 => exact HC0.out); rintro e w157 ⟨v375, rfl, ho0, hb⟩; refine ⟨_, rfl, ?_⟩; have n0_ := Aside0.mk (Kd.Q_elder' (z_158) (Kd.R_base ho0) hb); have n1_ := Aside0.mk (Kd.R_elder' (z_159) (Kd.R_base ho0) hb); have n2_ := Aside0.mk (Kd.R_below (z_160) hb); have n3_ := Aside0.mk (Kd.R_elder' (z_161) (Kd.R_base ho0) hb); have n4_ := Aside0.mk (Kd.R_lower (Kd.R_new' (Kd.R_new' (Kd.R_new' ho0 (Kd.Q_lt (z_158))) (Kd.R_lt (z_159))) (Kd.R_lt (z_161))) (below_size (z_152))); have n5_ := Aside0.mk (blk_below (g := gb355) (o := .cells #[.string t349, .int .i64 t350, .int .i64 t351, .string t352, .int .i64 t353] 26 (0, 0)) (z_138) hb); have n6_ := Aside0.mk (blk_below (g := gb371) (o := .cells #[.string t365, .int .i64 t366, .int .i64 t367, .string t368, .int .i64 t369] 26 (0, 0)) (z_153) hb); have n7_ := Aside0.mk (below_step (z_152) hb); clear HO_10; clear HO_13; clear HO_14; clear HO_15; clear BK355; clear BK371; clear HB; have HO_10 := n0_; have HO_13 := n1_; have HO_14 := n2_; have HO_15 := n3_; have HO376 := n4_; have BK355 := n5_; have BK371 := n6_; have HB := n7_; clear n0_ n1_ n2_ n3_ n4_ n5_ n6_ n7_; (try clear hb); (try clear hb2); (try clear hk); (try clear hi); (try clear ho0); obtain ⟨Ao158, co158, eo158⟩ := Kd.R_slice HO376.out; subst eo158) | ((with_reducible refine gate_callee (f := 37) rfl ?_); refine goesL_ (some 79) rfl rfl Try.func37 (z_0) rfl #[.slice Ao31 t356.length co31, .slice Ao158 t374.length co158] rfl (z_8) ?_; (with_reducible refine (laws_eqKeptS.calls kj18 _ _ t356 _ _ t374 true _ ?side1 ?side2 ?side3 ?side4 A60.out).mono ?_); (case side1 => exact z_162); (case side2 => exact (Kd.R_reads' HO_13.out).2.1); (case side3 => exact z_163); (case side4 => exact (Kd.R_reads' HO376.out).2.1); rintro e w159 ⟨rfl, hb⟩; refine ⟨_, rfl, ?_⟩; have n0_ := Aside0.mk (Kd.Q_below (z_158) hb); have n1_ := Aside0.mk (Kd.R_below (z_159) hb); have n2_ := Aside0.mk (Kd.R_below (z_160) hb); have n3_ := Aside0.mk (Kd.R_below (z_161) hb); have n4_ := Aside0.mk (Kd.R_below (z_164) hb); have n5_ := Aside0.mk (blk_below (g := gb355) (o := .cells #[.string t349, .int .i64 t350, .int .i64 t351, .string t352, .int .i64 t353] 26 (0, 0)) (z_138) hb); have n6_ := Aside0.mk (blk_below (g := gb371) (o := .cells #[.string t365, .int .i64 t366, .int .i64 t367, .string t368, .int .i64 t369] 26 (0, 0)) (z_153) hb); have n7_ := Aside0.mk (below_step (z_152) hb); clear HO_10; clear HO_13; clear HO_14; clear HO_15; clear HO376; clear BK355; clear BK371; clear HB; have HO_10 := n0_; have HO_13 := n1_; have HO_14 := n2_; have HO_15 := n3_; have HO376 := n4_; have BK355 := n5_; have BK371 := n6_; have HB := n7_; clear n0_ n1_ n2_ n3_ n4_ n5_ n6_ n7_; (try clear hb); (try clear hb2); (try clear hk); (try clear hi)) | ((with_reducible refine gate_callee (f := 26) rfl ?_); refine goesL_ (some 83) rfl rfl Try.func26 (z_0) rfl #[.slice A1 l1.length c1] rfl (z_8) ?_; (with_reducible refine (laws_toNameS.calls kj18 _ _ l1 t378 _ ?side1 ?side2 A62.out).mono ?_); (case side1 => exact z_61); (case side2 => exact HC1.out); rintro e w160 ⟨v379, rfl, ho0, hb⟩; refine ⟨_, rfl, ?_⟩; have n0_ := Aside0.mk (Kd.Q_below (z_158) hb); have n1_ := Aside0.mk (Kd.R_below (z_159) hb); have n2_ := Aside0.mk (Kd.R_elder' (z_160) (Kd.R_base ho0) hb); have n3_ := Aside0.mk (Kd.R_below (z_161) hb); have n4_ := Aside0.mk (Kd.R_below (z_164) hb); have n5_ := Aside0.mk (Kd.R_lower (Kd.R_newB (Kd.R_newB (Kd.R_new' ho0 (Kd.R_lt (z_160))) (g := gb355) (o := .cells #[.string t349, .int .i64 t350, .int .i64 t351, .string t352, .int .i64 t353] 26 (0, 0)) (z_138)) (g := gb371) (o := .cells #[.string t365, .int .i64 t366, .int .i64 t367, .string t368, .int .i64 t369] 26 (0, 0)) (z_153)) (below_size (z_152))); have n6_ := Aside0.mk (blk_below (g := gb355) (o := .cells #[.string t349, .int .i64 t350, .int .i64 t351, .string t352, .int .i64 t353] 26 (0, 0)) (z_138) hb); have n7_ := Aside0.mk (blk_below (g := gb371) (o := .cells #[.string t365, .int .i64 t366, .int .i64 t367, .string t368, .int .i64 t369] 26 (0, 0)) (z_153) hb); have n8_ := Aside0.mk (below_step (z_152) hb); clear HO_10; clear HO_13; clear HO_14; clear HO_15; clear HO376; clear BK355; clear BK371; clear HB; have HO_10 := n0_; have HO_13 := n1_; have HO_14 := n2_; have HO_15 := n3_; have HO376 := n4_; have HO380 := n5_; have BK355 := n6_; have BK371 := n7_; have HB := n8_; clear n0_ n1_ n2_ n3_ n4_ n5_ n6_ n7_ n8_; (try clear hb); (try clear hb2); (try clear hk); (try clear hi); (try clear ho0); obtain ⟨Ao161, co161, eo161⟩ := Kd.R_slice HO380.out; subst eo161) | ((with_reducible refine gate_callee (f := 28) rfl ?_); refine goesL_ (some 84) rfl rfl Try.func28 (z_0) rfl #[.slice Ao32 t359.length co32, .slice Ao161 t378.length co161] rfl (z_8) ?_; (with_reducible refine (laws_eqNameS.calls kj18 _ _ t359 _ _ t378 false _ ?side1 ?side2 ?side3 ?side4 A63.out).mono ?_); (case side1 => exact z_165); (case side2 => exact (Kd.R_reads' HO_14.out).2.1); (case side3 => exact z_166); (case side4 => exact (Kd.R_reads' HO380.out).2.1); rintro e w162 ⟨rfl, hb⟩; refine ⟨_, rfl, ?_⟩; have n0_ := Aside0.mk (Kd.Q_below (z_158) hb); have n1_ := Aside0.mk (Kd.R_below (z_159) hb); have n2_ := Aside0.mk (Kd.R_below (z_160) hb); have n3_ := Aside0.mk (Kd.R_below (z_161) hb); have n4_ := Aside0.mk (Kd.R_below (z_164) hb); have n5_ := Aside0.mk (Kd.R_below (z_167) hb); have n6_ := Aside0.mk (blk_below (g := gb355) (o := .cells #[.string t349, .int .i64 t350, .int .i64 t351, .string t352, .int .i64 t353] 26 (0, 0)) (z_138) hb); have n7_ := Aside0.mk (blk_below (g := gb371) (o := .cells #[.string t365, .int .i64 t366, .int .i64 t367, .string t368, .int .i64 t369] 26 (0, 0)) (z_153) hb); have n8_ := Aside0.mk (below_step (z_152) hb); clear HO_10; clear HO_13; clear HO_14; clear HO_15; clear HO376; clear HO380; clear BK355; clear BK371; clear HB; have HO_10 := n0_; have HO_13 := n1_; have HO_14 := n2_; have HO_15 := n3_; have HO376 := n4_; have HO380 := n5_; have BK355 := n6_; have BK371 := n7_; have HB := n8_; clear n0_ n1_ n2_ n3_ n4_ n5_ n6_ n7_ n8_; (try clear hb); (try clear hb2); (try clear hk); (try clear hi)))
         go_ret
         exact ⟨z_4, z_152⟩
       ·replace c61 := Bool.eq_false_iff.mpr c61
        subst c61
        rw [if_neg (show ¬ (false = true) by decide)] at H
        obtain rfl := Option.some.inj H
        go_wp2_with (first | ((with_reducible refine gate_callee (f := 35) rfl ?_); refine goesL_ (some 78) rfl rfl Try.func35 (z_0) rfl #[.slice A0 l0.length c0] rfl (z_8) ?_; (with_reducible refine (laws_toKeptS.calls kj18 _ _ l0 t374 _ ?side1 ?side2 A59.out).mono ?_); (case side1 => exact z_62); (case side2 => exact HC0.out); rintro e w163 ⟨v375, rfl, ho0, hb⟩; refine ⟨_, rfl, ?_⟩; have n0_ := Aside0.mk (Kd.Q_elder' (z_158) (Kd.R_base ho0) hb); have n1_ := Aside0.mk (Kd.R_elder' (z_159) (Kd.R_base ho0) hb); have n2_ := Aside0.mk (Kd.R_below (z_160) hb); have n3_ := Aside0.mk (Kd.R_elder' (z_161) (Kd.R_base ho0) hb); have n4_ := Aside0.mk (Kd.R_lower (Kd.R_new' (Kd.R_new' (Kd.R_new' ho0 (Kd.Q_lt (z_158))) (Kd.R_lt (z_159))) (Kd.R_lt (z_161))) (below_size (z_152))); have n5_ := Aside0.mk (blk_below (g := gb355) (o := .cells #[.string t349, .int .i64 t350, .int .i64 t351, .string t352, .int .i64 t353] 26 (0, 0)) (z_138) hb); have n6_ := Aside0.mk (blk_below (g := gb371) (o := .cells #[.string t365, .int .i64 t366, .int .i64 t367, .string t368, .int .i64 t369] 26 (0, 0)) (z_153) hb); have n7_ := Aside0.mk (below_step (z_152) hb); clear HO_10; clear HO_13; clear HO_14; clear HO_15; clear BK355; clear BK371; clear HB; have HO_10 := n0_; have HO_13 := n1_; have HO_14 := n2_; have HO_15 := n3_; have HO376 := n4_; have BK355 := n5_; have BK371 := n6_; have HB := n7_; clear n0_ n1_ n2_ n3_ n4_ n5_ n6_ n7_; (try clear hb); (try clear hb2); (try clear hk); (try clear hi); (try clear ho0); obtain ⟨Ao164, co164, eo164⟩ := Kd.R_slice HO376.out; subst eo164) | ((with_reducible refine gate_callee (f := 37) rfl ?_); refine goesL_ (some 79) rfl rfl Try.func37 (z_0) rfl #[.slice Ao31 t356.length co31, .slice Ao164 t374.length co164] rfl (z_8) ?_; (with_reducible refine (laws_eqKeptS.calls kj18 _ _ t356 _ _ t374 false _ ?side1 ?side2 ?side3 ?side4 A60.out).mono ?_); (case side1 => exact z_162); (case side2 => exact (Kd.R_reads' HO_13.out).2.1); (case side3 => exact z_163); (case side4 => exact (Kd.R_reads' HO376.out).2.1); rintro e w165 ⟨rfl, hb⟩; refine ⟨_, rfl, ?_⟩; have n0_ := Aside0.mk (Kd.Q_below (z_158) hb); have n1_ := Aside0.mk (Kd.R_below (z_159) hb); have n2_ := Aside0.mk (Kd.R_below (z_160) hb); have n3_ := Aside0.mk (Kd.R_below (z_161) hb); have n4_ := Aside0.mk (Kd.R_below (z_164) hb); have n5_ := Aside0.mk (blk_below (g := gb355) (o := .cells #[.string t349, .int .i64 t350, .int .i64 t351, .string t352, .int .i64 t353] 26 (0, 0)) (z_138) hb); have n6_ := Aside0.mk (blk_below (g := gb371) (o := .cells #[.string t365, .int .i64 t366, .int .i64 t367, .string t368, .int .i64 t369] 26 (0, 0)) (z_153) hb); have n7_ := Aside0.mk (below_step (z_152) hb); clear HO_10; clear HO_13; clear HO_14; clear HO_15; clear HO376; clear BK355; clear BK371; clear HB; have HO_10 := n0_; have HO_13 := n1_; have HO_14 := n2_; have HO_15 := n3_; have HO376 := n4_; have BK355 := n5_; have BK371 := n6_; have HB := n7_; clear n0_ n1_ n2_ n3_ n4_ n5_ n6_ n7_; (try clear hb); (try clear hb2); (try clear hk); (try clear hi)))
        go_ret
        exact ⟨z_4, z_152⟩

end Go.Proofs.Ytmgnmgobibpjjaa.GFnExactKeptAsk
