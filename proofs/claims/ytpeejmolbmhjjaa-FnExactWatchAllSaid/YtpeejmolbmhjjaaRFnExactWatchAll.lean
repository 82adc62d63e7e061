/- The law FnExactWatchAll holds: for all arguments, the call of FnExactWatchAll returns true and leaves its arguments as they were; there is no condition beyond the given row. -/
import Derived.Test.YtpeejmolbmhjjaaBWA1
import Derived.Test.YtpeejmolbmhjjaaBWA2
import Derived.Test.YtpeejmolbmhjjaaNFacts
namespace Go.Proofs.Ytpeejmolbmhjjaa.fnExactWatchAll
set_option linter.unusedSimpArgs false
open Go Go.ChangeShapes Go.WideShapes Go.ChangeAt Go.RowKit
open Go.ChangeMaps (open_string shut_string)
set_option linter.unusedVariables false
theorem own : ownKnob Try.prog.godebug = none := by kernel_rfl
theorem laidOut : laidOutB Try.prog = true := Facts.laid
set_option maxRecDepth 100000 in
theorem c1 : (Rows.fnExactWatchAllRow.inPlace == Try.prog.inPlace 14) = true := by kernel_rfl
set_option maxRecDepth 100000 in
theorem c2 : (Rows.fnExactWatchAllRow.unfollowed == Try.prog.unfollowed 14) = true := by kernel_rfl
set_option maxRecDepth 100000 in
theorem c3 : (Rows.fnExactWatchAllRow.recurses == Try.prog.recurses 14) = true := by kernel_rfl
set_option maxRecDepth 100000 in
theorem c4 : (Rows.fnExactWatchAllRow.named == Try.prog.varsNamed 14) = true := by kernel_rfl
theorem c5 : (Rows.fnExactWatchAllRow.lifted == Try.prog.liftsFinal) = true := Facts.lifted
theorem c6 : (Try.prog.make == some Rows.fnExactWatchAllRow.make) = true := Facts.make
theorem c7 : (Rows.fnExactWatchAllRow.plainKeys == Try.prog.plainKeys) = true := Facts.keys
set_option maxRecDepth 100000 in
theorem closed : joinedFacts Try.prog 14 Try.f14 Rows.fnExactWatchAllSpec Rows.fnExactWatchAllRow = true := by
  unfold joinedFacts
  rw [c1, c2, c3, c4, c5, c6, c7, Facts.heard, Facts.may, Facts.stops, Facts.knobs, Facts.laid]
  kernel_rfl
set_option maxRecDepth 100000 in
theorem named : Try.prog.funcNamed Rows.fnExactWatchAllRow.func = some 14 := by kernel_rfl
set_option maxRecDepth 100000 in
theorem inst : Try.f14.isInstance Try.prog Rows.fnExactWatchAllRow.origin Rows.fnExactWatchAllRow.targs := of_decide_eq_true (by kernel_rfl)
set_option maxRecDepth 100000 in
theorem wrap : Try.f14.isWrapper Try.prog Rows.fnExactWatchAllRow.wrapper Rows.fnExactWatchAllRow.mainSum := by
  unfold Func.isWrapper; first | (rw [if_pos (by decide +kernel)]; kernel_rfl) | (rw [if_neg (by decide +kernel)]; exact ⟨rfl, rfl⟩)
set_option maxRecDepth 100000 in
theorem lifted (os : Os) (started : os.Started) (H : Type) (enc : TypeId × Value → H) :
    ReturnsInHanded {} Try.checked os 14 .any (Rows.fnExactWatchAllSpec.pre6 enc Try.prog Try.f14 Rows.fnExactWatchAllRow.domain false) (Rows.fnExactWatchAllSpec.post enc Try.prog Try.f14 false true false false) := by
  refine returnsInHanded_of_change_sized (C := Try.checked) own started (by kernel_rfl) Try.func14
    (ChangeSpec.witness6 (enc := enc) (C := Try.checked) false ⟨#[], #[.slice none 0 0, .slice none 0 0], []⟩ 8 (by kernel_rfl) (by kernel_rfl) (by kernel_rfl) (by kernel_rfl)) ?_
  intro W base args ds gs before hval0 hW hcnd hsz0 _
  have hval : ∀ (j : Nat) t v, Try.f14.params[j]? = some t → args[j]? = some v → Value.okWide Try.prog W .any base t v := hval0
  have hW' := hW
  obtain ⟨p, q, hA0, hV, rfl, hfz, hnd⟩ := hW
  have hA : DataW.TrodAll enc Try.prog W 0 (fun _ => true) true Try.f14.params.toList args.toList ds p := hA0
  rw [Try.params14] at hA hval
  obtain ⟨v0, vs0, d0, ds0, p0, q0, hargs, rfl, rfl, h0, r0⟩ := trodAll_cons hA
  obtain ⟨v1, vs1, d1, ds1, p1, q1, rfl, rfl, rfl, h1, r1⟩ := trodAll_cons r0
  obtain ⟨rfl, rfl, rfl⟩ := trodAll_nil r1
  obtain rfl : args = #[v0, v1] := by cases args; simp_all
  obtain ⟨rfl, rfl⟩ := trodVars_none hV
  have k0 := h0
  have lt0 : ∀ x ∈ p0, x.block < W.heap.size := by obtain ⟨m, hm⟩ := k0; exact DataW.trod_lt m _ _ _ hm
  obtain ⟨av0, m0, w0⟩ := Sx.slice_arg Try.underlying89 Sx.o89 (hval 0 89 v0 rfl rfl) h0 (Sx.at0 0)
  obtain ⟨x0, y0, l0⟩ := Sx.watches_arg m0 w0
  have k1 := h1
  have lt1 : ∀ x ∈ p1, x.block < W.heap.size := by obtain ⟨m, hm⟩ := k1; exact DataW.trod_lt m _ _ _ hm
  obtain ⟨av1, m1, w1⟩ := Sx.slice_arg Try.underlying76 Sx.o76 (hval 1 76 v1 rfl rfl) h1 (Sx.at0 0)
  obtain ⟨x1, y1, l1, f1⟩ := Sx.ends_arg m1 w1
  clear hA0 hval0 hsz0
  refine (Sx.law14 y0 y1 l0 l1 f1).mono fun e W' ⟨he, bel⟩ => ?_
  subst he
  exact ⟨_, rfl, _, _, _, [], _, [], hW', trodAll_mk1 (shut_bool Try.underlying4 _), (trodAll_cons_mk (Below.trod laidOut (by kernel_rfl) (of_decide_eq_true (by kernel_rfl)) k0 bel lt0) (trodAll_cons_mk (Below.trod laidOut (by kernel_rfl) (of_decide_eq_true (by kernel_rfl)) k1 bel lt1) trodAll_mk0)), rfl, bel.frame _, fun h => by cases h⟩
theorem over : Rows.fnExactWatchAllRow.holds Try.pinned (OpenSpec.ofChange Rows.fnExactWatchAllSpec) :=
  OpenClaim.holds_of_wide 14 Try.f14 rfl rfl rfl rfl rfl rfl rfl ⟨rfl, rfl, rfl, rfl, rfl⟩ rfl rfl rfl rfl rfl named Try.func14 closed inst wrap
    (fun os started H enc _ => lifted os started H enc)
theorem proved : Rows.FnExactWatchAllSaid := over
end Go.Proofs.Ytpeejmolbmhjjaa.fnExactWatchAll
namespace Go.Proofs.Ytpeejmolbmhjjaa
/-- The row, under a short name, for the claim. -/
theorem fnExactWatchAll_holds : Rows.FnExactWatchAllSaid := fnExactWatchAll.proved
#print axioms fnExactWatchAll_holds
end Go.Proofs.Ytpeejmolbmhjjaa
