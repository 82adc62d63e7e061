/- The law FnExactWatchEdge holds: for all arguments, the call of FnExactWatchEdge returns true and leaves its arguments as they were; there is no condition beyond the given row. -/
import Derived.Test.YtpeejmolbmhjjaaR2
import Derived.Test.YtpeejmolbmhjjaaF19
import Derived.Test.YtpeejmolbmhjjaaFacts
namespace Go.Proofs.Ytpeejmolbmhjjaa.fnExactWatchEdge
set_option linter.unusedSimpArgs false
open Go Go.ChangeShapes Go.WideShapes Go.ChangeAt Go.RowKit
open Go.ChangeMaps (open_string shut_string)
set_option linter.unusedVariables false
theorem own : ownKnob Try.prog.godebug = none := by kernel_rfl
theorem laidOut : laidOutB Try.prog = true := Facts.laid
set_option maxRecDepth 100000 in
theorem c1 : (Rows.fnExactWatchEdgeRow.inPlace == Try.prog.inPlace 12) = true := by kernel_rfl
set_option maxRecDepth 100000 in
theorem c2 : (Rows.fnExactWatchEdgeRow.unfollowed == Try.prog.unfollowed 12) = true := by kernel_rfl
set_option maxRecDepth 100000 in
theorem c3 : (Rows.fnExactWatchEdgeRow.recurses == Try.prog.recurses 12) = true := by kernel_rfl
set_option maxRecDepth 100000 in
theorem c4 : (Rows.fnExactWatchEdgeRow.named == Try.prog.varsNamed 12) = true := by kernel_rfl
theorem c5 : (Rows.fnExactWatchEdgeRow.lifted == Try.prog.liftsFinal) = true := Facts.lifted
theorem c6 : (Try.prog.make == some Rows.fnExactWatchEdgeRow.make) = true := Facts.make
theorem c7 : (Rows.fnExactWatchEdgeRow.plainKeys == Try.prog.plainKeys) = true := Facts.keys
set_option maxRecDepth 100000 in
theorem closed : joinedFacts Try.prog 12 Try.f12 Rows.fnExactWatchEdgeSpec Rows.fnExactWatchEdgeRow = true := by
  unfold joinedFacts
  rw [c1, c2, c3, c4, c5, c6, c7, Facts.heard, Facts.may, Facts.stops, Facts.knobs, Facts.laid]
  kernel_rfl
set_option maxRecDepth 100000 in
theorem named : Try.prog.funcNamed Rows.fnExactWatchEdgeRow.func = some 12 := by kernel_rfl
set_option maxRecDepth 100000 in
theorem inst : Try.f12.isInstance Try.prog Rows.fnExactWatchEdgeRow.origin Rows.fnExactWatchEdgeRow.targs := of_decide_eq_true (by kernel_rfl)
set_option maxRecDepth 100000 in
theorem wrap : Try.f12.isWrapper Try.prog Rows.fnExactWatchEdgeRow.wrapper Rows.fnExactWatchEdgeRow.mainSum := by
  unfold Func.isWrapper; first | (rw [if_pos (by decide +kernel)]; kernel_rfl) | (rw [if_neg (by decide +kernel)]; exact ⟨rfl, rfl⟩)
set_option maxRecDepth 100000 in
theorem lifted (os : Os) (started : os.Started) (H : Type) (enc : TypeId × Value → H) :
    ReturnsInHanded {} Try.checked os 12 .any (Rows.fnExactWatchEdgeSpec.pre6 enc Try.prog Try.f12 Rows.fnExactWatchEdgeRow.domain false) (Rows.fnExactWatchEdgeSpec.post enc Try.prog Try.f12 false true false false) := by
  refine returnsInHanded_of_change_sized (C := Try.checked) own started (by kernel_rfl) Try.func12
    (ChangeSpec.witness6 (enc := enc) (C := Try.checked) false ⟨#[], #[.agg #[.int .i64 0, .int .i64 0], .agg #[.int .i64 0, .int .i64 0, .int .i64 0, .int .i64 0, .int .i64 0, .int .i64 0, .int .i64 0, .slice none 0 0, .int .i64 0, .int .i64 0, .slice none 0 0, .int .i64 0, .int .i64 0, .slice none 0 0, .slice none 0 0, .bool false, .bool false, .bool false, .int .i64 0, .int .i64 0, .int .i64 0, .int .i64 0, .int .i64 0, .int .i64 0]], []⟩ 8 (by kernel_rfl) (by kernel_rfl) (by kernel_rfl) (by kernel_rfl)) ?_
  intro W base args ds gs before hval0 hW hcnd hsz0 _
  have hval : ∀ (j : Nat) t v, Try.f12.params[j]? = some t → args[j]? = some v → Value.okWide Try.prog W .any base t v := hval0
  have hW' := hW
  obtain ⟨p, q, hA0, hV, rfl, hfz, hnd⟩ := hW
  have hA : DataW.TrodAll enc Try.prog W 0 (fun _ => true) true Try.f12.params.toList args.toList ds p := hA0
  rw [Try.params12] at hA hval
  obtain ⟨v0, vs0, d0, ds0, p0, q0, hargs, rfl, rfl, h0, r0⟩ := trodAll_cons hA
  obtain ⟨v1, vs1, d1, ds1, p1, q1, rfl, rfl, rfl, h1, r1⟩ := trodAll_cons r0
  obtain ⟨rfl, rfl, rfl⟩ := trodAll_nil r1
  obtain rfl : args = #[v0, v1] := by cases args; simp_all
  obtain ⟨rfl, rfl⟩ := trodVars_none hV
  have k0 := h0
  have lt0 : ∀ x ∈ p0, x.block < W.heap.size := by obtain ⟨m, hm⟩ := k0; exact DataW.trod_lt m _ _ _ hm
  obtain ⟨av0, m0, w0⟩ := Sx.struct_arg Try.underlying72 Sx.o72 (hval 0 72 v0 rfl rfl) h0
  obtain ⟨x0, rfl⟩ := Sx.watch_of m0
  have k1 := h1
  have lt1 : ∀ x ∈ p1, x.block < W.heap.size := by obtain ⟨m, hm⟩ := k1; exact DataW.trod_lt m _ _ _ hm
  obtain ⟨av1, m1, w1⟩ := Sx.struct_arg Try.underlying68 Sx.o68 (hval 1 68 v1 rfl rfl) h1
  obtain ⟨x1, rfl, f1⟩ := Sx.end_of m1
  clear hA0 hval0 hsz0
  refine (Sx.law_args (f := 12) (Sx.law12 x0 x1 f1) rfl (fun j x u hx hu => ?_)).mono fun e W' ⟨he, bel⟩ => ?_
  · cases j with
    | zero =>
      simp at hx hu; subst hx; subst hu; exact w0
    | succ j =>
      cases j with
      | zero =>
        simp at hx hu; subst hx; subst hu; exact w1
      | succ j =>
        simp at hx
  subst he
  exact ⟨_, rfl, _, _, _, [], _, [], hW', trodAll_mk1 (shut_bool Try.underlying4 _), (trodAll_cons_mk (Below.trod laidOut (by kernel_rfl) (of_decide_eq_true (by kernel_rfl)) k0 bel lt0) (trodAll_cons_mk (Below.trod laidOut (by kernel_rfl) (of_decide_eq_true (by kernel_rfl)) k1 bel lt1) trodAll_mk0)), rfl, bel.frame _, fun h => by cases h⟩
theorem over : Rows.fnExactWatchEdgeRow.holds Try.pinned (OpenSpec.ofChange Rows.fnExactWatchEdgeSpec) :=
  OpenClaim.holds_of_wide 12 Try.f12 rfl rfl rfl rfl rfl rfl rfl ⟨rfl, rfl, rfl, rfl, rfl⟩ rfl rfl rfl rfl rfl named Try.func12 closed inst wrap
    (fun os started H enc _ => lifted os started H enc)
theorem proved : Rows.FnExactWatchEdgeSaid := over
end Go.Proofs.Ytpeejmolbmhjjaa.fnExactWatchEdge
namespace Go.Proofs.Ytpeejmolbmhjjaa
/-- The row, under a short name, for the claim. -/
theorem fnExactWatchEdge_holds : Rows.FnExactWatchEdgeSaid := fnExactWatchEdge.proved
#print axioms fnExactWatchEdge_holds
end Go.Proofs.Ytpeejmolbmhjjaa
