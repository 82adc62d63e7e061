/- The law FnExactEndOver holds: for all arguments, the call of FnExactEndOver returns true and leaves its arguments as they were; there is no condition beyond the given row. -/
import Derived.Test.YtpeejmolbmhjjaaR2
import Derived.Test.YtpeejmolbmhjjaaF19
import Derived.Test.YtpeejmolbmhjjaaFacts
namespace Go.Proofs.Ytpeejmolbmhjjaa.fnExactEndOver
set_option linter.unusedSimpArgs false
open Go Go.ChangeShapes Go.WideShapes Go.ChangeAt Go.RowKit
open Go.ChangeMaps (open_string shut_string)
set_option linter.unusedVariables false
theorem own : ownKnob Try.prog.godebug = none := by kernel_rfl
theorem laidOut : laidOutB Try.prog = true := Facts.laid
set_option maxRecDepth 100000 in
theorem c1 : (Rows.fnExactEndOverRow.inPlace == Try.prog.inPlace 9) = true := by kernel_rfl
set_option maxRecDepth 100000 in
theorem c2 : (Rows.fnExactEndOverRow.unfollowed == Try.prog.unfollowed 9) = true := by kernel_rfl
set_option maxRecDepth 100000 in
theorem c3 : (Rows.fnExactEndOverRow.recurses == Try.prog.recurses 9) = true := by kernel_rfl
set_option maxRecDepth 100000 in
theorem c4 : (Rows.fnExactEndOverRow.named == Try.prog.varsNamed 9) = true := by kernel_rfl
theorem c5 : (Rows.fnExactEndOverRow.lifted == Try.prog.liftsFinal) = true := Facts.lifted
theorem c6 : (Try.prog.make == some Rows.fnExactEndOverRow.make) = true := Facts.make
theorem c7 : (Rows.fnExactEndOverRow.plainKeys == Try.prog.plainKeys) = true := Facts.keys
set_option maxRecDepth 100000 in
theorem closed : joinedFacts Try.prog 9 Try.f9 Rows.fnExactEndOverSpec Rows.fnExactEndOverRow = true := by
  unfold joinedFacts
  rw [c1, c2, c3, c4, c5, c6, c7, Facts.heard, Facts.may, Facts.stops, Facts.knobs, Facts.laid]
  kernel_rfl
set_option maxRecDepth 100000 in
theorem named : Try.prog.funcNamed Rows.fnExactEndOverRow.func = some 9 := by kernel_rfl
set_option maxRecDepth 100000 in
theorem inst : Try.f9.isInstance Try.prog Rows.fnExactEndOverRow.origin Rows.fnExactEndOverRow.targs := of_decide_eq_true (by kernel_rfl)
set_option maxRecDepth 100000 in
theorem wrap : Try.f9.isWrapper Try.prog Rows.fnExactEndOverRow.wrapper Rows.fnExactEndOverRow.mainSum := by
  unfold Func.isWrapper; first | (rw [if_pos (by decide +kernel)]; kernel_rfl) | (rw [if_neg (by decide +kernel)]; exact ⟨rfl, rfl⟩)
set_option maxRecDepth 100000 in
theorem lifted (os : Os) (started : os.Started) (H : Type) (enc : TypeId × Value → H) :
    ReturnsInHanded {} Try.checked os 9 .any (Rows.fnExactEndOverSpec.pre6 enc Try.prog Try.f9 Rows.fnExactEndOverRow.domain false) (Rows.fnExactEndOverSpec.post enc Try.prog Try.f9 false true false false) := by
  refine returnsInHanded_of_change_sized (C := Try.checked) own started (by kernel_rfl) Try.func9
    (ChangeSpec.witness6 (enc := enc) (C := Try.checked) false ⟨#[], #[.agg #[.int .i64 0, .int .i64 0, .int .i64 0, .int .i64 0, .int .i64 0, .int .i64 0, .int .i64 0, .slice none 0 0, .int .i64 0, .int .i64 0, .slice none 0 0, .int .i64 0, .int .i64 0, .slice none 0 0, .slice none 0 0, .bool false, .bool false, .bool false, .int .i64 0, .int .i64 0, .int .i64 0, .int .i64 0, .int .i64 0, .int .i64 0]], []⟩ 8 (by kernel_rfl) (by kernel_rfl) (by kernel_rfl) (by kernel_rfl)) ?_
  intro W base args ds gs before hval0 hW hcnd hsz0 _
  have hval : ∀ (j : Nat) t v, Try.f9.params[j]? = some t → args[j]? = some v → Value.okWide Try.prog W .any base t v := hval0
  have hW' := hW
  obtain ⟨p, q, hA0, hV, rfl, hfz, hnd⟩ := hW
  have hA : DataW.TrodAll enc Try.prog W 0 (fun _ => true) true Try.f9.params.toList args.toList ds p := hA0
  rw [Try.params9] at hA hval
  obtain ⟨v0, vs0, d0, ds0, p0, q0, hargs, rfl, rfl, h0, r0⟩ := trodAll_cons hA
  obtain ⟨rfl, rfl, rfl⟩ := trodAll_nil r0
  obtain rfl : args = #[v0] := by cases args; simp_all
  obtain ⟨rfl, rfl⟩ := trodVars_none hV
  have k0 := h0
  have lt0 : ∀ x ∈ p0, x.block < W.heap.size := by obtain ⟨m, hm⟩ := k0; exact DataW.trod_lt m _ _ _ hm
  obtain ⟨av0, m0, w0⟩ := Sx.struct_arg Try.underlying68 Sx.o68 (hval 0 68 v0 rfl rfl) h0
  obtain ⟨x0, rfl, f0⟩ := Sx.end_of m0
  clear hA0 hval0 hsz0
  refine (Sx.law_args (f := 9) (Sx.law9 x0 f0) rfl (fun j x u hx hu => ?_)).mono fun e W' ⟨he, bel⟩ => ?_
  · cases j with
    | zero =>
      simp at hx hu; subst hx; subst hu; exact w0
    | succ j =>
      simp at hx
  subst he
  exact ⟨_, rfl, _, _, _, [], _, [], hW', trodAll_mk1 (shut_bool Try.underlying4 _), (trodAll_cons_mk (Below.trod laidOut (by kernel_rfl) (of_decide_eq_true (by kernel_rfl)) k0 bel lt0) trodAll_mk0), rfl, bel.frame _, fun h => by cases h⟩
theorem over : Rows.fnExactEndOverRow.holds Try.pinned (OpenSpec.ofChange Rows.fnExactEndOverSpec) :=
  OpenClaim.holds_of_wide 9 Try.f9 rfl rfl rfl rfl rfl rfl rfl ⟨rfl, rfl, rfl, rfl, rfl⟩ rfl rfl rfl rfl rfl named Try.func9 closed inst wrap
    (fun os started H enc _ => lifted os started H enc)
theorem proved : Rows.FnExactEndOverSaid := over
end Go.Proofs.Ytpeejmolbmhjjaa.fnExactEndOver
namespace Go.Proofs.Ytpeejmolbmhjjaa
/-- The row, under a short name, for the claim. -/
theorem fnExactEndOver_holds : Rows.FnExactEndOverSaid := fnExactEndOver.proved
#print axioms fnExactEndOver_holds
end Go.Proofs.Ytpeejmolbmhjjaa
