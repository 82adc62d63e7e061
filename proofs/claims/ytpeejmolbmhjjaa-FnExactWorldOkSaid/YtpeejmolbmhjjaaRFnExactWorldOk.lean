/- The law FnExactWorldOk holds: for all arguments, the call of FnExactWorldOk returns true and leaves its arguments as they were; there is no condition beyond the given row. -/
import Derived.Test.YtpeejmolbmhjjaaBW1
import Derived.Test.YtpeejmolbmhjjaaZFacts
namespace Go.Proofs.Ytpeejmolbmhjjaa.fnExactWorldOk
set_option linter.unusedSimpArgs false
open Go Go.ChangeShapes Go.WideShapes Go.ChangeAt Go.RowKit
open Go.ChangeMaps (open_string shut_string)
set_option linter.unusedVariables false
theorem own : ownKnob Try.prog.godebug = none := by kernel_rfl
theorem laidOut : laidOutB Try.prog = true := Facts.laid
set_option maxRecDepth 100000 in
theorem c1 : (Rows.fnExactWorldOkRow.inPlace == Try.prog.inPlace 13) = true := by kernel_rfl
set_option maxRecDepth 100000 in
theorem c2 : (Rows.fnExactWorldOkRow.unfollowed == Try.prog.unfollowed 13) = true := by kernel_rfl
set_option maxRecDepth 100000 in
theorem c3 : (Rows.fnExactWorldOkRow.recurses == Try.prog.recurses 13) = true := by kernel_rfl
set_option maxRecDepth 100000 in
theorem c4 : (Rows.fnExactWorldOkRow.named == Try.prog.varsNamed 13) = true := by kernel_rfl
theorem c5 : (Rows.fnExactWorldOkRow.lifted == Try.prog.liftsFinal) = true := Facts.lifted
theorem c6 : (Try.prog.make == some Rows.fnExactWorldOkRow.make) = true := Facts.make
theorem c7 : (Rows.fnExactWorldOkRow.plainKeys == Try.prog.plainKeys) = true := Facts.keys
set_option maxRecDepth 100000 in
theorem closed : joinedFacts Try.prog 13 Try.f13 Rows.fnExactWorldOkSpec Rows.fnExactWorldOkRow = true := by
  unfold joinedFacts
  rw [c1, c2, c3, c4, c5, c6, c7, Facts.heard, Facts.may, Facts.stops, Facts.knobs, Facts.laid]
  kernel_rfl
set_option maxRecDepth 100000 in
theorem named : Try.prog.funcNamed Rows.fnExactWorldOkRow.func = some 13 := by kernel_rfl
set_option maxRecDepth 100000 in
theorem inst : Try.f13.isInstance Try.prog Rows.fnExactWorldOkRow.origin Rows.fnExactWorldOkRow.targs := of_decide_eq_true (by kernel_rfl)
set_option maxRecDepth 100000 in
theorem wrap : Try.f13.isWrapper Try.prog Rows.fnExactWorldOkRow.wrapper Rows.fnExactWorldOkRow.mainSum := by
  unfold Func.isWrapper; first | (rw [if_pos (by decide +kernel)]; kernel_rfl) | (rw [if_neg (by decide +kernel)]; exact ⟨rfl, rfl⟩)
set_option maxRecDepth 100000 in
theorem lifted (os : Os) (started : os.Started) (H : Type) (enc : TypeId × Value → H) :
    ReturnsInHanded {} Try.checked os 13 .any (Rows.fnExactWorldOkSpec.pre6 enc Try.prog Try.f13 Rows.fnExactWorldOkRow.domain false) (Rows.fnExactWorldOkSpec.post enc Try.prog Try.f13 false true false false) := by
  refine returnsInHanded_of_change_sized (C := Try.checked) own started (by kernel_rfl) Try.func13
    (ChangeSpec.witness6 (enc := enc) (C := Try.checked) false ⟨#[], #[.agg #[.slice none 0 0, .slice none 0 0, .int .i64 0, .slice none 0 0, .slice none 0 0]], []⟩ 8 (by kernel_rfl) (by kernel_rfl) (by kernel_rfl) (by kernel_rfl)) ?_
  intro W base args ds gs before hval0 hW hcnd hsz0 _
  have hval : ∀ (j : Nat) t v, Try.f13.params[j]? = some t → args[j]? = some v → Value.okWide Try.prog W .any base t v := hval0
  have hW' := hW
  obtain ⟨p, q, hA0, hV, rfl, hfz, hnd⟩ := hW
  have hA : DataW.TrodAll enc Try.prog W 0 (fun _ => true) true Try.f13.params.toList args.toList ds p := hA0
  rw [Try.params13] at hA hval
  obtain ⟨v0, vs0, d0, ds0, p0, q0, hargs, rfl, rfl, h0, r0⟩ := trodAll_cons hA
  obtain ⟨rfl, rfl, rfl⟩ := trodAll_nil r0
  obtain rfl : args = #[v0] := by cases args; simp_all
  obtain ⟨rfl, rfl⟩ := trodVars_none hV
  have k0 := h0
  have lt0 : ∀ x ∈ p0, x.block < W.heap.size := by obtain ⟨m, hm⟩ := k0; exact DataW.trod_lt m _ _ _ hm
  obtain ⟨av0, m0, w0⟩ := Sx.struct_arg Try.underlying80 Sx.o80 (hval 0 80 v0 rfl rfl) h0
  obtain ⟨x0, rfl, f0⟩ := Sx.world_of m0
  clear hA0 hval0 hsz0
  refine (Sx.law_args (f := 13) (Sx.law13 x0 f0) rfl (fun j x u hx hu => ?_)).mono fun e W' ⟨he, bel⟩ => ?_
  · cases j with
    | zero =>
      simp at hx hu; subst hx; subst hu; exact w0
    | succ j =>
      simp at hx
  subst he
  exact ⟨_, rfl, _, _, _, [], _, [], hW', trodAll_mk1 (shut_bool Try.underlying4 _), (trodAll_cons_mk (Below.trod laidOut (by kernel_rfl) (of_decide_eq_true (by kernel_rfl)) k0 bel lt0) trodAll_mk0), rfl, bel.frame _, fun h => by cases h⟩
theorem over : Rows.fnExactWorldOkRow.holds Try.pinned (OpenSpec.ofChange Rows.fnExactWorldOkSpec) :=
  OpenClaim.holds_of_wide 13 Try.f13 rfl rfl rfl rfl rfl rfl rfl ⟨rfl, rfl, rfl, rfl, rfl⟩ rfl rfl rfl rfl rfl named Try.func13 closed inst wrap
    (fun os started H enc _ => lifted os started H enc)
theorem proved : Rows.FnExactWorldOkSaid := over
end Go.Proofs.Ytpeejmolbmhjjaa.fnExactWorldOk
namespace Go.Proofs.Ytpeejmolbmhjjaa
/-- The row, under a short name, for the claim. -/
theorem fnExactWorldOk_holds : Rows.FnExactWorldOkSaid := fnExactWorldOk.proved
#print axioms fnExactWorldOk_holds
end Go.Proofs.Ytpeejmolbmhjjaa
