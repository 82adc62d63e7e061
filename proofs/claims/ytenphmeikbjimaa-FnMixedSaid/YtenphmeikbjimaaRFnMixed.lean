/- The law FnMixed holds: for all arguments, the call of FnMixed returns true and leaves its arguments as they were; there is no condition beyond the given row. -/
import Derived.Test.YtenphmeikbjimaaR0
import Derived.Test.YtenphmeikbjimaaM2
import Derived.Test.YtenphmeikbjimaaFacts
namespace Go.Proofs.Ytenphmeikbjimaa.fnMixed
set_option linter.unusedSimpArgs false
open Go Go.ChangeShapes Go.WideShapes Go.ChangeAt Go.RowKit
open Go.ChangeMaps (open_string shut_string)
set_option linter.unusedVariables false
theorem own : ownKnob Try.prog.godebug = none := by kernel_rfl
theorem laidOut : laidOutB Try.prog = true := Facts.laid
set_option maxRecDepth 100000 in
theorem c1 : (Rows.fnMixedRow.inPlace == Try.prog.inPlace 3) = true := by kernel_rfl
set_option maxRecDepth 100000 in
theorem c2 : (Rows.fnMixedRow.unfollowed == Try.prog.unfollowed 3) = true := by kernel_rfl
set_option maxRecDepth 100000 in
theorem c3 : (Rows.fnMixedRow.recurses == Try.prog.recurses 3) = true := by kernel_rfl
set_option maxRecDepth 100000 in
theorem c4 : (Rows.fnMixedRow.named == Try.prog.varsNamed 3) = true := by kernel_rfl
theorem c5 : (Rows.fnMixedRow.lifted == Try.prog.liftsFinal) = true := Facts.lifted
theorem c6 : (Try.prog.make == some Rows.fnMixedRow.make) = true := Facts.make
theorem c7 : (Rows.fnMixedRow.plainKeys == Try.prog.plainKeys) = true := Facts.keys
set_option maxRecDepth 100000 in
theorem closed : joinedFacts Try.prog 3 Try.f3 Rows.fnMixedSpec Rows.fnMixedRow = true := by
  unfold joinedFacts
  rw [c1, c2, c3, c4, c5, c6, c7, Facts.heard, Facts.may, Facts.stops, Facts.knobs, Facts.laid]
  kernel_rfl
set_option maxRecDepth 100000 in
theorem named : Try.prog.funcNamed Rows.fnMixedRow.func = some 3 := by kernel_rfl
set_option maxRecDepth 100000 in
theorem inst : Try.f3.isInstance Try.prog Rows.fnMixedRow.origin Rows.fnMixedRow.targs := of_decide_eq_true (by kernel_rfl)
set_option maxRecDepth 100000 in
theorem wrap : Try.f3.isWrapper Try.prog Rows.fnMixedRow.wrapper Rows.fnMixedRow.mainSum := by
  unfold Func.isWrapper; first | (rw [if_pos (by decide +kernel)]; kernel_rfl) | (rw [if_neg (by decide +kernel)]; exact ⟨rfl, rfl⟩)
set_option maxRecDepth 100000 in
theorem lifted (os : Os) (started : os.Started) (H : Type) (enc : TypeId × Value → H) :
    ReturnsInHanded {} Try.checked os 3 .any (Rows.fnMixedSpec.pre6 enc Try.prog Try.f3 Rows.fnMixedRow.domain false) (Rows.fnMixedSpec.post enc Try.prog Try.f3 false true false false) := by
  refine returnsInHanded_of_change_sized (C := Try.checked) own started (by kernel_rfl) Try.func3
    (ChangeSpec.witness6 (enc := enc) (C := Try.checked) false ⟨#[], #[.slice none 0 0], []⟩ 8 (by kernel_rfl) (by kernel_rfl) (by kernel_rfl) (by kernel_rfl)) ?_
  intro W base args ds gs before hval0 hW hcnd hsz0 _
  have hval : ∀ (j : Nat) t v, Try.f3.params[j]? = some t → args[j]? = some v → Value.okWide Try.prog W .any base t v := hval0
  have hW' := hW
  obtain ⟨p, q, hA0, hV, rfl, hfz, hnd⟩ := hW
  have hA : DataW.TrodAll enc Try.prog W 0 (fun _ => true) true Try.f3.params.toList args.toList ds p := hA0
  rw [Try.params3] at hA hval
  obtain ⟨v0, vs0, d0, ds0, p0, q0, hargs, rfl, rfl, h0, r0⟩ := trodAll_cons hA
  obtain ⟨rfl, rfl, rfl⟩ := trodAll_nil r0
  obtain rfl : args = #[v0] := by cases args; simp_all
  obtain ⟨rfl, rfl⟩ := trodVars_none hV
  have ok0 := hval 0 22 v0 rfl rfl
  obtain ⟨a0, len0, cap0, rfl⟩ := okWide_slice Try.underlying22 ok0
  have k0 := h0
  have lt0 : ∀ x ∈ p0, x.block < W.heap.size := by obtain ⟨m, hm⟩ := k0; exact DataW.trod_lt m _ _ _ hm
  obtain ⟨z0, w0⟩ : ∃ zs, Sx.IsRow .u8 W a0 len0 cap0 zs := by
    obtain ⟨fuel, hf⟩ := h0
    rcases open_ints Try.underlying22 Try.underlying5 (by kernel_rfl) hf with ⟨hcs, _⟩ | ⟨x, l, c, zs, hcs, _, hl, hm, hz, _, hcell, hwz⟩
    · simp [Value.cells] at hcs
      obtain ⟨rfl, rfl, rfl⟩ := hcs
      exact ⟨[], .inl ⟨rfl, rfl, rfl, rfl⟩⟩
    · simp [Value.cells] at hcs
      obtain ⟨rfl, rfl, rfl⟩ := hcs
      have hs : x.spot = none := by
        simp only [Value.okWide, Try.underlying22, Cell.okWide, Cell.ok, World.has] at ok0
        exact ok0.2.2.2.1
      exact ⟨zs, .inr ⟨_, rfl, hs, hl, by simpa using hz, hcell, hwz⟩⟩
  clear hA0 hval0 hsz0
  refine (Sx.law_bytes (f := 3) (fun l h => Sx.law3 l h) w0).mono fun e W' ⟨he, bel⟩ => ?_
  subst he
  exact ⟨_, rfl, _, _, _, [], _, [], hW', trodAll_mk1 (shut_bool Try.underlying4 _), (trodAll_cons_mk (Below.trod laidOut (by kernel_rfl) (of_decide_eq_true (by kernel_rfl)) k0 bel lt0) trodAll_mk0), rfl, bel.frame _, fun h => by cases h⟩
theorem over : Rows.fnMixedRow.holds Try.pinned (OpenSpec.ofChange Rows.fnMixedSpec) :=
  OpenClaim.holds_of_wide 3 Try.f3 rfl rfl rfl rfl rfl rfl rfl ⟨rfl, rfl, rfl, rfl, rfl⟩ rfl rfl rfl rfl rfl named Try.func3 closed inst wrap
    (fun os started H enc _ => lifted os started H enc)
theorem proved : Rows.FnMixedSaid := over
end Go.Proofs.Ytenphmeikbjimaa.fnMixed
namespace Go.Proofs.Ytenphmeikbjimaa
/-- The row, under a short name, for the claim. -/
theorem fnMixed_holds : Rows.FnMixedSaid := fnMixed.proved
#print axioms fnMixed_holds
end Go.Proofs.Ytenphmeikbjimaa
