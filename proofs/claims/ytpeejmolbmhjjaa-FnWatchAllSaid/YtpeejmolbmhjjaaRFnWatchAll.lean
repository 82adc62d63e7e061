/- The law FnWatchAll holds: for all arguments, the call of FnWatchAll returns true and leaves its arguments as they were; there is no condition beyond the given row. -/
import Derived.Test.YtpeejmolbmhjjaaBE0
import Derived.Test.YtpeejmolbmhjjaaBE3
import Derived.Test.YtpeejmolbmhjjaaFacts
namespace Go.Proofs.Ytpeejmolbmhjjaa.fnWatchAll
set_option linter.unusedSimpArgs false
open Go Go.ChangeShapes Go.WideShapes Go.ChangeAt Go.RowKit
open Go.ChangeMaps (open_string shut_string)
set_option linter.unusedVariables false
theorem own : ownKnob Try.prog.godebug = none := by kernel_rfl
theorem laidOut : laidOutB Try.prog = true := Facts.laid
set_option maxRecDepth 100000 in
theorem c1 : (Rows.fnWatchAllRow.inPlace == Try.prog.inPlace 5) = true := by kernel_rfl
set_option maxRecDepth 100000 in
theorem c2 : (Rows.fnWatchAllRow.unfollowed == Try.prog.unfollowed 5) = true := by kernel_rfl
set_option maxRecDepth 100000 in
theorem c3 : (Rows.fnWatchAllRow.recurses == Try.prog.recurses 5) = true := by kernel_rfl
set_option maxRecDepth 100000 in
theorem c4 : (Rows.fnWatchAllRow.named == Try.prog.varsNamed 5) = true := by kernel_rfl
theorem c5 : (Rows.fnWatchAllRow.lifted == Try.prog.liftsFinal) = true := Facts.lifted
theorem c6 : (Try.prog.make == some Rows.fnWatchAllRow.make) = true := Facts.make
theorem c7 : (Rows.fnWatchAllRow.plainKeys == Try.prog.plainKeys) = true := Facts.keys
set_option maxRecDepth 100000 in
theorem closed : joinedFacts Try.prog 5 Try.f5 Rows.fnWatchAllSpec Rows.fnWatchAllRow = true := by
  unfold joinedFacts
  rw [c1, c2, c3, c4, c5, c6, c7, Facts.heard, Facts.may, Facts.stops, Facts.knobs, Facts.laid]
  kernel_rfl
set_option maxRecDepth 100000 in
theorem named : Try.prog.funcNamed Rows.fnWatchAllRow.func = some 5 := by kernel_rfl
set_option maxRecDepth 100000 in
theorem inst : Try.f5.isInstance Try.prog Rows.fnWatchAllRow.origin Rows.fnWatchAllRow.targs := of_decide_eq_true (by kernel_rfl)
set_option maxRecDepth 100000 in
theorem wrap : Try.f5.isWrapper Try.prog Rows.fnWatchAllRow.wrapper Rows.fnWatchAllRow.mainSum := by
  unfold Func.isWrapper; first | (rw [if_pos (by decide +kernel)]; kernel_rfl) | (rw [if_neg (by decide +kernel)]; exact ⟨rfl, rfl⟩)
set_option maxRecDepth 100000 in
theorem lifted (os : Os) (started : os.Started) (H : Type) (enc : TypeId × Value → H) :
    ReturnsInHanded {} Try.checked os 5 .any (Rows.fnWatchAllSpec.pre6 enc Try.prog Try.f5 Rows.fnWatchAllRow.domain false) (Rows.fnWatchAllSpec.post enc Try.prog Try.f5 false true false false) := by
  refine returnsInHanded_of_change_sized (C := Try.checked) own started (by kernel_rfl) Try.func5
    (ChangeSpec.witness6 (enc := enc) (C := Try.checked) false ⟨#[], #[.slice none 0 0], []⟩ 8 (by kernel_rfl) (by kernel_rfl) (by kernel_rfl) (by kernel_rfl)) ?_
  intro W base args ds gs before hval0 hW hcnd hsz0 _
  have hval : ∀ (j : Nat) t v, Try.f5.params[j]? = some t → args[j]? = some v → Value.okWide Try.prog W .any base t v := hval0
  have hW' := hW
  obtain ⟨p, q, hA0, hV, rfl, hfz, hnd⟩ := hW
  have hA : DataW.TrodAll enc Try.prog W 0 (fun _ => true) true Try.f5.params.toList args.toList ds p := hA0
  rw [Try.params5] at hA hval
  obtain ⟨v0, vs0, d0, ds0, p0, q0, hargs, rfl, rfl, h0, r0⟩ := trodAll_cons hA
  obtain ⟨rfl, rfl, rfl⟩ := trodAll_nil r0
  obtain rfl : args = #[v0] := by cases args; simp_all
  obtain ⟨rfl, rfl⟩ := trodVars_none hV
  have ok0 := hval 0 22 v0 rfl rfl
  obtain ⟨a0, len0, cap0, rfl⟩ := okWide_slice Try.underlying22 ok0
  have k0 := h0
  have lt0 : ∀ x ∈ p0, x.block < W.heap.size := by obtain ⟨m, hm⟩ := k0; exact DataW.trod_lt m _ _ _ hm
  obtain ⟨z0, w0⟩ : ∃ zs, Sx.IsRow .u8 W a0 len0 cap0 zs := by
    obtain ⟨fuel, hf⟩ := h0
    rcases open_ints Try.underlying22 Try.underlying5 (by kernel_rfl) hf with ⟨hcs, _⟩ | ⟨x, l, c, zs, hcs, _, hl, hm, hz, _, hcell, hwz⟩
    · simp [Value.cells] at hcs
      obtain ⟨rfl, rfl, rfl⟩ := hcs
      exact ⟨[], .inl ⟨rfl, rfl, rfl, rfl⟩⟩
    · simp [Value.cells] at hcs
      obtain ⟨rfl, rfl, rfl⟩ := hcs
      have hs : x.spot = none := by
        simp only [Value.okWide, Try.underlying22, Cell.okWide, Cell.ok, World.has] at ok0
        exact ok0.2.2.2.1
      exact ⟨zs, .inr ⟨_, rfl, hs, hl, by simpa using hz, hcell, hwz⟩⟩
  clear hA0 hval0 hsz0
  refine (Sx.law_bytes (f := 5) (fun l h => Sx.law5 l h) w0).mono fun e W' ⟨he, bel⟩ => ?_
  subst he
  exact ⟨_, rfl, _, _, _, [], _, [], hW', trodAll_mk1 (shut_bool Try.underlying4 _), (trodAll_cons_mk (Below.trod laidOut (by kernel_rfl) (of_decide_eq_true (by kernel_rfl)) k0 bel lt0) trodAll_mk0), rfl, bel.frame _, fun h => by cases h⟩
theorem over : Rows.fnWatchAllRow.holds Try.pinned (OpenSpec.ofChange Rows.fnWatchAllSpec) :=
  OpenClaim.holds_of_wide 5 Try.f5 rfl rfl rfl rfl rfl rfl rfl ⟨rfl, rfl, rfl, rfl, rfl⟩ rfl rfl rfl rfl rfl named Try.func5 closed inst wrap
    (fun os started H enc _ => lifted os started H enc)
theorem proved : Rows.FnWatchAllSaid := over
end Go.Proofs.Ytpeejmolbmhjjaa.fnWatchAll
namespace Go.Proofs.Ytpeejmolbmhjjaa
/-- The row, under a short name, for the claim. -/
theorem fnWatchAll_holds : Rows.FnWatchAllSaid := fnWatchAll.proved
#print axioms fnWatchAll_holds
end Go.Proofs.Ytpeejmolbmhjjaa
