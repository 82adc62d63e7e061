/- The law FnExactClockTook holds: for all arguments, the call of FnExactClockTook returns true and leaves its arguments as they were; there is no condition beyond the given row. -/
import Derived.Test.YtkhjpkholpclhaaRows
import Derived.Test.YtkhjpkholpclhaaShpFnExactClockTook
import Derived.Test.YtkhjpkholpclhaaPureFnExactClockTook
import Derived.WalkKit
import Derived.ProofKit
import Derived.OpenShut
import Derived.ShutString
import Derived.ChangeOld
import Derived.Below
import Derived.SizedLaws
namespace Go.Proofs.Ytkhjpkholpclhaa.fnExactClockTook
open Go.ChangeShapes Go.WideShapes Go.ChangeAt Go.RowKit Go.Proofs.Ytkhjpkholpclhaa.Opn Go.Proofs.YtkhjpkholpclhaaW.PrintWords
open Go.ChangeMaps (open_string shut_string)
set_option linter.unusedVariables false
theorem own : ownKnob Try.prog.godebug = none := by kernel_rfl
theorem laidOut : laidOutB Try.prog = true := by kernel_rfl
set_option maxHeartbeats 8000000 in
set_option maxRecDepth 100000 in
theorem lifted (os : Os) (started : os.Started) (H : Type) (enc : TypeId × Value → H) :
    ReturnsInHanded {} Try.checked os 7 .any (Rows.fnExactClockTookSpec.pre6 enc Try.prog Try.f7 Rows.fnExactClockTookRow.domain false) (Rows.fnExactClockTookSpec.post enc Try.prog Try.f7 false true false false) := by
  refine returnsInHanded_of_change_sized (C := Try.checked) own started (by kernel_rfl) Try.func7
    (ChangeSpec.witness6 (enc := enc) (C := Try.checked) false ⟨#[], #[.agg #[.int .i64 0, .int .i64 0, .int .i64 0], .int .i64 0], []⟩ 8 (by kernel_rfl) (by kernel_rfl) (by kernel_rfl) (by kernel_rfl)) ?_
  intro W base args ds gs before hval0 hW hcnd hsz0 _
  have hval : ∀ (j : Nat) t v, Try.f7.params[j]? = some t → args[j]? = some v → Value.okWide Try.prog W .any base t v := hval0
  have hW' := hW
  obtain ⟨p, q, hA0, hV, rfl, hfz, hnd⟩ := hW
  have hA : DataW.TrodAll enc Try.prog W 0 (fun _ => true) true Try.f7.params.toList args.toList ds p := hA0
  rw [Try.params7] at hA hval
  obtain ⟨v0, vs0, d0, ds0, p0, q0, hargs, rfl, rfl, h0, r0⟩ := trodAll_cons hA
  obtain ⟨v1, vs1, d1, ds1, p1, q1, rfl, rfl, rfl, h1, r1⟩ := trodAll_cons r0
  obtain ⟨rfl, rfl, rfl⟩ := trodAll_nil r1
  obtain rfl : args = #[v0, v1] := by cases args; simp_all
  obtain ⟨rfl, rfl⟩ := trodVars_none hV
  have k0 := h0
  have lt0 : ∀ x ∈ p0, x.block < W.heap.size := by obtain ⟨m, hm⟩ := k0; exact DataW.trod_lt m _ _ _ hm
  obtain ⟨⟨cs0⟩, rfl, hsz0⟩ := okWide_struct Try.underlying29 (hval 0 29 v0 rfl rfl)
  obtain ⟨fu0, hf0⟩ := h0
  obtain ⟨⟨a0_0, a0_1, a0_2⟩, hK0, hw0⟩ := ShpFnExactClockTook.o29 _ _ _ _ _ _ _ _ _ hf0
  obtain ⟨_, _, hcs0, rfl, ⟨_, _, rfl, rfl, rfl⟩⟩ := hK0
  simp only [Value.cells, List.cons_append, List.nil_append] at hcs0
  subst hcs0
  obtain ⟨hw0_0, hw0_1, hw0_2⟩ := hw0
  have k1 := h1
  have lt1 : ∀ x ∈ p1, x.block < W.heap.size := by obtain ⟨m, hm⟩ := k1; exact DataW.trod_lt m _ _ _ hm
  obtain ⟨iv1, rfl⟩ := okWide_int Try.underlying3 (hval 1 3 v1 rfl rfl)
  obtain ⟨fu1, hf1⟩ := h1
  obtain ⟨a1, hK1, hw1⟩ := ShpFnExactClockTook.o3 _ _ _ _ _ _ _ _ _ hf1
  obtain rfl : a1 = iv1 := by have e_ : [_] = [_] := hK1; simpa [Value.cells, eq_comm] using e_
  obtain ⟨k, hp⟩ := Pure.FnExactClockTook a0_0 a0_1 a0_2 a1 hw0_0 hw0_1 hw0_2 hw1
  refine (PFnExactClockTook.laws_FnExactClockTook.calls (k := k) (r := true) (w := W) (h := hp)).mono fun e W' ⟨he, bel⟩ => ?_
  subst he
  exact ⟨_, rfl, _, _, _, [], _, [], hW', trodAll_mk1 (shut_bool Try.underlying4 _), (trodAll_cons_mk (Below.trod laidOut (by kernel_rfl) (of_decide_eq_true (by kernel_rfl)) k0 bel lt0) (trodAll_cons_mk (Below.trod laidOut (by kernel_rfl) (of_decide_eq_true (by kernel_rfl)) k1 bel lt1) trodAll_mk0)), rfl, bel.frame _, fun h => by cases h⟩
theorem over : Rows.fnExactClockTookRow.holds Try.pinned (OpenSpec.ofChange Rows.fnExactClockTookSpec) :=
  OpenClaim.holds_of_wide 7 Try.f7 rfl rfl rfl rfl rfl rfl rfl ⟨rfl, rfl, rfl, rfl, rfl⟩ rfl rfl rfl rfl rfl (by kernel_rfl) Try.func7 (by kernel_rfl)
    (of_decide_eq_true (by kernel_rfl)) (by unfold Func.isWrapper; first | (rw [if_pos (by decide +kernel)]; kernel_rfl) | (rw [if_neg (by decide +kernel)]; exact ⟨rfl, rfl⟩))
    (fun os started H enc _ => lifted os started H enc)
theorem proved : Rows.FnExactClockTookSaid := over
end Go.Proofs.Ytkhjpkholpclhaa.fnExactClockTook
namespace Go.Proofs.Ytkhjpkholpclhaa
/-- The row, under a short name, for the claim. -/
theorem fnExactClockTook_holds : Rows.FnExactClockTookSaid := fnExactClockTook.proved
end Go.Proofs.Ytkhjpkholpclhaa
