/- The law FnExactNameOk holds: for all arguments, the call of FnExactNameOk returns true and leaves its arguments as they were; there is no condition beyond the given row. -/
import Derived.Test.YtmgnmgobibpjjaaRows
import Derived.Test.YtmgnmgobibpjjaaShpFnExactNameOk
import Derived.Test.YtmgnmgobibpjjaaPureFnExactNameOk
import Derived.WalkKit
import Derived.ProofKit
import Derived.OpenShut
import Derived.ShutString
import Derived.ChangeOld
import Derived.Below
import Derived.SizedLaws
namespace Go.Proofs.Ytmgnmgobibpjjaa.fnExactNameOk
open Go.ChangeShapes Go.WideShapes Go.ChangeAt Go.RowKit Go.Proofs.Ytmgnmgobibpjjaa.Opn Go.Proofs.YtmgnmgobibpjjaaU.PrintWords
open Go.ChangeMaps (open_string shut_string)
set_option linter.unusedVariables false
theorem own : ownKnob Try.prog.godebug = none := by kernel_rfl
theorem laidOut : laidOutB Try.prog = true := by kernel_rfl
set_option maxHeartbeats 8000000 in
set_option maxRecDepth 100000 in
theorem lifted (os : Os) (started : os.Started) (H : Type) (enc : TypeId × Value → H) :
    ReturnsInHanded {} Try.checked os 3 .any (Rows.fnExactNameOkSpec.pre6 enc Try.prog Try.f3 Rows.fnExactNameOkRow.domain false) (Rows.fnExactNameOkSpec.post enc Try.prog Try.f3 false true false false) := by
  refine returnsInHanded_of_change_sized (C := Try.checked) own started (by kernel_rfl) Try.func3
    (ChangeSpec.witness6 (enc := enc) (C := Try.checked) false ⟨#[], #[.agg #[.string ByteArray.empty, .int .i64 0, .int .i64 0, .string ByteArray.empty, .int .i64 0]], []⟩ 8 (by kernel_rfl) (by kernel_rfl) (by kernel_rfl) (by kernel_rfl)) ?_
  intro W base args ds gs before hval0 hW hcnd hsz0 _
  have hval : ∀ (j : Nat) t v, Try.f3.params[j]? = some t → args[j]? = some v → Value.okWide Try.prog W .any base t v := hval0
  have hW' := hW
  obtain ⟨p, q, hA0, hV, rfl, hfz, hnd⟩ := hW
  have hA : DataW.TrodAll enc Try.prog W 0 (fun _ => true) true Try.f3.params.toList args.toList ds p := hA0
  rw [Try.params3] at hA hval
  obtain ⟨v0, vs0, d0, ds0, p0, q0, hargs, rfl, rfl, h0, r0⟩ := trodAll_cons hA
  obtain ⟨rfl, rfl, rfl⟩ := trodAll_nil r0
  obtain rfl : args = #[v0] := by cases args; simp_all
  obtain ⟨rfl, rfl⟩ := trodVars_none hV
  have k0 := h0
  have lt0 : ∀ x ∈ p0, x.block < W.heap.size := by obtain ⟨m, hm⟩ := k0; exact DataW.trod_lt m _ _ _ hm
  obtain ⟨⟨cs0⟩, rfl, hsz0⟩ := okWide_struct Try.underlying23 (hval 0 23 v0 rfl rfl)
  obtain ⟨fu0, hf0⟩ := h0
  obtain ⟨⟨a0_0, a0_1, a0_2, a0_3, a0_4⟩, hK0, hw0⟩ := ShpFnExactNameOk.o23 _ _ _ _ _ _ _ _ _ hf0
  obtain ⟨_, _, hcs0, rfl, ⟨_, _, rfl, rfl, ⟨_, _, rfl, rfl, ⟨_, _, rfl, rfl, rfl⟩⟩⟩⟩ := hK0
  simp only [Value.cells, List.cons_append, List.nil_append] at hcs0
  subst hcs0
  obtain ⟨hw0_0, hw0_1, hw0_2, hw0_3, hw0_4⟩ := hw0
  obtain ⟨k, hp⟩ := Pure.FnExactNameOk a0_0 a0_1 a0_2 a0_3 a0_4 hw0_0 hw0_1 hw0_2 hw0_3 hw0_4
  refine (GFnExactNameOk.laws_FnExactNameOk.calls (k := k) (r := true) (w := W) (h := hp)).mono fun e W' ⟨he, bel⟩ => ?_
  subst he
  exact ⟨_, rfl, _, _, _, [], _, [], hW', trodAll_mk1 (shut_bool Try.underlying4 _), (trodAll_cons_mk (Below.trod laidOut (by kernel_rfl) (of_decide_eq_true (by kernel_rfl)) k0 bel lt0) trodAll_mk0), rfl, bel.frame _, fun h => by cases h⟩
theorem over : Rows.fnExactNameOkRow.holds Try.pinned (OpenSpec.ofChange Rows.fnExactNameOkSpec) :=
  OpenClaim.holds_of_wide 3 Try.f3 rfl rfl rfl rfl rfl rfl rfl ⟨rfl, rfl, rfl, rfl, rfl⟩ rfl rfl rfl rfl rfl (by kernel_rfl) Try.func3 (by kernel_rfl)
    (of_decide_eq_true (by kernel_rfl)) (by unfold Func.isWrapper; first | (rw [if_pos (by decide +kernel)]; kernel_rfl) | (rw [if_neg (by decide +kernel)]; exact ⟨rfl, rfl⟩))
    (fun os started H enc _ => lifted os started H enc)
theorem proved : Rows.FnExactNameOkSaid := over
end Go.Proofs.Ytmgnmgobibpjjaa.fnExactNameOk
namespace Go.Proofs.Ytmgnmgobibpjjaa
/-- The row, under a short name, for the claim. -/
theorem fnExactNameOk_holds : Rows.FnExactNameOkSaid := fnExactNameOk.proved
end Go.Proofs.Ytmgnmgobibpjjaa
