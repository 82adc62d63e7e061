/- The kinds of the arguments of FnExactClockTook, and that what is read of each is a value of its kind; there is no condition beyond the types' own tables. -/
import Derived.Test.YtkhjpkholpclhaaPFnExactClockTookx2
import Derived.Test.YtkhjpkholpclhaaOpen
set_option linter.unusedVariables false
namespace Go.Proofs.Ytkhjpkholpclhaa.ShpFnExactClockTook
open Go.RowKit Go.ChangeShapes Go.WideShapes Go.Proofs.YtkhjpkholpclhaaW.PrintWords Go.Proofs.Ytkhjpkholpclhaa.Opn Go.Proofs.Ytkhjpkholpclhaa.PFnExactClockTook
theorem o3 : Opens Try.prog 3 (Kd.int .i64) (fun n : Int => (Lit.int .i64 n).wf = true) := opens_int Try.underlying3
def W29 (x : (Int × Int × Int)) : Prop := (fun n : Int => (Lit.int .i64 n).wf = true) (x.1) ∧ (fun n : Int => (Lit.int .i64 n).wf = true) (x.2.1) ∧ (fun n : Int => (Lit.int .i64 n).wf = true) (x.2.2)
theorem o29 : Opens Try.prog 29 (Kd.pair (Kd.int .i64) (Kd.pair (Kd.int .i64) (Kd.int .i64))) W29 := by
  have h_ := opens_structP Try.underlying29 (opensF_cons o3 rfl (by kernel_rfl) (opensF_cons o3 rfl (by kernel_rfl) (opensF_one o3 rfl (by kernel_rfl)))) (by kernel_rfl)
  exact h_
/-- The plain statement of the law. -/
def Pure : Prop := ∀ (a0_0 : Int) (a0_1 : Int) (a0_2 : Int) (a1 : Int), (Lit.int .i64 a0_0).wf = true → (Lit.int .i64 a0_1).wf = true → (Lit.int .i64 a0_2).wf = true → (Lit.int .i64 a1).wf = true → ∃ k, laws_FnExactClockTook.f k a0_0 a0_1 a0_2 a1 = some true
end Go.Proofs.Ytkhjpkholpclhaa.ShpFnExactClockTook
