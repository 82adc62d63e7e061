/- The kinds of the arguments of FnExactMouthAgain, and that what is read of each is a value of its kind; there is no condition beyond the types' own tables. -/
import Derived.Test.YtpgimaohkfilfaaGFnExactMouthAgainx8
import Derived.Test.YtpgimaohkfilfaaOpen
set_option linter.unusedVariables false
namespace Go.Proofs.Ytpgimaohkfilfaa.ShpFnExactMouthAgain
open Go.RowKit Go.ChangeShapes Go.WideShapes Go.Proofs.YtpgimaohkfilfaaU.PrintWords Go.Proofs.Ytpgimaohkfilfaa.Opn Go.Proofs.Ytpgimaohkfilfaa.GFnExactMouthAgain
theorem o3 : Opens Try.prog 3 (Kd.int .i64) (fun n : Int => (Lit.int .i64 n).wf = true) := opens_int Try.underlying3
theorem o5 : Opens Try.prog 5 (Kd.int .u8) (fun n : Int => (Lit.int .u8 n).wf = true) := opens_int Try.underlying5
def W22 (xs : (List Int)) : Prop := xs.length ≤ maxLen ∧ ∀ x ∈ xs, (fun n : Int => (Lit.int .u8 n).wf = true) x
theorem o22 : Opens Try.prog 22 (Kd.slice 5 (Kd.int .u8)) W22 := opens_slice Try.underlying22 o5 (by kernel_rfl) 5
def W59 (x : (Int × Int)) : Prop := (fun n : Int => (Lit.int .i64 n).wf = true) (x.1) ∧ (fun n : Int => (Lit.int .i64 n).wf = true) (x.2)
def W59e (x : S59) : Prop := W59 (x.f0, x.f1)
theorem o59e : Opens Try.prog 59 k59 W59e := by
  have h_ := opens_struct Try.underlying59 (opensF_cons o3 rfl (by kernel_rfl) (opensF_one o3 rfl (by kernel_rfl))) (by kernel_rfl) (fun x : S59 => (x.f0, x.f1)) (fun a => ⟨a.1, a.2⟩) (fun _ => rfl)
  exact h_
def W23 (xs : (List S59)) : Prop := xs.length ≤ maxLen ∧ ∀ x ∈ xs, W59e x
theorem o23 : Opens Try.prog 23 (Kd.slice 59 k59) W23 := opens_slice Try.underlying23 o59e (by kernel_rfl) 59
def W25 (x : (Int × (List Int) × Int × Int × (List S59))) : Prop := (fun n : Int => (Lit.int .i64 n).wf = true) (x.1) ∧ W22 (x.2.1) ∧ (fun n : Int => (Lit.int .i64 n).wf = true) (x.2.2.1) ∧ (fun n : Int => (Lit.int .i64 n).wf = true) (x.2.2.2.1) ∧ W23 (x.2.2.2.2)
theorem o25 : Opens Try.prog 25 (Kd.pair (Kd.int .i64) (Kd.pair (Kd.slice 5 (Kd.int .u8)) (Kd.pair (Kd.int .i64) (Kd.pair (Kd.int .i64) (Kd.slice 59 k59))))) W25 := by
  have h_ := opens_structP Try.underlying25 (opensF_cons o3 rfl (by kernel_rfl) (opensF_cons o22 rfl (by kernel_rfl) (opensF_cons o3 rfl (by kernel_rfl) (opensF_cons o3 rfl (by kernel_rfl) (opensF_one o23 rfl (by kernel_rfl)))))) (by kernel_rfl)
  exact h_
/-- The plain statement of the law. -/
def Pure : Prop := ∀ (a0_0 : Int) (l0_1 : (List Int)) (a0_2 : Int) (a0_3 : Int) (l0_4 : (List S59)) (a1 : Int), (Lit.int .i64 a0_0).wf = true → W22 l0_1 → (Lit.int .i64 a0_2).wf = true → (Lit.int .i64 a0_3).wf = true → W23 l0_4 → (Lit.int .i64 a1).wf = true → ∃ k, laws_FnExactMouthAgain.f k a0_0 l0_1 a0_2 a0_3 l0_4 a1 = some true
end Go.Proofs.Ytpgimaohkfilfaa.ShpFnExactMouthAgain
