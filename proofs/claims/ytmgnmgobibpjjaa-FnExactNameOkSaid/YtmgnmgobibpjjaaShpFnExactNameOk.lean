/- The kinds of the arguments of FnExactNameOk, and that what is read of each is a value of its kind; there is no condition beyond the types' own tables. -/
import Derived.Test.YtmgnmgobibpjjaaGFnExactNameOkx2
import Derived.Test.YtmgnmgobibpjjaaOpen
set_option linter.unusedVariables false
namespace Go.Proofs.Ytmgnmgobibpjjaa.ShpFnExactNameOk
open Go.RowKit Go.ChangeShapes Go.WideShapes Go.Proofs.YtmgnmgobibpjjaaU.PrintWords Go.Proofs.Ytmgnmgobibpjjaa.Opn Go.Proofs.Ytmgnmgobibpjjaa.GFnExactNameOk
theorem o9 : Opens Try.prog 9 Kd.string (fun s : ByteArray => s.size ≤ maxLen) := opens_string Try.underlying9
theorem o3 : Opens Try.prog 3 (Kd.int .i64) (fun n : Int => (Lit.int .i64 n).wf = true) := opens_int Try.underlying3
def W23 (x : (ByteArray × Int × Int × ByteArray × Int)) : Prop := (fun s : ByteArray => s.size ≤ maxLen) (x.1) ∧ (fun n : Int => (Lit.int .i64 n).wf = true) (x.2.1) ∧ (fun n : Int => (Lit.int .i64 n).wf = true) (x.2.2.1) ∧ (fun s : ByteArray => s.size ≤ maxLen) (x.2.2.2.1) ∧ (fun n : Int => (Lit.int .i64 n).wf = true) (x.2.2.2.2)
theorem o23 : Opens Try.prog 23 (Kd.pair Kd.string (Kd.pair (Kd.int .i64) (Kd.pair (Kd.int .i64) (Kd.pair Kd.string (Kd.int .i64))))) W23 := by
  have h_ := opens_structP Try.underlying23 (opensF_cons o9 rfl (by kernel_rfl) (opensF_cons o3 rfl (by kernel_rfl) (opensF_cons o3 rfl (by kernel_rfl) (opensF_cons o9 rfl (by kernel_rfl) (opensF_one o3 rfl (by kernel_rfl)))))) (by kernel_rfl)
  exact h_
/-- The plain statement of the law. -/
def Pure : Prop := ∀ (a0_0 : ByteArray) (a0_1 : Int) (a0_2 : Int) (a0_3 : ByteArray) (a0_4 : Int), a0_0.size ≤ maxLen → (Lit.int .i64 a0_1).wf = true → (Lit.int .i64 a0_2).wf = true → a0_3.size ≤ maxLen → (Lit.int .i64 a0_4).wf = true → ∃ k, laws_FnExactNameOk.f k a0_0 a0_1 a0_2 a0_3 a0_4 = some true
end Go.Proofs.Ytmgnmgobibpjjaa.ShpFnExactNameOk
