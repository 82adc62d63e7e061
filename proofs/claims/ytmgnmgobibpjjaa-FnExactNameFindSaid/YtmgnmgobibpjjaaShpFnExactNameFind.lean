/- The kinds of the arguments of FnExactNameFind, and that what is read of each is a value of its kind; there is no condition beyond the types' own tables. -/
import Derived.Test.YtmgnmgobibpjjaaGFnExactNameFindx7
import Derived.Test.YtmgnmgobibpjjaaOpen
set_option linter.unusedVariables false
namespace Go.Proofs.Ytmgnmgobibpjjaa.ShpFnExactNameFind
open Go.RowKit Go.ChangeShapes Go.WideShapes Go.Proofs.YtmgnmgobibpjjaaU.PrintWords Go.Proofs.Ytmgnmgobibpjjaa.Opn Go.Proofs.Ytmgnmgobibpjjaa.GFnExactNameFind
theorem o9 : Opens Try.prog 9 Kd.string (fun s : ByteArray => s.size ≤ maxLen) := opens_string Try.underlying9
theorem o3 : Opens Try.prog 3 (Kd.int .i64) (fun n : Int => (Lit.int .i64 n).wf = true) := opens_int Try.underlying3
def W23 (x : (ByteArray × Int × Int × ByteArray × Int)) : Prop := (fun s : ByteArray => s.size ≤ maxLen) (x.1) ∧ (fun n : Int => (Lit.int .i64 n).wf = true) (x.2.1) ∧ (fun n : Int => (Lit.int .i64 n).wf = true) (x.2.2.1) ∧ (fun s : ByteArray => s.size ≤ maxLen) (x.2.2.2.1) ∧ (fun n : Int => (Lit.int .i64 n).wf = true) (x.2.2.2.2)
def W23e (x : S23) : Prop := W23 (x.f0, x.f1, x.f2, x.f3, x.f4)
theorem o23e : Opens Try.prog 23 k23 W23e := by
  have h_ := opens_struct Try.underlying23 (opensF_cons o9 rfl (by kernel_rfl) (opensF_cons o3 rfl (by kernel_rfl) (opensF_cons o3 rfl (by kernel_rfl) (opensF_cons o9 rfl (by kernel_rfl) (opensF_one o3 rfl (by kernel_rfl)))))) (by kernel_rfl) (fun x : S23 => (x.f0, x.f1, x.f2, x.f3, x.f4)) (fun a => ⟨a.1, a.2.1, a.2.2.1, a.2.2.2.1, a.2.2.2.2⟩) (fun _ => rfl)
  exact h_
def W33 (xs : (List S23)) : Prop := xs.length ≤ maxLen ∧ ∀ x ∈ xs, W23e x
theorem o33 : Opens Try.prog 33 (Kd.slice 23 k23) W33 := opens_slice Try.underlying33 o23e (by kernel_rfl) 23
/-- The plain statement of the law. -/
def Pure : Prop := ∀ (l0 : (List S23)) (a1 : ByteArray), W33 l0 → a1.size ≤ maxLen → ∃ k, laws_FnExactNameFind.f k l0 a1 = some true
end Go.Proofs.Ytmgnmgobibpjjaa.ShpFnExactNameFind
