/- The kinds of the arguments of FnExactKeptFind, and that what is read of each is a value of its kind; there is no condition beyond the types' own tables. -/
import Derived.Test.YtmgnmgobibpjjaaGFnExactKeptFindx15
import Derived.Test.YtmgnmgobibpjjaaOVExactKeptFind
set_option linter.unusedVariables false
namespace Go.Proofs.Ytmgnmgobibpjjaa.ShpFnExactKeptFind
open Go.RowKit Go.ChangeShapes Go.WideShapes Go.Proofs.YtmgnmgobibpjjaaVExactKeptFind.PrintWords Go.Proofs.Ytmgnmgobibpjjaa.Opn Go.Proofs.Ytmgnmgobibpjjaa.GFnExactKeptFind
theorem o9 : Opens Try.prog 9 Kd.string (fun s : ByteArray => s.size ≤ maxLen) := opens_string Try.underlying9
theorem o3 : Opens Try.prog 3 (Kd.int .i64) (fun n : Int => (Lit.int .i64 n).wf = true) := opens_int Try.underlying3
def W23 (x : (ByteArray × Int × Int × ByteArray × Int)) : Prop := (fun s : ByteArray => s.size ≤ maxLen) (x.1) ∧ (fun n : Int => (Lit.int .i64 n).wf = true) (x.2.1) ∧ (fun n : Int => (Lit.int .i64 n).wf = true) (x.2.2.1) ∧ (fun s : ByteArray => s.size ≤ maxLen) (x.2.2.2.1) ∧ (fun n : Int => (Lit.int .i64 n).wf = true) (x.2.2.2.2)
def W23e (x : S23) : Prop := W23 (x.f0, x.f1, x.f2, x.f3, x.f4)
theorem o23e : Opens Try.prog 23 k23 W23e := by
  have h_ := opens_struct Try.underlying23 (opensF_cons o9 rfl (by kernel_rfl) (opensF_cons o3 rfl (by kernel_rfl) (opensF_cons o3 rfl (by kernel_rfl) (opensF_cons o9 rfl (by kernel_rfl) (opensF_one o3 rfl (by kernel_rfl)))))) (by kernel_rfl) (fun x : S23 => (x.f0, x.f1, x.f2, x.f3, x.f4)) (fun a => ⟨a.1, a.2.1, a.2.2.1, a.2.2.2.1, a.2.2.2.2⟩) (fun _ => rfl)
  exact h_
def W81e (x : S81) : Prop := W23e x.f0 ∧ (fun n : Int => (Lit.int .i64 n).wf = true) x.f1
theorem o81e : Opens Try.prog 81 k81 W81e := by
  have h_ := opens_struct Try.underlying81 (opensF_cons o23e rfl (by kernel_rfl) (opensF_one o3 rfl (by kernel_rfl))) (by kernel_rfl) (fun x : S81 => (x.f0, x.f1)) (fun a => ⟨a.1, a.2⟩) (fun _ => rfl)
  exact h_
def W45 (xs : (List S81)) : Prop := xs.length ≤ maxLen ∧ ∀ x ∈ xs, W81e x
theorem o45 : Opens Try.prog 45 (Kd.slice 81 k81) W45 := opens_slice Try.underlying45 o81e (by kernel_rfl) 81
def W33 (xs : (List S23)) : Prop := xs.length ≤ maxLen ∧ ∀ x ∈ xs, W23e x
theorem o33 : Opens Try.prog 33 (Kd.slice 23 k23) W33 := opens_slice Try.underlying33 o23e (by kernel_rfl) 23
/-- The plain statement of the law. -/
def Pure : Prop := ∀ (l0 : (List S81)) (l1 : (List S23)) (a2 : ByteArray) (a3 : Int), W45 l0 → W33 l1 → a2.size ≤ maxLen → (Lit.int .i64 a3).wf = true → ∃ k, laws_FnExactKeptFind.f k l0 l1 a2 a3 = some true
end Go.Proofs.Ytmgnmgobibpjjaa.ShpFnExactKeptFind
