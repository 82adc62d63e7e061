/- From what the reading says of a law to the call's own contract, for a law of bytes; there is no condition beyond those each statement names. -/
import Derived.Test.YtenphmeikbjimaaM0
import Derived.Test.YtenphmeikbjimaaRows
import Derived.WalkKit
import Derived.ProofKit
import Derived.OpenShut
import Derived.ShutString
import Derived.ChangeOld
import Derived.Below
import Derived.SizedLaws
namespace Go.Proofs.Ytenphmeikbjimaa.Sx
set_option linter.unusedSimpArgs false
set_option linter.unusedVariables false
open Go Go.RowKit Go.ChangeShapes Go.ChangeAt
set_option maxRecDepth 100000
def IsRow (k : IntKind) (w : World) (a : Option Addr) (len cap : Nat) (zs : List Int) : Prop :=
  (a = none ∧ len = 0 ∧ cap = 0 ∧ zs = []) ∨
  ∃ x, a = some x ∧ x.spot = none ∧ len ≤ cap ∧ zs.length = cap ∧ (∀ i, i < zs.length → w.cell? (x.add i) = some (.int k (zs.getD i 0))) ∧ ∀ n ∈ zs, (Lit.int k n).wf = true
theorem add_addr {x : Addr} (h : x.spot = none) (i : Nat) : x.add i = ⟨x.block, x.off + i, none⟩ := by
  unfold Addr.add
  split
  · next h2 => subst h2; cases x; simp_all
  · rfl
theorem cells5 : Try.prog.cellsOf 5 = 1 := by kernel_rfl
theorem rep_bytes {W : World} {a : Option Addr} {len cap : Nat} {zs : List Int} {β : Nat → Nat} {U : Nat → Bool} (h : IsRow .u8 W a len cap zs) :
    Rep Try.prog (fun _ _ => False) β U W (.lst 0 0 5 (bytes (zs.take len))) (.slice a len cap) := by
  rcases h with ⟨rfl, rfl, rfl, rfl⟩ | ⟨x, rfl, hs, hl, hz, hc, _⟩
  · exact .nil 0 0 5
  obtain ⟨blk, off, sp⟩ := x
  dsimp only at hs
  subst hs
  have hlen : (bytes (zs.take len)).length = len := by simp; omega
  have hel : ∀ (j c : Nat) (xs : List AV) (y : AV), (bytes (zs.take len))[j]? = some xs → xs[c]? = some y → c = 0 ∧ j < zs.length ∧ y = .i .u8 (zs.getD j 0) := by
    intro j c xs y hj hy
    simp only [bytes, List.getElem?_map, Option.map_eq_some_iff] at hj
    obtain ⟨z, hz1, rfl⟩ := hj
    cases c with
    | succ c => simp at hy
    | zero =>
      have hj2 : zs[j]? = some z := by
        rw [List.getElem?_take] at hz1
        split at hz1
        · exact hz1
        · cases hz1
      refine ⟨rfl, (List.getElem?_eq_some_iff.1 hj2).1, ?_⟩
      simp only [List.getElem?_cons_zero, Option.some.injEq] at hy
      rw [← hy, List.getD, hj2]; rfl
  have := Rep.lst (P := Try.prog) (F := fun _ _ => False) (β := β) (U := U) (w := W) 0 0 5 (bytes (zs.take len)) blk off cap (fun j _ => .int .u8 (zs.getD j 0)) (by omega)
    (fun xs hx => by
      rw [cells5]
      simp only [bytes, List.mem_map] at hx
      obtain ⟨z, _, rfl⟩ := hx
      rfl)
    (fun j c xs y hj hy => by
      obtain ⟨rfl, h2, rfl⟩ := hel j c xs y hj hy
      refine ⟨rfl, ?_, fun h => h⟩
      have := hc j h2
      rw [add_addr rfl] at this
      rw [cells5]
      simpa using this)
    (fun j c xs y hj hy => by
      obtain ⟨rfl, h2, rfl⟩ := hel j c xs y hj hy
      exact .i .u8 _)
  rw [hlen] at this
  exact this
theorem law_bytes {f : FuncId} (h : ∀ l : List Int, (∀ x ∈ l, 0 ≤ x ∧ x ≤ 255) → FnM Try.prog f [] [(false, [.lst 0 0 5 (bytes l)])] fun o => o = { res := .pv (false, [.b true]) })
    {W : World} {a : Option Addr} {len cap : Nat} {zs : List Int} (hr : IsRow .u8 W a len cap zs) :
    Calls Try.prog f #[.slice a len cap] W fun e W' => e = .returned (.bool true) ∧ Below W.heap.size W W' := by
  have hb : ∀ x ∈ zs.take len, 0 ≤ x ∧ x ≤ 255 := by
    intro x hx
    have hx := List.mem_of_mem_take hx
    rcases hr with ⟨_, _, _, rfl⟩ | ⟨_, _, _, _, _, _, h7⟩
    · cases hx
    · have := h7 x hx
      simp [Lit.wf, IntKind.min, IntKind.max, IntKind.signed, IntKind.bits] at this
      omega
  refine ((h _ hb).2 (fun _ _ => False) id (fun _ => false) W #[.slice a len cap] (fun _ _ h => h.elim) rfl (fun p hp => by cases hp) (fun p hp => by cases hp) rfl (fun j x u hx hu => ?_)).mono ?_
  · cases j with
    | zero =>
      obtain rfl : x = (false, [.lst 0 0 5 (bytes (zs.take len))]) := by simpa using hx.symm
      obtain rfl : u = .slice a len cap := by simpa using hu.symm
      refine ⟨⟨rfl, fun j y z hy hz => ?_⟩, fun h => (nomatch h), fun _ => rfl⟩
      cases j with
      | zero =>
        obtain rfl : y = .lst 0 0 5 (bytes (zs.take len)) := by simpa using hy.symm
        obtain rfl : z = .slice a len cap := by simpa [Value.cells] using hz.symm
        exact rep_bytes hr
      | succ j => simp at hy
    | succ j => simp at hx
  · rintro e W' ⟨v, o, F', bn, τ, rfl, rfl, hret⟩
    have h1 := (RepP.one_inv hret.res).2.1
    refine ⟨?_, hret.os, hret.tape, hret.out, hret.size, fun k hk => hret.block k hk fun p hp => by cases hp⟩
    cases h1
    rfl
end Go.Proofs.Ytenphmeikbjimaa.Sx
