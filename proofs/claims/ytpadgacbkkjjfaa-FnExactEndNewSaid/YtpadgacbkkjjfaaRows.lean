/-
  No cell of these rows narrows 'for every input' (looked for: loops, veiled, ifaces, maps, wideKeys, modest, calm, conditions, laid).
  DERIVED. THE GIVEN ROWS OF THIS SEAT. 2 by the template 'for every input the law returns true; each argument reads behind the call as it read before'; 0 by the template 'total and deterministic' (their statements: YtpadgacbkkjjfaaTotals.lean).
  GIVEN WITH THE SEED: the statements are not yours to turn. If you find one false, say at which input.
  Laid BY PROGRAM, IN A SANDBOX (cutbox-rows.mjs): the forced cells as the released guide's own fill.sh prints them over the translation 10c013a2f13a173f… (all of the seat's roots in one cut). By AI agents, Wed Nov 11 2026. No macro, syntax, notation, axiom, sorry.
-/
import Derived.Test.YtpadgacbkkjjfaaChecked
import GoSem.Claim
import GoSem.ClaimJoined
import GoSem.ClaimMapViews
import Derived.JoinedTies
import Derived.KernelRfl
namespace Go.Proofs.Ytpadgacbkkjjfaa
/- THE CELL 'sum', in the pinned program and in every row, IS THE sha256 OF THE DUMP (.gsa) THAT YtpadgacbkkjjfaaProg.lean LOADS. Nothing in Lean hashes anything: it is a label: what it is worth is what the hold of that sum in a sandbox is worth. -/
noncomputable def Try.pinned : Pinned := { name := "ytpadgacbkkjjfaa", sum := "10c013a2f13a173f3d797dac4b40b2b87f11413cd3aee8e331ed082b1edcb498", checked := Try.checked }
namespace Rows
def none {H : Type} : Left H := { results := [], args := [] }

/-- 'laws.FnExactEndNew': WHATEVER THE INPUT: true; the input reads as it did. -/
def fnExactEndNewSpec : ChangeSpec := { name := "fnExactEndNew", fn := fun _ => fun
  | [d1, d2, d3, d4] => { results := [.lit (.bool true)], args := [d1, d2, d3, d4] }
  | _ => none }
def fnExactEndNewRow : OpenClaim := { program := "ytpadgacbkkjjfaa", sum := "10c013a2f13a173f3d797dac4b40b2b87f11413cd3aee8e331ed082b1edcb498", func := "loop.example/netstack/laws.FnExactEndNew", spec := "fnExactEndNew", apart := false }
def FnExactEndNewSaid : Prop := fnExactEndNewRow.holds Try.pinned (OpenSpec.ofChange fnExactEndNewSpec)

/-- ITS FALSE NEIGHBOUR: 'it returns false'. Refute it at one input. -/
def fnExactEndNewWrong : ChangeSpec := { name := "fnExactEndNew", fn := fun _ => fun
  | [d1, d2, d3, d4] => { results := [.lit (.bool false)], args := [d1, d2, d3, d4] }
  | _ => none }
def FnExactEndNewWrongFalsely : Prop := fnExactEndNewRow.holds Try.pinned (OpenSpec.ofChange fnExactEndNewWrong)

/-- 'laws.FnEndNew': WHATEVER THE INPUT: true; the input reads as it did. -/
def fnEndNewSpec : ChangeSpec := { name := "fnEndNew", fn := fun _ => fun
  | [d] => { results := [.lit (.bool true)], args := [d] }
  | _ => none }
def fnEndNewRow : OpenClaim := { program := "ytpadgacbkkjjfaa", sum := "10c013a2f13a173f3d797dac4b40b2b87f11413cd3aee8e331ed082b1edcb498", func := "loop.example/netstack/laws.FnEndNew", spec := "fnEndNew", apart := false }
def FnEndNewSaid : Prop := fnEndNewRow.holds Try.pinned (OpenSpec.ofChange fnEndNewSpec)

/-- ITS FALSE NEIGHBOUR: 'it returns false'. Refute it at one input. -/
def fnEndNewWrong : ChangeSpec := { name := "fnEndNew", fn := fun _ => fun
  | [d] => { results := [.lit (.bool false)], args := [d] }
  | _ => none }
def FnEndNewWrongFalsely : Prop := fnEndNewRow.holds Try.pinned (OpenSpec.ofChange fnEndNewWrong)

/- THE SECOND FORM. 'bulk': how many values and letters a reading holds, each counted each time it is reached (what is shared counts as often as it is met; a slice's spare places count too). A statement '..UptoSaid' is the law's where the arguments, and the package variables that the reading takes, are together of bulk at most 1048576: NARROWER than '..Said'. Prove '..Said' where nothing that the law and all that it calls make is longer than what came in: it says more and counts as full. Else prove '..UptoSaid'. A law counts once. -/
mutual
def uptoBulk {H : Type} : DataW H → Nat
  | .lit (.string bytes) => bytes.length + 1
  | .lit _ => 1
  | .nil => 1
  | .ptr d => uptoBulk d + 1
  | .slice elems spare => uptoBulkAll elems + uptoBulkAll spare + 1
  | .agg parts => uptoBulkAll parts + 1
  | .iface _ d => uptoBulk d + 1
  | .map entries => uptoBulkEntries entries + 1
  | .held _ => 1
def uptoBulkAll {H : Type} : List (DataW H) → Nat
  | [] => 0
  | d :: r => uptoBulk d + uptoBulkAll r
def uptoBulkEntries {H : Type} : List (Lit × DataW H) → Nat
  | [] => 0
  | x :: r => uptoBulkEntry x + uptoBulkEntries r
def uptoBulkEntry {H : Type} : Lit × DataW H → Nat
  | (.string bytes, d) => bytes.length + uptoBulk d + 1
  | (_, d) => uptoBulk d + 1
 end
def uptoSmall : (H : Type) → List (DataW H) → Bool := fun _ ds => decide (uptoBulkAll ds ≤ 1048576)
def OpenSpec.upto (s : _root_.Go.ChangeSpec) : _root_.Go.OpenSpec := { _root_.Go.OpenSpec.ofChange s with cond := some uptoSmall }

/-- 'laws.FnExactEndNew', WHERE WHAT IT READS IS OF BULK AT MOST 1048576: true; the input reads as it did. -/
def fnExactEndNewUptoRow : OpenClaim := { program := "ytpadgacbkkjjfaa", sum := "10c013a2f13a173f3d797dac4b40b2b87f11413cd3aee8e331ed082b1edcb498", func := "loop.example/netstack/laws.FnExactEndNew", spec := "fnExactEndNew", apart := false, narrowed := true }
def FnExactEndNewUptoSaid : Prop := fnExactEndNewUptoRow.holds Try.pinned (OpenSpec.upto fnExactEndNewSpec)

/-- 'laws.FnEndNew', WHERE WHAT IT READS IS OF BULK AT MOST 1048576: true; the input reads as it did. -/
def fnEndNewUptoRow : OpenClaim := { program := "ytpadgacbkkjjfaa", sum := "10c013a2f13a173f3d797dac4b40b2b87f11413cd3aee8e331ed082b1edcb498", func := "loop.example/netstack/laws.FnEndNew", spec := "fnEndNew", apart := false, narrowed := true }
def FnEndNewUptoSaid : Prop := fnEndNewUptoRow.holds Try.pinned (OpenSpec.upto fnEndNewSpec)

end Rows
end Go.Proofs.Ytpadgacbkkjjfaa
