/-
  No cell of these rows narrows 'for every input' (looked for: loops, veiled, ifaces, maps, wideKeys, modest, calm, conditions, laid).
  DERIVED. THE GIVEN ROWS OF THIS SEAT. 12 by the template 'for every input the law returns true; each argument reads behind the call as it read before'; 0 by the template 'total and deterministic' (their statements: YtgabediginlabaaTotals.lean).
  GIVEN WITH THE SEED: the statements are not yours to turn. If you find one false, say at which input.
  Laid BY PROGRAM, IN A SANDBOX (cutbox-rows.mjs): the forced cells as the released guide's own fill.sh prints them over the translation 2752fc991c376520… (all of the seat's roots in one cut). By AI agents, Wed Nov 11 2026. No macro, syntax, notation, axiom, sorry.
-/
import Derived.Test.YtgabediginlabaaChecked
import GoSem.Claim
import GoSem.ClaimJoined
import GoSem.ClaimMapViews
import Derived.JoinedTies
import Derived.KernelRfl
namespace Go.Proofs.Ytgabediginlabaa
/- THE CELL 'sum', in the pinned program and in every row, IS THE sha256 OF THE DUMP (.gsa) THAT YtgabediginlabaaProg.lean LOADS. Nothing in Lean hashes anything: it is a label: what it is worth is what the hold of that sum in a sandbox is worth. -/
noncomputable def Try.pinned : Pinned := { name := "ytgabediginlabaa", sum := "2752fc991c3765208f1e8d19936b01a2c1bd9d6ae30c2a8c0da3963baf8a20ba", checked := Try.checked }
namespace Rows
def none {H : Type} : Left H := { results := [], args := [] }

/-- 'laws.FnExactSealOf': WHATEVER THE INPUT: true; the input reads as it did. -/
def fnExactSealOfSpec : ChangeSpec := { name := "fnExactSealOf", fn := fun _ => fun
  | [d1, d2, d3, d4] => { results := [.lit (.bool true)], args := [d1, d2, d3, d4] }
  | _ => none }
def fnExactSealOfRow : OpenClaim := { program := "ytgabediginlabaa", sum := "2752fc991c3765208f1e8d19936b01a2c1bd9d6ae30c2a8c0da3963baf8a20ba", func := "loop.example/netstack/laws.FnExactSealOf", spec := "fnExactSealOf", apart := false }
def FnExactSealOfSaid : Prop := fnExactSealOfRow.holds Try.pinned (OpenSpec.ofChange fnExactSealOfSpec)

/-- ITS FALSE NEIGHBOUR: 'it returns false'. Refute it at one input. -/
def fnExactSealOfWrong : ChangeSpec := { name := "fnExactSealOf", fn := fun _ => fun
  | [d1, d2, d3, d4] => { results := [.lit (.bool false)], args := [d1, d2, d3, d4] }
  | _ => none }
def FnExactSealOfWrongFalsely : Prop := fnExactSealOfRow.holds Try.pinned (OpenSpec.ofChange fnExactSealOfWrong)

/-- 'laws.FnSealOf': WHATEVER THE INPUT: true; the input reads as it did. -/
def fnSealOfSpec : ChangeSpec := { name := "fnSealOf", fn := fun _ => fun
  | [d] => { results := [.lit (.bool true)], args := [d] }
  | _ => none }
def fnSealOfRow : OpenClaim := { program := "ytgabediginlabaa", sum := "2752fc991c3765208f1e8d19936b01a2c1bd9d6ae30c2a8c0da3963baf8a20ba", func := "loop.example/netstack/laws.FnSealOf", spec := "fnSealOf", apart := false }
def FnSealOfSaid : Prop := fnSealOfRow.holds Try.pinned (OpenSpec.ofChange fnSealOfSpec)

/-- ITS FALSE NEIGHBOUR: 'it returns false'. Refute it at one input. -/
def fnSealOfWrong : ChangeSpec := { name := "fnSealOf", fn := fun _ => fun
  | [d] => { results := [.lit (.bool false)], args := [d] }
  | _ => none }
def FnSealOfWrongFalsely : Prop := fnSealOfRow.holds Try.pinned (OpenSpec.ofChange fnSealOfWrong)

/-- 'laws.FnExactRecordBytes': WHATEVER THE INPUT: true; the input reads as it did. -/
def fnExactRecordBytesSpec : ChangeSpec := { name := "fnExactRecordBytes", fn := fun _ => fun
  | [d1, d2, d3, d4] => { results := [.lit (.bool true)], args := [d1, d2, d3, d4] }
  | _ => none }
def fnExactRecordBytesRow : OpenClaim := { program := "ytgabediginlabaa", sum := "2752fc991c3765208f1e8d19936b01a2c1bd9d6ae30c2a8c0da3963baf8a20ba", func := "loop.example/netstack/laws.FnExactRecordBytes", spec := "fnExactRecordBytes", apart := false }
def FnExactRecordBytesSaid : Prop := fnExactRecordBytesRow.holds Try.pinned (OpenSpec.ofChange fnExactRecordBytesSpec)

/-- ITS FALSE NEIGHBOUR: 'it returns false'. Refute it at one input. -/
def fnExactRecordBytesWrong : ChangeSpec := { name := "fnExactRecordBytes", fn := fun _ => fun
  | [d1, d2, d3, d4] => { results := [.lit (.bool false)], args := [d1, d2, d3, d4] }
  | _ => none }
def FnExactRecordBytesWrongFalsely : Prop := fnExactRecordBytesRow.holds Try.pinned (OpenSpec.ofChange fnExactRecordBytesWrong)

/-- 'laws.FnExactRecordFrom': WHATEVER THE INPUT: true; the input reads as it did. -/
def fnExactRecordFromSpec : ChangeSpec := { name := "fnExactRecordFrom", fn := fun _ => fun
  | [d1, d2, d3] => { results := [.lit (.bool true)], args := [d1, d2, d3] }
  | _ => none }
def fnExactRecordFromRow : OpenClaim := { program := "ytgabediginlabaa", sum := "2752fc991c3765208f1e8d19936b01a2c1bd9d6ae30c2a8c0da3963baf8a20ba", func := "loop.example/netstack/laws.FnExactRecordFrom", spec := "fnExactRecordFrom", apart := false }
def FnExactRecordFromSaid : Prop := fnExactRecordFromRow.holds Try.pinned (OpenSpec.ofChange fnExactRecordFromSpec)

/-- ITS FALSE NEIGHBOUR: 'it returns false'. Refute it at one input. -/
def fnExactRecordFromWrong : ChangeSpec := { name := "fnExactRecordFrom", fn := fun _ => fun
  | [d1, d2, d3] => { results := [.lit (.bool false)], args := [d1, d2, d3] }
  | _ => none }
def FnExactRecordFromWrongFalsely : Prop := fnExactRecordFromRow.holds Try.pinned (OpenSpec.ofChange fnExactRecordFromWrong)

/-- 'laws.FnExactSealed': WHATEVER THE INPUT: true; the input reads as it did. -/
def fnExactSealedSpec : ChangeSpec := { name := "fnExactSealed", fn := fun _ => fun
  | [d1, d2] => { results := [.lit (.bool true)], args := [d1, d2] }
  | _ => none }
def fnExactSealedRow : OpenClaim := { program := "ytgabediginlabaa", sum := "2752fc991c3765208f1e8d19936b01a2c1bd9d6ae30c2a8c0da3963baf8a20ba", func := "loop.example/netstack/laws.FnExactSealed", spec := "fnExactSealed", apart := false }
def FnExactSealedSaid : Prop := fnExactSealedRow.holds Try.pinned (OpenSpec.ofChange fnExactSealedSpec)

/-- ITS FALSE NEIGHBOUR: 'it returns false'. Refute it at one input. -/
def fnExactSealedWrong : ChangeSpec := { name := "fnExactSealed", fn := fun _ => fun
  | [d1, d2] => { results := [.lit (.bool false)], args := [d1, d2] }
  | _ => none }
def FnExactSealedWrongFalsely : Prop := fnExactSealedRow.holds Try.pinned (OpenSpec.ofChange fnExactSealedWrong)

/-- 'laws.FnExactOpened': WHATEVER THE INPUT: true; the input reads as it did. -/
def fnExactOpenedSpec : ChangeSpec := { name := "fnExactOpened", fn := fun _ => fun
  | [d1, d2] => { results := [.lit (.bool true)], args := [d1, d2] }
  | _ => none }
def fnExactOpenedRow : OpenClaim := { program := "ytgabediginlabaa", sum := "2752fc991c3765208f1e8d19936b01a2c1bd9d6ae30c2a8c0da3963baf8a20ba", func := "loop.example/netstack/laws.FnExactOpened", spec := "fnExactOpened", apart := false }
def FnExactOpenedSaid : Prop := fnExactOpenedRow.holds Try.pinned (OpenSpec.ofChange fnExactOpenedSpec)

/-- ITS FALSE NEIGHBOUR: 'it returns false'. Refute it at one input. -/
def fnExactOpenedWrong : ChangeSpec := { name := "fnExactOpened", fn := fun _ => fun
  | [d1, d2] => { results := [.lit (.bool false)], args := [d1, d2] }
  | _ => none }
def FnExactOpenedWrongFalsely : Prop := fnExactOpenedRow.holds Try.pinned (OpenSpec.ofChange fnExactOpenedWrong)

/-- 'laws.FnRecordBytes': WHATEVER THE INPUT: true; the input reads as it did. -/
def fnRecordBytesSpec : ChangeSpec := { name := "fnRecordBytes", fn := fun _ => fun
  | [d] => { results := [.lit (.bool true)], args := [d] }
  | _ => none }
def fnRecordBytesRow : OpenClaim := { program := "ytgabediginlabaa", sum := "2752fc991c3765208f1e8d19936b01a2c1bd9d6ae30c2a8c0da3963baf8a20ba", func := "loop.example/netstack/laws.FnRecordBytes", spec := "fnRecordBytes", apart := false }
def FnRecordBytesSaid : Prop := fnRecordBytesRow.holds Try.pinned (OpenSpec.ofChange fnRecordBytesSpec)

/-- ITS FALSE NEIGHBOUR: 'it returns false'. Refute it at one input. -/
def fnRecordBytesWrong : ChangeSpec := { name := "fnRecordBytes", fn := fun _ => fun
  | [d] => { results := [.lit (.bool false)], args := [d] }
  | _ => none }
def FnRecordBytesWrongFalsely : Prop := fnRecordBytesRow.holds Try.pinned (OpenSpec.ofChange fnRecordBytesWrong)

/-- 'laws.FnRecordFrom': WHATEVER THE INPUT: true; the input reads as it did. -/
def fnRecordFromSpec : ChangeSpec := { name := "fnRecordFrom", fn := fun _ => fun
  | [d] => { results := [.lit (.bool true)], args := [d] }
  | _ => none }
def fnRecordFromRow : OpenClaim := { program := "ytgabediginlabaa", sum := "2752fc991c3765208f1e8d19936b01a2c1bd9d6ae30c2a8c0da3963baf8a20ba", func := "loop.example/netstack/laws.FnRecordFrom", spec := "fnRecordFrom", apart := false }
def FnRecordFromSaid : Prop := fnRecordFromRow.holds Try.pinned (OpenSpec.ofChange fnRecordFromSpec)

/-- ITS FALSE NEIGHBOUR: 'it returns false'. Refute it at one input. -/
def fnRecordFromWrong : ChangeSpec := { name := "fnRecordFrom", fn := fun _ => fun
  | [d] => { results := [.lit (.bool false)], args := [d] }
  | _ => none }
def FnRecordFromWrongFalsely : Prop := fnRecordFromRow.holds Try.pinned (OpenSpec.ofChange fnRecordFromWrong)

/-- 'laws.FnMixed': WHATEVER THE INPUT: true; the input reads as it did. -/
def fnMixedSpec : ChangeSpec := { name := "fnMixed", fn := fun _ => fun
  | [d] => { results := [.lit (.bool true)], args := [d] }
  | _ => none }
def fnMixedRow : OpenClaim := { program := "ytgabediginlabaa", sum := "2752fc991c3765208f1e8d19936b01a2c1bd9d6ae30c2a8c0da3963baf8a20ba", func := "loop.example/netstack/laws.FnMixed", spec := "fnMixed", apart := false }
def FnMixedSaid : Prop := fnMixedRow.holds Try.pinned (OpenSpec.ofChange fnMixedSpec)

/-- ITS FALSE NEIGHBOUR: 'it returns false'. Refute it at one input. -/
def fnMixedWrong : ChangeSpec := { name := "fnMixed", fn := fun _ => fun
  | [d] => { results := [.lit (.bool false)], args := [d] }
  | _ => none }
def FnMixedWrongFalsely : Prop := fnMixedRow.holds Try.pinned (OpenSpec.ofChange fnMixedWrong)

/-- 'laws.FnSealed': WHATEVER THE INPUT: true; the input reads as it did. -/
def fnSealedSpec : ChangeSpec := { name := "fnSealed", fn := fun _ => fun
  | [d] => { results := [.lit (.bool true)], args := [d] }
  | _ => none }
def fnSealedRow : OpenClaim := { program := "ytgabediginlabaa", sum := "2752fc991c3765208f1e8d19936b01a2c1bd9d6ae30c2a8c0da3963baf8a20ba", func := "loop.example/netstack/laws.FnSealed", spec := "fnSealed", apart := false }
def FnSealedSaid : Prop := fnSealedRow.holds Try.pinned (OpenSpec.ofChange fnSealedSpec)

/-- ITS FALSE NEIGHBOUR: 'it returns false'. Refute it at one input. -/
def fnSealedWrong : ChangeSpec := { name := "fnSealed", fn := fun _ => fun
  | [d] => { results := [.lit (.bool false)], args := [d] }
  | _ => none }
def FnSealedWrongFalsely : Prop := fnSealedRow.holds Try.pinned (OpenSpec.ofChange fnSealedWrong)

/-- 'laws.FnOpened': WHATEVER THE INPUT: true; the input reads as it did. -/
def fnOpenedSpec : ChangeSpec := { name := "fnOpened", fn := fun _ => fun
  | [d] => { results := [.lit (.bool true)], args := [d] }
  | _ => none }
def fnOpenedRow : OpenClaim := { program := "ytgabediginlabaa", sum := "2752fc991c3765208f1e8d19936b01a2c1bd9d6ae30c2a8c0da3963baf8a20ba", func := "loop.example/netstack/laws.FnOpened", spec := "fnOpened", apart := false }
def FnOpenedSaid : Prop := fnOpenedRow.holds Try.pinned (OpenSpec.ofChange fnOpenedSpec)

/-- ITS FALSE NEIGHBOUR: 'it returns false'. Refute it at one input. -/
def fnOpenedWrong : ChangeSpec := { name := "fnOpened", fn := fun _ => fun
  | [d] => { results := [.lit (.bool false)], args := [d] }
  | _ => none }
def FnOpenedWrongFalsely : Prop := fnOpenedRow.holds Try.pinned (OpenSpec.ofChange fnOpenedWrong)

/-- 'laws.FnAnswer': WHATEVER THE INPUT: true; the input reads as it did. -/
def fnAnswerSpec : ChangeSpec := { name := "fnAnswer", fn := fun _ => fun
  | [d] => { results := [.lit (.bool true)], args := [d] }
  | _ => none }
def fnAnswerRow : OpenClaim := { program := "ytgabediginlabaa", sum := "2752fc991c3765208f1e8d19936b01a2c1bd9d6ae30c2a8c0da3963baf8a20ba", func := "loop.example/netstack/laws.FnAnswer", spec := "fnAnswer", apart := false }
def FnAnswerSaid : Prop := fnAnswerRow.holds Try.pinned (OpenSpec.ofChange fnAnswerSpec)

/-- ITS FALSE NEIGHBOUR: 'it returns false'. Refute it at one input. -/
def fnAnswerWrong : ChangeSpec := { name := "fnAnswer", fn := fun _ => fun
  | [d] => { results := [.lit (.bool false)], args := [d] }
  | _ => none }
def FnAnswerWrongFalsely : Prop := fnAnswerRow.holds Try.pinned (OpenSpec.ofChange fnAnswerWrong)

/- THE SECOND FORM. 'bulk': how many values and letters a reading holds, each counted each time it is reached (what is shared counts as often as it is met; a slice's spare places count too). A statement '..UptoSaid' is the law's where the arguments, and the package variables that the reading takes, are together of bulk at most 1048576: NARROWER than '..Said'. Prove '..Said' where nothing that the law and all that it calls make is longer than what came in: it says more and counts as full. Else prove '..UptoSaid'. A law counts once. -/
mutual
def uptoBulk {H : Type} : DataW H → Nat
  | .lit (.string bytes) => bytes.length + 1
  | .lit _ => 1
  | .nil => 1
  | .ptr d => uptoBulk d + 1
  | .slice elems spare => uptoBulkAll elems + uptoBulkAll spare + 1
  | .agg parts => uptoBulkAll parts + 1
  | .iface _ d => uptoBulk d + 1
  | .map entries => uptoBulkEntries entries + 1
  | .held _ => 1
def uptoBulkAll {H : Type} : List (DataW H) → Nat
  | [] => 0
  | d :: r => uptoBulk d + uptoBulkAll r
def uptoBulkEntries {H : Type} : List (Lit × DataW H) → Nat
  | [] => 0
  | x :: r => uptoBulkEntry x + uptoBulkEntries r
def uptoBulkEntry {H : Type} : Lit × DataW H → Nat
  | (.string bytes, d) => bytes.length + uptoBulk d + 1
  | (_, d) => uptoBulk d + 1
 end
def uptoSmall : (H : Type) → List (DataW H) → Bool := fun _ ds => decide (uptoBulkAll ds ≤ 1048576)
def OpenSpec.upto (s : _root_.Go.ChangeSpec) : _root_.Go.OpenSpec := { _root_.Go.OpenSpec.ofChange s with cond := some uptoSmall }

/-- 'laws.FnExactSealOf', WHERE WHAT IT READS IS OF BULK AT MOST 1048576: true; the input reads as it did. -/
def fnExactSealOfUptoRow : OpenClaim := { program := "ytgabediginlabaa", sum := "2752fc991c3765208f1e8d19936b01a2c1bd9d6ae30c2a8c0da3963baf8a20ba", func := "loop.example/netstack/laws.FnExactSealOf", spec := "fnExactSealOf", apart := false, narrowed := true }
def FnExactSealOfUptoSaid : Prop := fnExactSealOfUptoRow.holds Try.pinned (OpenSpec.upto fnExactSealOfSpec)

/-- 'laws.FnSealOf', WHERE WHAT IT READS IS OF BULK AT MOST 1048576: true; the input reads as it did. -/
def fnSealOfUptoRow : OpenClaim := { program := "ytgabediginlabaa", sum := "2752fc991c3765208f1e8d19936b01a2c1bd9d6ae30c2a8c0da3963baf8a20ba", func := "loop.example/netstack/laws.FnSealOf", spec := "fnSealOf", apart := false, narrowed := true }
def FnSealOfUptoSaid : Prop := fnSealOfUptoRow.holds Try.pinned (OpenSpec.upto fnSealOfSpec)

/-- 'laws.FnExactRecordBytes', WHERE WHAT IT READS IS OF BULK AT MOST 1048576: true; the input reads as it did. -/
def fnExactRecordBytesUptoRow : OpenClaim := { program := "ytgabediginlabaa", sum := "2752fc991c3765208f1e8d19936b01a2c1bd9d6ae30c2a8c0da3963baf8a20ba", func := "loop.example/netstack/laws.FnExactRecordBytes", spec := "fnExactRecordBytes", apart := false, narrowed := true }
def FnExactRecordBytesUptoSaid : Prop := fnExactRecordBytesUptoRow.holds Try.pinned (OpenSpec.upto fnExactRecordBytesSpec)

/-- 'laws.FnExactRecordFrom', WHERE WHAT IT READS IS OF BULK AT MOST 1048576: true; the input reads as it did. -/
def fnExactRecordFromUptoRow : OpenClaim := { program := "ytgabediginlabaa", sum := "2752fc991c3765208f1e8d19936b01a2c1bd9d6ae30c2a8c0da3963baf8a20ba", func := "loop.example/netstack/laws.FnExactRecordFrom", spec := "fnExactRecordFrom", apart := false, narrowed := true }
def FnExactRecordFromUptoSaid : Prop := fnExactRecordFromUptoRow.holds Try.pinned (OpenSpec.upto fnExactRecordFromSpec)

/-- 'laws.FnExactSealed', WHERE WHAT IT READS IS OF BULK AT MOST 1048576: true; the input reads as it did. -/
def fnExactSealedUptoRow : OpenClaim := { program := "ytgabediginlabaa", sum := "2752fc991c3765208f1e8d19936b01a2c1bd9d6ae30c2a8c0da3963baf8a20ba", func := "loop.example/netstack/laws.FnExactSealed", spec := "fnExactSealed", apart := false, narrowed := true }
def FnExactSealedUptoSaid : Prop := fnExactSealedUptoRow.holds Try.pinned (OpenSpec.upto fnExactSealedSpec)

/-- 'laws.FnExactOpened', WHERE WHAT IT READS IS OF BULK AT MOST 1048576: true; the input reads as it did. -/
def fnExactOpenedUptoRow : OpenClaim := { program := "ytgabediginlabaa", sum := "2752fc991c3765208f1e8d19936b01a2c1bd9d6ae30c2a8c0da3963baf8a20ba", func := "loop.example/netstack/laws.FnExactOpened", spec := "fnExactOpened", apart := false, narrowed := true }
def FnExactOpenedUptoSaid : Prop := fnExactOpenedUptoRow.holds Try.pinned (OpenSpec.upto fnExactOpenedSpec)

/-- 'laws.FnRecordBytes', WHERE WHAT IT READS IS OF BULK AT MOST 1048576: true; the input reads as it did. -/
def fnRecordBytesUptoRow : OpenClaim := { program := "ytgabediginlabaa", sum := "2752fc991c3765208f1e8d19936b01a2c1bd9d6ae30c2a8c0da3963baf8a20ba", func := "loop.example/netstack/laws.FnRecordBytes", spec := "fnRecordBytes", apart := false, narrowed := true }
def FnRecordBytesUptoSaid : Prop := fnRecordBytesUptoRow.holds Try.pinned (OpenSpec.upto fnRecordBytesSpec)

/-- 'laws.FnRecordFrom', WHERE WHAT IT READS IS OF BULK AT MOST 1048576: true; the input reads as it did. -/
def fnRecordFromUptoRow : OpenClaim := { program := "ytgabediginlabaa", sum := "2752fc991c3765208f1e8d19936b01a2c1bd9d6ae30c2a8c0da3963baf8a20ba", func := "loop.example/netstack/laws.FnRecordFrom", spec := "fnRecordFrom", apart := false, narrowed := true }
def FnRecordFromUptoSaid : Prop := fnRecordFromUptoRow.holds Try.pinned (OpenSpec.upto fnRecordFromSpec)

/-- 'laws.FnMixed', WHERE WHAT IT READS IS OF BULK AT MOST 1048576: true; the input reads as it did. -/
def fnMixedUptoRow : OpenClaim := { program := "ytgabediginlabaa", sum := "2752fc991c3765208f1e8d19936b01a2c1bd9d6ae30c2a8c0da3963baf8a20ba", func := "loop.example/netstack/laws.FnMixed", spec := "fnMixed", apart := false, narrowed := true }
def FnMixedUptoSaid : Prop := fnMixedUptoRow.holds Try.pinned (OpenSpec.upto fnMixedSpec)

/-- 'laws.FnSealed', WHERE WHAT IT READS IS OF BULK AT MOST 1048576: true; the input reads as it did. -/
def fnSealedUptoRow : OpenClaim := { program := "ytgabediginlabaa", sum := "2752fc991c3765208f1e8d19936b01a2c1bd9d6ae30c2a8c0da3963baf8a20ba", func := "loop.example/netstack/laws.FnSealed", spec := "fnSealed", apart := false, narrowed := true }
def FnSealedUptoSaid : Prop := fnSealedUptoRow.holds Try.pinned (OpenSpec.upto fnSealedSpec)

/-- 'laws.FnOpened', WHERE WHAT IT READS IS OF BULK AT MOST 1048576: true; the input reads as it did. -/
def fnOpenedUptoRow : OpenClaim := { program := "ytgabediginlabaa", sum := "2752fc991c3765208f1e8d19936b01a2c1bd9d6ae30c2a8c0da3963baf8a20ba", func := "loop.example/netstack/laws.FnOpened", spec := "fnOpened", apart := false, narrowed := true }
def FnOpenedUptoSaid : Prop := fnOpenedUptoRow.holds Try.pinned (OpenSpec.upto fnOpenedSpec)

/-- 'laws.FnAnswer', WHERE WHAT IT READS IS OF BULK AT MOST 1048576: true; the input reads as it did. -/
def fnAnswerUptoRow : OpenClaim := { program := "ytgabediginlabaa", sum := "2752fc991c3765208f1e8d19936b01a2c1bd9d6ae30c2a8c0da3963baf8a20ba", func := "loop.example/netstack/laws.FnAnswer", spec := "fnAnswer", apart := false, narrowed := true }
def FnAnswerUptoSaid : Prop := fnAnswerUptoRow.holds Try.pinned (OpenSpec.upto fnAnswerSpec)

end Rows
end Go.Proofs.Ytgabediginlabaa
