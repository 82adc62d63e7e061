/-
  No cell of these rows narrows 'for every input' (looked for: loops, veiled, ifaces, maps, wideKeys, modest, calm, conditions, laid).
  DERIVED. THE GIVEN ROWS OF THIS SEAT. 15 by the template 'for every input the law returns true; each argument reads behind the call as it read before'; 0 by the template 'total and deterministic' (their statements: YtpeejmolbmhjjaaTotals.lean).
  GIVEN WITH THE SEED: the statements are not yours to turn. If you find one false, say at which input.
  Laid BY PROGRAM, IN A SANDBOX (cutbox-rows.mjs): the forced cells as the released guide's own fill.sh prints them over the translation 9c38d4a6d8c30bc2… (all of the seat's roots in one cut). By AI agents, Wed Nov 11 2026. No macro, syntax, notation, axiom, sorry.
-/
import Derived.Test.YtpeejmolbmhjjaaChecked
import GoSem.Claim
import GoSem.ClaimJoined
import GoSem.ClaimMapViews
import Derived.JoinedTies
import Derived.KernelRfl
namespace Go.Proofs.Ytpeejmolbmhjjaa
/- THE CELL 'sum', in the pinned program and in every row, IS THE sha256 OF THE DUMP (.gsa) THAT YtpeejmolbmhjjaaProg.lean LOADS. Nothing in Lean hashes anything: it is a label: what it is worth is what the hold of that sum in a sandbox is worth. -/
noncomputable def Try.pinned : Pinned := { name := "ytpeejmolbmhjjaa", sum := "9c38d4a6d8c30bc29ea10781f1125103e4e6c96ecc92ab65f4bfa67a83020666", checked := Try.checked }
namespace Rows
def none {H : Type} : Left H := { results := [], args := [] }

/-- 'laws.FnWatchLevel': WHATEVER THE INPUT: true; the input reads as it did. -/
def fnWatchLevelSpec : ChangeSpec := { name := "fnWatchLevel", fn := fun _ => fun
  | [d] => { results := [.lit (.bool true)], args := [d] }
  | _ => none }
def fnWatchLevelRow : OpenClaim := { program := "ytpeejmolbmhjjaa", sum := "9c38d4a6d8c30bc29ea10781f1125103e4e6c96ecc92ab65f4bfa67a83020666", func := "loop.example/netstack/laws.FnWatchLevel", spec := "fnWatchLevel", apart := false }
def FnWatchLevelSaid : Prop := fnWatchLevelRow.holds Try.pinned (OpenSpec.ofChange fnWatchLevelSpec)

/-- ITS FALSE NEIGHBOUR: 'it returns false'. Refute it at one input. -/
def fnWatchLevelWrong : ChangeSpec := { name := "fnWatchLevel", fn := fun _ => fun
  | [d] => { results := [.lit (.bool false)], args := [d] }
  | _ => none }
def FnWatchLevelWrongFalsely : Prop := fnWatchLevelRow.holds Try.pinned (OpenSpec.ofChange fnWatchLevelWrong)

/-- 'laws.FnWatchEdge': WHATEVER THE INPUT: true; the input reads as it did. -/
def fnWatchEdgeSpec : ChangeSpec := { name := "fnWatchEdge", fn := fun _ => fun
  | [d] => { results := [.lit (.bool true)], args := [d] }
  | _ => none }
def fnWatchEdgeRow : OpenClaim := { program := "ytpeejmolbmhjjaa", sum := "9c38d4a6d8c30bc29ea10781f1125103e4e6c96ecc92ab65f4bfa67a83020666", func := "loop.example/netstack/laws.FnWatchEdge", spec := "fnWatchEdge", apart := false }
def FnWatchEdgeSaid : Prop := fnWatchEdgeRow.holds Try.pinned (OpenSpec.ofChange fnWatchEdgeSpec)

/-- ITS FALSE NEIGHBOUR: 'it returns false'. Refute it at one input. -/
def fnWatchEdgeWrong : ChangeSpec := { name := "fnWatchEdge", fn := fun _ => fun
  | [d] => { results := [.lit (.bool false)], args := [d] }
  | _ => none }
def FnWatchEdgeWrongFalsely : Prop := fnWatchEdgeRow.holds Try.pinned (OpenSpec.ofChange fnWatchEdgeWrong)

/-- 'laws.FnWatchAll': WHATEVER THE INPUT: true; the input reads as it did. -/
def fnWatchAllSpec : ChangeSpec := { name := "fnWatchAll", fn := fun _ => fun
  | [d] => { results := [.lit (.bool true)], args := [d] }
  | _ => none }
def fnWatchAllRow : OpenClaim := { program := "ytpeejmolbmhjjaa", sum := "9c38d4a6d8c30bc29ea10781f1125103e4e6c96ecc92ab65f4bfa67a83020666", func := "loop.example/netstack/laws.FnWatchAll", spec := "fnWatchAll", apart := false }
def FnWatchAllSaid : Prop := fnWatchAllRow.holds Try.pinned (OpenSpec.ofChange fnWatchAllSpec)

/-- ITS FALSE NEIGHBOUR: 'it returns false'. Refute it at one input. -/
def fnWatchAllWrong : ChangeSpec := { name := "fnWatchAll", fn := fun _ => fun
  | [d] => { results := [.lit (.bool false)], args := [d] }
  | _ => none }
def FnWatchAllWrongFalsely : Prop := fnWatchAllRow.holds Try.pinned (OpenSpec.ofChange fnWatchAllWrong)

/-- 'laws.FnEndNew': WHATEVER THE INPUT: true; the input reads as it did. -/
def fnEndNewSpec : ChangeSpec := { name := "fnEndNew", fn := fun _ => fun
  | [d] => { results := [.lit (.bool true)], args := [d] }
  | _ => none }
def fnEndNewRow : OpenClaim := { program := "ytpeejmolbmhjjaa", sum := "9c38d4a6d8c30bc29ea10781f1125103e4e6c96ecc92ab65f4bfa67a83020666", func := "loop.example/netstack/laws.FnEndNew", spec := "fnEndNew", apart := false }
def FnEndNewSaid : Prop := fnEndNewRow.holds Try.pinned (OpenSpec.ofChange fnEndNewSpec)

/-- ITS FALSE NEIGHBOUR: 'it returns false'. Refute it at one input. -/
def fnEndNewWrong : ChangeSpec := { name := "fnEndNew", fn := fun _ => fun
  | [d] => { results := [.lit (.bool false)], args := [d] }
  | _ => none }
def FnEndNewWrongFalsely : Prop := fnEndNewRow.holds Try.pinned (OpenSpec.ofChange fnEndNewWrong)

/-- 'laws.FnExactEndNew': WHATEVER THE INPUT: true; the input reads as it did. -/
def fnExactEndNewSpec : ChangeSpec := { name := "fnExactEndNew", fn := fun _ => fun
  | [d1, d2, d3, d4] => { results := [.lit (.bool true)], args := [d1, d2, d3, d4] }
  | _ => none }
def fnExactEndNewRow : OpenClaim := { program := "ytpeejmolbmhjjaa", sum := "9c38d4a6d8c30bc29ea10781f1125103e4e6c96ecc92ab65f4bfa67a83020666", func := "loop.example/netstack/laws.FnExactEndNew", spec := "fnExactEndNew", apart := false }
def FnExactEndNewSaid : Prop := fnExactEndNewRow.holds Try.pinned (OpenSpec.ofChange fnExactEndNewSpec)

/-- ITS FALSE NEIGHBOUR: 'it returns false'. Refute it at one input. -/
def fnExactEndNewWrong : ChangeSpec := { name := "fnExactEndNew", fn := fun _ => fun
  | [d1, d2, d3, d4] => { results := [.lit (.bool false)], args := [d1, d2, d3, d4] }
  | _ => none }
def FnExactEndNewWrongFalsely : Prop := fnExactEndNewRow.holds Try.pinned (OpenSpec.ofChange fnExactEndNewWrong)

/-- 'laws.FnExactEndOk': WHATEVER THE INPUT: true; the input reads as it did. -/
def fnExactEndOkSpec : ChangeSpec := { name := "fnExactEndOk", fn := fun _ => fun
  | [d] => { results := [.lit (.bool true)], args := [d] }
  | _ => none }
def fnExactEndOkRow : OpenClaim := { program := "ytpeejmolbmhjjaa", sum := "9c38d4a6d8c30bc29ea10781f1125103e4e6c96ecc92ab65f4bfa67a83020666", func := "loop.example/netstack/laws.FnExactEndOk", spec := "fnExactEndOk", apart := false }
def FnExactEndOkSaid : Prop := fnExactEndOkRow.holds Try.pinned (OpenSpec.ofChange fnExactEndOkSpec)

/-- ITS FALSE NEIGHBOUR: 'it returns false'. Refute it at one input. -/
def fnExactEndOkWrong : ChangeSpec := { name := "fnExactEndOk", fn := fun _ => fun
  | [d] => { results := [.lit (.bool false)], args := [d] }
  | _ => none }
def FnExactEndOkWrongFalsely : Prop := fnExactEndOkRow.holds Try.pinned (OpenSpec.ofChange fnExactEndOkWrong)

/-- 'laws.FnExactEndOver': WHATEVER THE INPUT: true; the input reads as it did. -/
def fnExactEndOverSpec : ChangeSpec := { name := "fnExactEndOver", fn := fun _ => fun
  | [d] => { results := [.lit (.bool true)], args := [d] }
  | _ => none }
def fnExactEndOverRow : OpenClaim := { program := "ytpeejmolbmhjjaa", sum := "9c38d4a6d8c30bc29ea10781f1125103e4e6c96ecc92ab65f4bfa67a83020666", func := "loop.example/netstack/laws.FnExactEndOver", spec := "fnExactEndOver", apart := false }
def FnExactEndOverSaid : Prop := fnExactEndOverRow.holds Try.pinned (OpenSpec.ofChange fnExactEndOverSpec)

/-- ITS FALSE NEIGHBOUR: 'it returns false'. Refute it at one input. -/
def fnExactEndOverWrong : ChangeSpec := { name := "fnExactEndOver", fn := fun _ => fun
  | [d] => { results := [.lit (.bool false)], args := [d] }
  | _ => none }
def FnExactEndOverWrongFalsely : Prop := fnExactEndOverRow.holds Try.pinned (OpenSpec.ofChange fnExactEndOverWrong)

/-- 'laws.FnExactReadyOf': WHATEVER THE INPUT: true; the input reads as it did. -/
def fnExactReadyOfSpec : ChangeSpec := { name := "fnExactReadyOf", fn := fun _ => fun
  | [d] => { results := [.lit (.bool true)], args := [d] }
  | _ => none }
def fnExactReadyOfRow : OpenClaim := { program := "ytpeejmolbmhjjaa", sum := "9c38d4a6d8c30bc29ea10781f1125103e4e6c96ecc92ab65f4bfa67a83020666", func := "loop.example/netstack/laws.FnExactReadyOf", spec := "fnExactReadyOf", apart := false }
def FnExactReadyOfSaid : Prop := fnExactReadyOfRow.holds Try.pinned (OpenSpec.ofChange fnExactReadyOfSpec)

/-- ITS FALSE NEIGHBOUR: 'it returns false'. Refute it at one input. -/
def fnExactReadyOfWrong : ChangeSpec := { name := "fnExactReadyOf", fn := fun _ => fun
  | [d] => { results := [.lit (.bool false)], args := [d] }
  | _ => none }
def FnExactReadyOfWrongFalsely : Prop := fnExactReadyOfRow.holds Try.pinned (OpenSpec.ofChange fnExactReadyOfWrong)

/-- 'laws.FnExactWatchLevel': WHATEVER THE INPUT: true; the input reads as it did. -/
def fnExactWatchLevelSpec : ChangeSpec := { name := "fnExactWatchLevel", fn := fun _ => fun
  | [d1, d2] => { results := [.lit (.bool true)], args := [d1, d2] }
  | _ => none }
def fnExactWatchLevelRow : OpenClaim := { program := "ytpeejmolbmhjjaa", sum := "9c38d4a6d8c30bc29ea10781f1125103e4e6c96ecc92ab65f4bfa67a83020666", func := "loop.example/netstack/laws.FnExactWatchLevel", spec := "fnExactWatchLevel", apart := false }
def FnExactWatchLevelSaid : Prop := fnExactWatchLevelRow.holds Try.pinned (OpenSpec.ofChange fnExactWatchLevelSpec)

/-- ITS FALSE NEIGHBOUR: 'it returns false'. Refute it at one input. -/
def fnExactWatchLevelWrong : ChangeSpec := { name := "fnExactWatchLevel", fn := fun _ => fun
  | [d1, d2] => { results := [.lit (.bool false)], args := [d1, d2] }
  | _ => none }
def FnExactWatchLevelWrongFalsely : Prop := fnExactWatchLevelRow.holds Try.pinned (OpenSpec.ofChange fnExactWatchLevelWrong)

/-- 'laws.FnExactWatchEdge': WHATEVER THE INPUT: true; the input reads as it did. -/
def fnExactWatchEdgeSpec : ChangeSpec := { name := "fnExactWatchEdge", fn := fun _ => fun
  | [d1, d2] => { results := [.lit (.bool true)], args := [d1, d2] }
  | _ => none }
def fnExactWatchEdgeRow : OpenClaim := { program := "ytpeejmolbmhjjaa", sum := "9c38d4a6d8c30bc29ea10781f1125103e4e6c96ecc92ab65f4bfa67a83020666", func := "loop.example/netstack/laws.FnExactWatchEdge", spec := "fnExactWatchEdge", apart := false }
def FnExactWatchEdgeSaid : Prop := fnExactWatchEdgeRow.holds Try.pinned (OpenSpec.ofChange fnExactWatchEdgeSpec)

/-- ITS FALSE NEIGHBOUR: 'it returns false'. Refute it at one input. -/
def fnExactWatchEdgeWrong : ChangeSpec := { name := "fnExactWatchEdge", fn := fun _ => fun
  | [d1, d2] => { results := [.lit (.bool false)], args := [d1, d2] }
  | _ => none }
def FnExactWatchEdgeWrongFalsely : Prop := fnExactWatchEdgeRow.holds Try.pinned (OpenSpec.ofChange fnExactWatchEdgeWrong)

/-- 'laws.FnExactWorldOk': WHATEVER THE INPUT: true; the input reads as it did. -/
def fnExactWorldOkSpec : ChangeSpec := { name := "fnExactWorldOk", fn := fun _ => fun
  | [d] => { results := [.lit (.bool true)], args := [d] }
  | _ => none }
def fnExactWorldOkRow : OpenClaim := { program := "ytpeejmolbmhjjaa", sum := "9c38d4a6d8c30bc29ea10781f1125103e4e6c96ecc92ab65f4bfa67a83020666", func := "loop.example/netstack/laws.FnExactWorldOk", spec := "fnExactWorldOk", unfollowed := true, recurses := true, apart := false }
def FnExactWorldOkSaid : Prop := fnExactWorldOkRow.holds Try.pinned (OpenSpec.ofChange fnExactWorldOkSpec)

/-- ITS FALSE NEIGHBOUR: 'it returns false'. Refute it at one input. -/
def fnExactWorldOkWrong : ChangeSpec := { name := "fnExactWorldOk", fn := fun _ => fun
  | [d] => { results := [.lit (.bool false)], args := [d] }
  | _ => none }
def FnExactWorldOkWrongFalsely : Prop := fnExactWorldOkRow.holds Try.pinned (OpenSpec.ofChange fnExactWorldOkWrong)

/-- 'laws.FnExactWatchAll': WHATEVER THE INPUT: true; the input reads as it did. -/
def fnExactWatchAllSpec : ChangeSpec := { name := "fnExactWatchAll", fn := fun _ => fun
  | [d1, d2] => { results := [.lit (.bool true)], args := [d1, d2] }
  | _ => none }
def fnExactWatchAllRow : OpenClaim := { program := "ytpeejmolbmhjjaa", sum := "9c38d4a6d8c30bc29ea10781f1125103e4e6c96ecc92ab65f4bfa67a83020666", func := "loop.example/netstack/laws.FnExactWatchAll", spec := "fnExactWatchAll", apart := false }
def FnExactWatchAllSaid : Prop := fnExactWatchAllRow.holds Try.pinned (OpenSpec.ofChange fnExactWatchAllSpec)

/-- ITS FALSE NEIGHBOUR: 'it returns false'. Refute it at one input. -/
def fnExactWatchAllWrong : ChangeSpec := { name := "fnExactWatchAll", fn := fun _ => fun
  | [d1, d2] => { results := [.lit (.bool false)], args := [d1, d2] }
  | _ => none }
def FnExactWatchAllWrongFalsely : Prop := fnExactWatchAllRow.holds Try.pinned (OpenSpec.ofChange fnExactWatchAllWrong)

/-- 'laws.FnEndOk': WHATEVER THE INPUT: true; the input reads as it did. -/
def fnEndOkSpec : ChangeSpec := { name := "fnEndOk", fn := fun _ => fun
  | [d] => { results := [.lit (.bool true)], args := [d] }
  | _ => none }
def fnEndOkRow : OpenClaim := { program := "ytpeejmolbmhjjaa", sum := "9c38d4a6d8c30bc29ea10781f1125103e4e6c96ecc92ab65f4bfa67a83020666", func := "loop.example/netstack/laws.FnEndOk", spec := "fnEndOk", apart := false }
def FnEndOkSaid : Prop := fnEndOkRow.holds Try.pinned (OpenSpec.ofChange fnEndOkSpec)

/-- ITS FALSE NEIGHBOUR: 'it returns false'. Refute it at one input. -/
def fnEndOkWrong : ChangeSpec := { name := "fnEndOk", fn := fun _ => fun
  | [d] => { results := [.lit (.bool false)], args := [d] }
  | _ => none }
def FnEndOkWrongFalsely : Prop := fnEndOkRow.holds Try.pinned (OpenSpec.ofChange fnEndOkWrong)

/-- 'laws.FnMouthAgain': WHATEVER THE INPUT: true; the input reads as it did. -/
def fnMouthAgainSpec : ChangeSpec := { name := "fnMouthAgain", fn := fun _ => fun
  | [d] => { results := [.lit (.bool true)], args := [d] }
  | _ => none }
def fnMouthAgainRow : OpenClaim := { program := "ytpeejmolbmhjjaa", sum := "9c38d4a6d8c30bc29ea10781f1125103e4e6c96ecc92ab65f4bfa67a83020666", func := "loop.example/netstack/laws.FnMouthAgain", spec := "fnMouthAgain", apart := false }
def FnMouthAgainSaid : Prop := fnMouthAgainRow.holds Try.pinned (OpenSpec.ofChange fnMouthAgainSpec)

/-- ITS FALSE NEIGHBOUR: 'it returns false'. Refute it at one input. -/
def fnMouthAgainWrong : ChangeSpec := { name := "fnMouthAgain", fn := fun _ => fun
  | [d] => { results := [.lit (.bool false)], args := [d] }
  | _ => none }
def FnMouthAgainWrongFalsely : Prop := fnMouthAgainRow.holds Try.pinned (OpenSpec.ofChange fnMouthAgainWrong)

/-- 'laws.FnExactMouthAgain': WHATEVER THE INPUT: true; the input reads as it did. -/
def fnExactMouthAgainSpec : ChangeSpec := { name := "fnExactMouthAgain", fn := fun _ => fun
  | [d1, d2] => { results := [.lit (.bool true)], args := [d1, d2] }
  | _ => none }
def fnExactMouthAgainRow : OpenClaim := { program := "ytpeejmolbmhjjaa", sum := "9c38d4a6d8c30bc29ea10781f1125103e4e6c96ecc92ab65f4bfa67a83020666", func := "loop.example/netstack/laws.FnExactMouthAgain", spec := "fnExactMouthAgain", apart := false }
def FnExactMouthAgainSaid : Prop := fnExactMouthAgainRow.holds Try.pinned (OpenSpec.ofChange fnExactMouthAgainSpec)

/-- ITS FALSE NEIGHBOUR: 'it returns false'. Refute it at one input. -/
def fnExactMouthAgainWrong : ChangeSpec := { name := "fnExactMouthAgain", fn := fun _ => fun
  | [d1, d2] => { results := [.lit (.bool false)], args := [d1, d2] }
  | _ => none }
def FnExactMouthAgainWrongFalsely : Prop := fnExactMouthAgainRow.holds Try.pinned (OpenSpec.ofChange fnExactMouthAgainWrong)

/- THE SECOND FORM. 'bulk': how many values and letters a reading holds, each counted each time it is reached (what is shared counts as often as it is met; a slice's spare places count too). A statement '..UptoSaid' is the law's where the arguments, and the package variables that the reading takes, are together of bulk at most 1048576: NARROWER than '..Said'. Prove '..Said' where nothing that the law and all that it calls make is longer than what came in: it says more and counts as full. Else prove '..UptoSaid'. A law counts once. -/
mutual
def uptoBulk {H : Type} : DataW H → Nat
  | .lit (.string bytes) => bytes.length + 1
  | .lit _ => 1
  | .nil => 1
  | .ptr d => uptoBulk d + 1
  | .slice elems spare => uptoBulkAll elems + uptoBulkAll spare + 1
  | .agg parts => uptoBulkAll parts + 1
  | .iface _ d => uptoBulk d + 1
  | .map entries => uptoBulkEntries entries + 1
  | .held _ => 1
def uptoBulkAll {H : Type} : List (DataW H) → Nat
  | [] => 0
  | d :: r => uptoBulk d + uptoBulkAll r
def uptoBulkEntries {H : Type} : List (Lit × DataW H) → Nat
  | [] => 0
  | x :: r => uptoBulkEntry x + uptoBulkEntries r
def uptoBulkEntry {H : Type} : Lit × DataW H → Nat
  | (.string bytes, d) => bytes.length + uptoBulk d + 1
  | (_, d) => uptoBulk d + 1
 end
def uptoSmall : (H : Type) → List (DataW H) → Bool := fun _ ds => decide (uptoBulkAll ds ≤ 1048576)
def OpenSpec.upto (s : _root_.Go.ChangeSpec) : _root_.Go.OpenSpec := { _root_.Go.OpenSpec.ofChange s with cond := some uptoSmall }

/-- 'laws.FnWatchLevel', WHERE WHAT IT READS IS OF BULK AT MOST 1048576: true; the input reads as it did. -/
def fnWatchLevelUptoRow : OpenClaim := { program := "ytpeejmolbmhjjaa", sum := "9c38d4a6d8c30bc29ea10781f1125103e4e6c96ecc92ab65f4bfa67a83020666", func := "loop.example/netstack/laws.FnWatchLevel", spec := "fnWatchLevel", apart := false, narrowed := true }
def FnWatchLevelUptoSaid : Prop := fnWatchLevelUptoRow.holds Try.pinned (OpenSpec.upto fnWatchLevelSpec)

/-- 'laws.FnWatchEdge', WHERE WHAT IT READS IS OF BULK AT MOST 1048576: true; the input reads as it did. -/
def fnWatchEdgeUptoRow : OpenClaim := { program := "ytpeejmolbmhjjaa", sum := "9c38d4a6d8c30bc29ea10781f1125103e4e6c96ecc92ab65f4bfa67a83020666", func := "loop.example/netstack/laws.FnWatchEdge", spec := "fnWatchEdge", apart := false, narrowed := true }
def FnWatchEdgeUptoSaid : Prop := fnWatchEdgeUptoRow.holds Try.pinned (OpenSpec.upto fnWatchEdgeSpec)

/-- 'laws.FnWatchAll', WHERE WHAT IT READS IS OF BULK AT MOST 1048576: true; the input reads as it did. -/
def fnWatchAllUptoRow : OpenClaim := { program := "ytpeejmolbmhjjaa", sum := "9c38d4a6d8c30bc29ea10781f1125103e4e6c96ecc92ab65f4bfa67a83020666", func := "loop.example/netstack/laws.FnWatchAll", spec := "fnWatchAll", apart := false, narrowed := true }
def FnWatchAllUptoSaid : Prop := fnWatchAllUptoRow.holds Try.pinned (OpenSpec.upto fnWatchAllSpec)

/-- 'laws.FnEndNew', WHERE WHAT IT READS IS OF BULK AT MOST 1048576: true; the input reads as it did. -/
def fnEndNewUptoRow : OpenClaim := { program := "ytpeejmolbmhjjaa", sum := "9c38d4a6d8c30bc29ea10781f1125103e4e6c96ecc92ab65f4bfa67a83020666", func := "loop.example/netstack/laws.FnEndNew", spec := "fnEndNew", apart := false, narrowed := true }
def FnEndNewUptoSaid : Prop := fnEndNewUptoRow.holds Try.pinned (OpenSpec.upto fnEndNewSpec)

/-- 'laws.FnExactEndNew', WHERE WHAT IT READS IS OF BULK AT MOST 1048576: true; the input reads as it did. -/
def fnExactEndNewUptoRow : OpenClaim := { program := "ytpeejmolbmhjjaa", sum := "9c38d4a6d8c30bc29ea10781f1125103e4e6c96ecc92ab65f4bfa67a83020666", func := "loop.example/netstack/laws.FnExactEndNew", spec := "fnExactEndNew", apart := false, narrowed := true }
def FnExactEndNewUptoSaid : Prop := fnExactEndNewUptoRow.holds Try.pinned (OpenSpec.upto fnExactEndNewSpec)

/-- 'laws.FnExactEndOk', WHERE WHAT IT READS IS OF BULK AT MOST 1048576: true; the input reads as it did. -/
def fnExactEndOkUptoRow : OpenClaim := { program := "ytpeejmolbmhjjaa", sum := "9c38d4a6d8c30bc29ea10781f1125103e4e6c96ecc92ab65f4bfa67a83020666", func := "loop.example/netstack/laws.FnExactEndOk", spec := "fnExactEndOk", apart := false, narrowed := true }
def FnExactEndOkUptoSaid : Prop := fnExactEndOkUptoRow.holds Try.pinned (OpenSpec.upto fnExactEndOkSpec)

/-- 'laws.FnExactEndOver', WHERE WHAT IT READS IS OF BULK AT MOST 1048576: true; the input reads as it did. -/
def fnExactEndOverUptoRow : OpenClaim := { program := "ytpeejmolbmhjjaa", sum := "9c38d4a6d8c30bc29ea10781f1125103e4e6c96ecc92ab65f4bfa67a83020666", func := "loop.example/netstack/laws.FnExactEndOver", spec := "fnExactEndOver", apart := false, narrowed := true }
def FnExactEndOverUptoSaid : Prop := fnExactEndOverUptoRow.holds Try.pinned (OpenSpec.upto fnExactEndOverSpec)

/-- 'laws.FnExactReadyOf', WHERE WHAT IT READS IS OF BULK AT MOST 1048576: true; the input reads as it did. -/
def fnExactReadyOfUptoRow : OpenClaim := { program := "ytpeejmolbmhjjaa", sum := "9c38d4a6d8c30bc29ea10781f1125103e4e6c96ecc92ab65f4bfa67a83020666", func := "loop.example/netstack/laws.FnExactReadyOf", spec := "fnExactReadyOf", apart := false, narrowed := true }
def FnExactReadyOfUptoSaid : Prop := fnExactReadyOfUptoRow.holds Try.pinned (OpenSpec.upto fnExactReadyOfSpec)

/-- 'laws.FnExactWatchLevel', WHERE WHAT IT READS IS OF BULK AT MOST 1048576: true; the input reads as it did. -/
def fnExactWatchLevelUptoRow : OpenClaim := { program := "ytpeejmolbmhjjaa", sum := "9c38d4a6d8c30bc29ea10781f1125103e4e6c96ecc92ab65f4bfa67a83020666", func := "loop.example/netstack/laws.FnExactWatchLevel", spec := "fnExactWatchLevel", apart := false, narrowed := true }
def FnExactWatchLevelUptoSaid : Prop := fnExactWatchLevelUptoRow.holds Try.pinned (OpenSpec.upto fnExactWatchLevelSpec)

/-- 'laws.FnExactWatchEdge', WHERE WHAT IT READS IS OF BULK AT MOST 1048576: true; the input reads as it did. -/
def fnExactWatchEdgeUptoRow : OpenClaim := { program := "ytpeejmolbmhjjaa", sum := "9c38d4a6d8c30bc29ea10781f1125103e4e6c96ecc92ab65f4bfa67a83020666", func := "loop.example/netstack/laws.FnExactWatchEdge", spec := "fnExactWatchEdge", apart := false, narrowed := true }
def FnExactWatchEdgeUptoSaid : Prop := fnExactWatchEdgeUptoRow.holds Try.pinned (OpenSpec.upto fnExactWatchEdgeSpec)

/-- 'laws.FnExactWorldOk', WHERE WHAT IT READS IS OF BULK AT MOST 1048576: true; the input reads as it did. -/
def fnExactWorldOkUptoRow : OpenClaim := { program := "ytpeejmolbmhjjaa", sum := "9c38d4a6d8c30bc29ea10781f1125103e4e6c96ecc92ab65f4bfa67a83020666", func := "loop.example/netstack/laws.FnExactWorldOk", spec := "fnExactWorldOk", unfollowed := true, recurses := true, apart := false, narrowed := true }
def FnExactWorldOkUptoSaid : Prop := fnExactWorldOkUptoRow.holds Try.pinned (OpenSpec.upto fnExactWorldOkSpec)

/-- 'laws.FnExactWatchAll', WHERE WHAT IT READS IS OF BULK AT MOST 1048576: true; the input reads as it did. -/
def fnExactWatchAllUptoRow : OpenClaim := { program := "ytpeejmolbmhjjaa", sum := "9c38d4a6d8c30bc29ea10781f1125103e4e6c96ecc92ab65f4bfa67a83020666", func := "loop.example/netstack/laws.FnExactWatchAll", spec := "fnExactWatchAll", apart := false, narrowed := true }
def FnExactWatchAllUptoSaid : Prop := fnExactWatchAllUptoRow.holds Try.pinned (OpenSpec.upto fnExactWatchAllSpec)

/-- 'laws.FnEndOk', WHERE WHAT IT READS IS OF BULK AT MOST 1048576: true; the input reads as it did. -/
def fnEndOkUptoRow : OpenClaim := { program := "ytpeejmolbmhjjaa", sum := "9c38d4a6d8c30bc29ea10781f1125103e4e6c96ecc92ab65f4bfa67a83020666", func := "loop.example/netstack/laws.FnEndOk", spec := "fnEndOk", apart := false, narrowed := true }
def FnEndOkUptoSaid : Prop := fnEndOkUptoRow.holds Try.pinned (OpenSpec.upto fnEndOkSpec)

/-- 'laws.FnMouthAgain', WHERE WHAT IT READS IS OF BULK AT MOST 1048576: true; the input reads as it did. -/
def fnMouthAgainUptoRow : OpenClaim := { program := "ytpeejmolbmhjjaa", sum := "9c38d4a6d8c30bc29ea10781f1125103e4e6c96ecc92ab65f4bfa67a83020666", func := "loop.example/netstack/laws.FnMouthAgain", spec := "fnMouthAgain", apart := false, narrowed := true }
def FnMouthAgainUptoSaid : Prop := fnMouthAgainUptoRow.holds Try.pinned (OpenSpec.upto fnMouthAgainSpec)

/-- 'laws.FnExactMouthAgain', WHERE WHAT IT READS IS OF BULK AT MOST 1048576: true; the input reads as it did. -/
def fnExactMouthAgainUptoRow : OpenClaim := { program := "ytpeejmolbmhjjaa", sum := "9c38d4a6d8c30bc29ea10781f1125103e4e6c96ecc92ab65f4bfa67a83020666", func := "loop.example/netstack/laws.FnExactMouthAgain", spec := "fnExactMouthAgain", apart := false, narrowed := true }
def FnExactMouthAgainUptoSaid : Prop := fnExactMouthAgainUptoRow.holds Try.pinned (OpenSpec.upto fnExactMouthAgainSpec)

end Rows
end Go.Proofs.Ytpeejmolbmhjjaa
