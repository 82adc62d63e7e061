/-
  No cell of these rows narrows 'for every input' (looked for: loops, veiled, ifaces, maps, wideKeys, modest, calm, conditions, laid).
  DERIVED. THE GIVEN ROWS OF THIS SEAT. 15 by the template 'for every input the law returns true; each argument reads behind the call as it read before'; 0 by the template 'total and deterministic' (their statements: YtkhjpkholpclhaaTotals.lean).
  GIVEN WITH THE SEED: the statements are not yours to turn. If you find one false, say at which input.
  Laid BY PROGRAM, IN A SANDBOX (cutbox-rows.mjs): the forced cells as the released guide's own fill.sh prints them over the translation 97b37fa2cbe6929a… (all of the seat's roots in one cut). By AI agents, Wed Nov 11 2026. No macro, syntax, notation, axiom, sorry.
-/
import Derived.Test.YtkhjpkholpclhaaChecked
import GoSem.Claim
import GoSem.ClaimJoined
import GoSem.ClaimMapViews
import Derived.JoinedTies
import Derived.KernelRfl
namespace Go.Proofs.Ytkhjpkholpclhaa
/- THE CELL 'sum', in the pinned program and in every row, IS THE sha256 OF THE DUMP (.gsa) THAT YtkhjpkholpclhaaProg.lean LOADS. Nothing in Lean hashes anything: it is a label: what it is worth is what the hold of that sum in a sandbox is worth. -/
noncomputable def Try.pinned : Pinned := { name := "ytkhjpkholpclhaa", sum := "97b37fa2cbe6929a682948e04e232dd1d611f2bb77eebcf22b5c7b93275bf95f", checked := Try.checked }
namespace Rows
def none {H : Type} : Left H := { results := [], args := [] }

/-- 'laws.FnExactWatchOk': WHATEVER THE INPUT: true; the input reads as it did. -/
def fnExactWatchOkSpec : ChangeSpec := { name := "fnExactWatchOk", fn := fun _ => fun
  | [d] => { results := [.lit (.bool true)], args := [d] }
  | _ => none }
def fnExactWatchOkRow : OpenClaim := { program := "ytkhjpkholpclhaa", sum := "97b37fa2cbe6929a682948e04e232dd1d611f2bb77eebcf22b5c7b93275bf95f", func := "loop.example/netstack/laws.FnExactWatchOk", spec := "fnExactWatchOk", apart := false }
def FnExactWatchOkSaid : Prop := fnExactWatchOkRow.holds Try.pinned (OpenSpec.ofChange fnExactWatchOkSpec)

/-- ITS FALSE NEIGHBOUR: 'it returns false'. Refute it at one input. -/
def fnExactWatchOkWrong : ChangeSpec := { name := "fnExactWatchOk", fn := fun _ => fun
  | [d] => { results := [.lit (.bool false)], args := [d] }
  | _ => none }
def FnExactWatchOkWrongFalsely : Prop := fnExactWatchOkRow.holds Try.pinned (OpenSpec.ofChange fnExactWatchOkWrong)

/-- 'laws.FnExactClockLate': WHATEVER THE INPUT: true; the input reads as it did. -/
def fnExactClockLateSpec : ChangeSpec := { name := "fnExactClockLate", fn := fun _ => fun
  | [d] => { results := [.lit (.bool true)], args := [d] }
  | _ => none }
def fnExactClockLateRow : OpenClaim := { program := "ytkhjpkholpclhaa", sum := "97b37fa2cbe6929a682948e04e232dd1d611f2bb77eebcf22b5c7b93275bf95f", func := "loop.example/netstack/laws.FnExactClockLate", spec := "fnExactClockLate", apart := false }
def FnExactClockLateSaid : Prop := fnExactClockLateRow.holds Try.pinned (OpenSpec.ofChange fnExactClockLateSpec)

/-- ITS FALSE NEIGHBOUR: 'it returns false'. Refute it at one input. -/
def fnExactClockLateWrong : ChangeSpec := { name := "fnExactClockLate", fn := fun _ => fun
  | [d] => { results := [.lit (.bool false)], args := [d] }
  | _ => none }
def FnExactClockLateWrongFalsely : Prop := fnExactClockLateRow.holds Try.pinned (OpenSpec.ofChange fnExactClockLateWrong)

/-- 'laws.FnExactPaceLost': WHATEVER THE INPUT: true; the input reads as it did. -/
def fnExactPaceLostSpec : ChangeSpec := { name := "fnExactPaceLost", fn := fun _ => fun
  | [d] => { results := [.lit (.bool true)], args := [d] }
  | _ => none }
def fnExactPaceLostRow : OpenClaim := { program := "ytkhjpkholpclhaa", sum := "97b37fa2cbe6929a682948e04e232dd1d611f2bb77eebcf22b5c7b93275bf95f", func := "loop.example/netstack/laws.FnExactPaceLost", spec := "fnExactPaceLost", apart := false }
def FnExactPaceLostSaid : Prop := fnExactPaceLostRow.holds Try.pinned (OpenSpec.ofChange fnExactPaceLostSpec)

/-- ITS FALSE NEIGHBOUR: 'it returns false'. Refute it at one input. -/
def fnExactPaceLostWrong : ChangeSpec := { name := "fnExactPaceLost", fn := fun _ => fun
  | [d] => { results := [.lit (.bool false)], args := [d] }
  | _ => none }
def FnExactPaceLostWrongFalsely : Prop := fnExactPaceLostRow.holds Try.pinned (OpenSpec.ofChange fnExactPaceLostWrong)

/-- 'laws.FnExactPaceHeard': WHATEVER THE INPUT: true; the input reads as it did. -/
def fnExactPaceHeardSpec : ChangeSpec := { name := "fnExactPaceHeard", fn := fun _ => fun
  | [d] => { results := [.lit (.bool true)], args := [d] }
  | _ => none }
def fnExactPaceHeardRow : OpenClaim := { program := "ytkhjpkholpclhaa", sum := "97b37fa2cbe6929a682948e04e232dd1d611f2bb77eebcf22b5c7b93275bf95f", func := "loop.example/netstack/laws.FnExactPaceHeard", spec := "fnExactPaceHeard", apart := false }
def FnExactPaceHeardSaid : Prop := fnExactPaceHeardRow.holds Try.pinned (OpenSpec.ofChange fnExactPaceHeardSpec)

/-- ITS FALSE NEIGHBOUR: 'it returns false'. Refute it at one input. -/
def fnExactPaceHeardWrong : ChangeSpec := { name := "fnExactPaceHeard", fn := fun _ => fun
  | [d] => { results := [.lit (.bool false)], args := [d] }
  | _ => none }
def FnExactPaceHeardWrongFalsely : Prop := fnExactPaceHeardRow.holds Try.pinned (OpenSpec.ofChange fnExactPaceHeardWrong)

/-- 'laws.FnExactClockTook': WHATEVER THE INPUT: true; the input reads as it did. -/
def fnExactClockTookSpec : ChangeSpec := { name := "fnExactClockTook", fn := fun _ => fun
  | [d1, d2] => { results := [.lit (.bool true)], args := [d1, d2] }
  | _ => none }
def fnExactClockTookRow : OpenClaim := { program := "ytkhjpkholpclhaa", sum := "97b37fa2cbe6929a682948e04e232dd1d611f2bb77eebcf22b5c7b93275bf95f", func := "loop.example/netstack/laws.FnExactClockTook", spec := "fnExactClockTook", apart := false }
def FnExactClockTookSaid : Prop := fnExactClockTookRow.holds Try.pinned (OpenSpec.ofChange fnExactClockTookSpec)

/-- ITS FALSE NEIGHBOUR: 'it returns false'. Refute it at one input. -/
def fnExactClockTookWrong : ChangeSpec := { name := "fnExactClockTook", fn := fun _ => fun
  | [d1, d2] => { results := [.lit (.bool false)], args := [d1, d2] }
  | _ => none }
def FnExactClockTookWrongFalsely : Prop := fnExactClockTookRow.holds Try.pinned (OpenSpec.ofChange fnExactClockTookWrong)

/-- 'laws.FnPaceOk': WHATEVER THE INPUT: true; the input reads as it did. -/
def fnPaceOkSpec : ChangeSpec := { name := "fnPaceOk", fn := fun _ => fun
  | [d] => { results := [.lit (.bool true)], args := [d] }
  | _ => none }
def fnPaceOkRow : OpenClaim := { program := "ytkhjpkholpclhaa", sum := "97b37fa2cbe6929a682948e04e232dd1d611f2bb77eebcf22b5c7b93275bf95f", func := "loop.example/netstack/laws.FnPaceOk", spec := "fnPaceOk", apart := false }
def FnPaceOkSaid : Prop := fnPaceOkRow.holds Try.pinned (OpenSpec.ofChange fnPaceOkSpec)

/-- ITS FALSE NEIGHBOUR: 'it returns false'. Refute it at one input. -/
def fnPaceOkWrong : ChangeSpec := { name := "fnPaceOk", fn := fun _ => fun
  | [d] => { results := [.lit (.bool false)], args := [d] }
  | _ => none }
def FnPaceOkWrongFalsely : Prop := fnPaceOkRow.holds Try.pinned (OpenSpec.ofChange fnPaceOkWrong)

/-- 'laws.FnWatchOk': WHATEVER THE INPUT: true; the input reads as it did. -/
def fnWatchOkSpec : ChangeSpec := { name := "fnWatchOk", fn := fun _ => fun
  | [d] => { results := [.lit (.bool true)], args := [d] }
  | _ => none }
def fnWatchOkRow : OpenClaim := { program := "ytkhjpkholpclhaa", sum := "97b37fa2cbe6929a682948e04e232dd1d611f2bb77eebcf22b5c7b93275bf95f", func := "loop.example/netstack/laws.FnWatchOk", spec := "fnWatchOk", apart := false }
def FnWatchOkSaid : Prop := fnWatchOkRow.holds Try.pinned (OpenSpec.ofChange fnWatchOkSpec)

/-- ITS FALSE NEIGHBOUR: 'it returns false'. Refute it at one input. -/
def fnWatchOkWrong : ChangeSpec := { name := "fnWatchOk", fn := fun _ => fun
  | [d] => { results := [.lit (.bool false)], args := [d] }
  | _ => none }
def FnWatchOkWrongFalsely : Prop := fnWatchOkRow.holds Try.pinned (OpenSpec.ofChange fnWatchOkWrong)

/-- 'laws.FnShared': WHATEVER THE INPUT: true; the input reads as it did. -/
def fnSharedSpec : ChangeSpec := { name := "fnShared", fn := fun _ => fun
  | [d] => { results := [.lit (.bool true)], args := [d] }
  | _ => none }
def fnSharedRow : OpenClaim := { program := "ytkhjpkholpclhaa", sum := "97b37fa2cbe6929a682948e04e232dd1d611f2bb77eebcf22b5c7b93275bf95f", func := "loop.example/netstack/laws.FnShared", spec := "fnShared", apart := false }
def FnSharedSaid : Prop := fnSharedRow.holds Try.pinned (OpenSpec.ofChange fnSharedSpec)

/-- ITS FALSE NEIGHBOUR: 'it returns false'. Refute it at one input. -/
def fnSharedWrong : ChangeSpec := { name := "fnShared", fn := fun _ => fun
  | [d] => { results := [.lit (.bool false)], args := [d] }
  | _ => none }
def FnSharedWrongFalsely : Prop := fnSharedRow.holds Try.pinned (OpenSpec.ofChange fnSharedWrong)

/-- 'laws.FnPaceHeard': WHATEVER THE INPUT: true; the input reads as it did. -/
def fnPaceHeardSpec : ChangeSpec := { name := "fnPaceHeard", fn := fun _ => fun
  | [d] => { results := [.lit (.bool true)], args := [d] }
  | _ => none }
def fnPaceHeardRow : OpenClaim := { program := "ytkhjpkholpclhaa", sum := "97b37fa2cbe6929a682948e04e232dd1d611f2bb77eebcf22b5c7b93275bf95f", func := "loop.example/netstack/laws.FnPaceHeard", spec := "fnPaceHeard", apart := false }
def FnPaceHeardSaid : Prop := fnPaceHeardRow.holds Try.pinned (OpenSpec.ofChange fnPaceHeardSpec)

/-- ITS FALSE NEIGHBOUR: 'it returns false'. Refute it at one input. -/
def fnPaceHeardWrong : ChangeSpec := { name := "fnPaceHeard", fn := fun _ => fun
  | [d] => { results := [.lit (.bool false)], args := [d] }
  | _ => none }
def FnPaceHeardWrongFalsely : Prop := fnPaceHeardRow.holds Try.pinned (OpenSpec.ofChange fnPaceHeardWrong)

/-- 'laws.FnPaceLate': WHATEVER THE INPUT: true; the input reads as it did. -/
def fnPaceLateSpec : ChangeSpec := { name := "fnPaceLate", fn := fun _ => fun
  | [d] => { results := [.lit (.bool true)], args := [d] }
  | _ => none }
def fnPaceLateRow : OpenClaim := { program := "ytkhjpkholpclhaa", sum := "97b37fa2cbe6929a682948e04e232dd1d611f2bb77eebcf22b5c7b93275bf95f", func := "loop.example/netstack/laws.FnPaceLate", spec := "fnPaceLate", apart := false }
def FnPaceLateSaid : Prop := fnPaceLateRow.holds Try.pinned (OpenSpec.ofChange fnPaceLateSpec)

/-- ITS FALSE NEIGHBOUR: 'it returns false'. Refute it at one input. -/
def fnPaceLateWrong : ChangeSpec := { name := "fnPaceLate", fn := fun _ => fun
  | [d] => { results := [.lit (.bool false)], args := [d] }
  | _ => none }
def FnPaceLateWrongFalsely : Prop := fnPaceLateRow.holds Try.pinned (OpenSpec.ofChange fnPaceLateWrong)

/-- 'laws.FnTimes': WHATEVER THE INPUT: true; the input reads as it did. -/
def fnTimesSpec : ChangeSpec := { name := "fnTimes", fn := fun _ => fun
  | [d] => { results := [.lit (.bool true)], args := [d] }
  | _ => none }
def fnTimesRow : OpenClaim := { program := "ytkhjpkholpclhaa", sum := "97b37fa2cbe6929a682948e04e232dd1d611f2bb77eebcf22b5c7b93275bf95f", func := "loop.example/netstack/laws.FnTimes", spec := "fnTimes", apart := false }
def FnTimesSaid : Prop := fnTimesRow.holds Try.pinned (OpenSpec.ofChange fnTimesSpec)

/-- ITS FALSE NEIGHBOUR: 'it returns false'. Refute it at one input. -/
def fnTimesWrong : ChangeSpec := { name := "fnTimes", fn := fun _ => fun
  | [d] => { results := [.lit (.bool false)], args := [d] }
  | _ => none }
def FnTimesWrongFalsely : Prop := fnTimesRow.holds Try.pinned (OpenSpec.ofChange fnTimesWrong)

/-- 'laws.FnPaceLost': WHATEVER THE INPUT: true; the input reads as it did. -/
def fnPaceLostSpec : ChangeSpec := { name := "fnPaceLost", fn := fun _ => fun
  | [d] => { results := [.lit (.bool true)], args := [d] }
  | _ => none }
def fnPaceLostRow : OpenClaim := { program := "ytkhjpkholpclhaa", sum := "97b37fa2cbe6929a682948e04e232dd1d611f2bb77eebcf22b5c7b93275bf95f", func := "loop.example/netstack/laws.FnPaceLost", spec := "fnPaceLost", apart := false }
def FnPaceLostSaid : Prop := fnPaceLostRow.holds Try.pinned (OpenSpec.ofChange fnPaceLostSpec)

/-- ITS FALSE NEIGHBOUR: 'it returns false'. Refute it at one input. -/
def fnPaceLostWrong : ChangeSpec := { name := "fnPaceLost", fn := fun _ => fun
  | [d] => { results := [.lit (.bool false)], args := [d] }
  | _ => none }
def FnPaceLostWrongFalsely : Prop := fnPaceLostRow.holds Try.pinned (OpenSpec.ofChange fnPaceLostWrong)

/-- 'laws.FnClockOk': WHATEVER THE INPUT: true; the input reads as it did. -/
def fnClockOkSpec : ChangeSpec := { name := "fnClockOk", fn := fun _ => fun
  | [d] => { results := [.lit (.bool true)], args := [d] }
  | _ => none }
def fnClockOkRow : OpenClaim := { program := "ytkhjpkholpclhaa", sum := "97b37fa2cbe6929a682948e04e232dd1d611f2bb77eebcf22b5c7b93275bf95f", func := "loop.example/netstack/laws.FnClockOk", spec := "fnClockOk", apart := false }
def FnClockOkSaid : Prop := fnClockOkRow.holds Try.pinned (OpenSpec.ofChange fnClockOkSpec)

/-- ITS FALSE NEIGHBOUR: 'it returns false'. Refute it at one input. -/
def fnClockOkWrong : ChangeSpec := { name := "fnClockOk", fn := fun _ => fun
  | [d] => { results := [.lit (.bool false)], args := [d] }
  | _ => none }
def FnClockOkWrongFalsely : Prop := fnClockOkRow.holds Try.pinned (OpenSpec.ofChange fnClockOkWrong)

/-- 'laws.FnClockLate': WHATEVER THE INPUT: true; the input reads as it did. -/
def fnClockLateSpec : ChangeSpec := { name := "fnClockLate", fn := fun _ => fun
  | [d] => { results := [.lit (.bool true)], args := [d] }
  | _ => none }
def fnClockLateRow : OpenClaim := { program := "ytkhjpkholpclhaa", sum := "97b37fa2cbe6929a682948e04e232dd1d611f2bb77eebcf22b5c7b93275bf95f", func := "loop.example/netstack/laws.FnClockLate", spec := "fnClockLate", apart := false }
def FnClockLateSaid : Prop := fnClockLateRow.holds Try.pinned (OpenSpec.ofChange fnClockLateSpec)

/-- ITS FALSE NEIGHBOUR: 'it returns false'. Refute it at one input. -/
def fnClockLateWrong : ChangeSpec := { name := "fnClockLate", fn := fun _ => fun
  | [d] => { results := [.lit (.bool false)], args := [d] }
  | _ => none }
def FnClockLateWrongFalsely : Prop := fnClockLateRow.holds Try.pinned (OpenSpec.ofChange fnClockLateWrong)

/-- 'laws.FnClockTook': WHATEVER THE INPUT: true; the input reads as it did. -/
def fnClockTookSpec : ChangeSpec := { name := "fnClockTook", fn := fun _ => fun
  | [d] => { results := [.lit (.bool true)], args := [d] }
  | _ => none }
def fnClockTookRow : OpenClaim := { program := "ytkhjpkholpclhaa", sum := "97b37fa2cbe6929a682948e04e232dd1d611f2bb77eebcf22b5c7b93275bf95f", func := "loop.example/netstack/laws.FnClockTook", spec := "fnClockTook", apart := false }
def FnClockTookSaid : Prop := fnClockTookRow.holds Try.pinned (OpenSpec.ofChange fnClockTookSpec)

/-- ITS FALSE NEIGHBOUR: 'it returns false'. Refute it at one input. -/
def fnClockTookWrong : ChangeSpec := { name := "fnClockTook", fn := fun _ => fun
  | [d] => { results := [.lit (.bool false)], args := [d] }
  | _ => none }
def FnClockTookWrongFalsely : Prop := fnClockTookRow.holds Try.pinned (OpenSpec.ofChange fnClockTookWrong)

/- THE SECOND FORM. 'bulk': how many values and letters a reading holds, each counted each time it is reached (what is shared counts as often as it is met; a slice's spare places count too). A statement '..UptoSaid' is the law's where the arguments, and the package variables that the reading takes, are together of bulk at most 1048576: NARROWER than '..Said'. Prove '..Said' where nothing that the law and all that it calls make is longer than what came in: it says more and counts as full. Else prove '..UptoSaid'. A law counts once. -/
mutual
def uptoBulk {H : Type} : DataW H → Nat
  | .lit (.string bytes) => bytes.length + 1
  | .lit _ => 1
  | .nil => 1
  | .ptr d => uptoBulk d + 1
  | .slice elems spare => uptoBulkAll elems + uptoBulkAll spare + 1
  | .agg parts => uptoBulkAll parts + 1
  | .iface _ d => uptoBulk d + 1
  | .map entries => uptoBulkEntries entries + 1
  | .held _ => 1
def uptoBulkAll {H : Type} : List (DataW H) → Nat
  | [] => 0
  | d :: r => uptoBulk d + uptoBulkAll r
def uptoBulkEntries {H : Type} : List (Lit × DataW H) → Nat
  | [] => 0
  | x :: r => uptoBulkEntry x + uptoBulkEntries r
def uptoBulkEntry {H : Type} : Lit × DataW H → Nat
  | (.string bytes, d) => bytes.length + uptoBulk d + 1
  | (_, d) => uptoBulk d + 1
 end
def uptoSmall : (H : Type) → List (DataW H) → Bool := fun _ ds => decide (uptoBulkAll ds ≤ 1048576)
def OpenSpec.upto (s : _root_.Go.ChangeSpec) : _root_.Go.OpenSpec := { _root_.Go.OpenSpec.ofChange s with cond := some uptoSmall }

/-- 'laws.FnExactWatchOk', WHERE WHAT IT READS IS OF BULK AT MOST 1048576: true; the input reads as it did. -/
def fnExactWatchOkUptoRow : OpenClaim := { program := "ytkhjpkholpclhaa", sum := "97b37fa2cbe6929a682948e04e232dd1d611f2bb77eebcf22b5c7b93275bf95f", func := "loop.example/netstack/laws.FnExactWatchOk", spec := "fnExactWatchOk", apart := false, narrowed := true }
def FnExactWatchOkUptoSaid : Prop := fnExactWatchOkUptoRow.holds Try.pinned (OpenSpec.upto fnExactWatchOkSpec)

/-- 'laws.FnExactClockLate', WHERE WHAT IT READS IS OF BULK AT MOST 1048576: true; the input reads as it did. -/
def fnExactClockLateUptoRow : OpenClaim := { program := "ytkhjpkholpclhaa", sum := "97b37fa2cbe6929a682948e04e232dd1d611f2bb77eebcf22b5c7b93275bf95f", func := "loop.example/netstack/laws.FnExactClockLate", spec := "fnExactClockLate", apart := false, narrowed := true }
def FnExactClockLateUptoSaid : Prop := fnExactClockLateUptoRow.holds Try.pinned (OpenSpec.upto fnExactClockLateSpec)

/-- 'laws.FnExactPaceLost', WHERE WHAT IT READS IS OF BULK AT MOST 1048576: true; the input reads as it did. -/
def fnExactPaceLostUptoRow : OpenClaim := { program := "ytkhjpkholpclhaa", sum := "97b37fa2cbe6929a682948e04e232dd1d611f2bb77eebcf22b5c7b93275bf95f", func := "loop.example/netstack/laws.FnExactPaceLost", spec := "fnExactPaceLost", apart := false, narrowed := true }
def FnExactPaceLostUptoSaid : Prop := fnExactPaceLostUptoRow.holds Try.pinned (OpenSpec.upto fnExactPaceLostSpec)

/-- 'laws.FnExactPaceHeard', WHERE WHAT IT READS IS OF BULK AT MOST 1048576: true; the input reads as it did. -/
def fnExactPaceHeardUptoRow : OpenClaim := { program := "ytkhjpkholpclhaa", sum := "97b37fa2cbe6929a682948e04e232dd1d611f2bb77eebcf22b5c7b93275bf95f", func := "loop.example/netstack/laws.FnExactPaceHeard", spec := "fnExactPaceHeard", apart := false, narrowed := true }
def FnExactPaceHeardUptoSaid : Prop := fnExactPaceHeardUptoRow.holds Try.pinned (OpenSpec.upto fnExactPaceHeardSpec)

/-- 'laws.FnExactClockTook', WHERE WHAT IT READS IS OF BULK AT MOST 1048576: true; the input reads as it did. -/
def fnExactClockTookUptoRow : OpenClaim := { program := "ytkhjpkholpclhaa", sum := "97b37fa2cbe6929a682948e04e232dd1d611f2bb77eebcf22b5c7b93275bf95f", func := "loop.example/netstack/laws.FnExactClockTook", spec := "fnExactClockTook", apart := false, narrowed := true }
def FnExactClockTookUptoSaid : Prop := fnExactClockTookUptoRow.holds Try.pinned (OpenSpec.upto fnExactClockTookSpec)

/-- 'laws.FnPaceOk', WHERE WHAT IT READS IS OF BULK AT MOST 1048576: true; the input reads as it did. -/
def fnPaceOkUptoRow : OpenClaim := { program := "ytkhjpkholpclhaa", sum := "97b37fa2cbe6929a682948e04e232dd1d611f2bb77eebcf22b5c7b93275bf95f", func := "loop.example/netstack/laws.FnPaceOk", spec := "fnPaceOk", apart := false, narrowed := true }
def FnPaceOkUptoSaid : Prop := fnPaceOkUptoRow.holds Try.pinned (OpenSpec.upto fnPaceOkSpec)

/-- 'laws.FnWatchOk', WHERE WHAT IT READS IS OF BULK AT MOST 1048576: true; the input reads as it did. -/
def fnWatchOkUptoRow : OpenClaim := { program := "ytkhjpkholpclhaa", sum := "97b37fa2cbe6929a682948e04e232dd1d611f2bb77eebcf22b5c7b93275bf95f", func := "loop.example/netstack/laws.FnWatchOk", spec := "fnWatchOk", apart := false, narrowed := true }
def FnWatchOkUptoSaid : Prop := fnWatchOkUptoRow.holds Try.pinned (OpenSpec.upto fnWatchOkSpec)

/-- 'laws.FnShared', WHERE WHAT IT READS IS OF BULK AT MOST 1048576: true; the input reads as it did. -/
def fnSharedUptoRow : OpenClaim := { program := "ytkhjpkholpclhaa", sum := "97b37fa2cbe6929a682948e04e232dd1d611f2bb77eebcf22b5c7b93275bf95f", func := "loop.example/netstack/laws.FnShared", spec := "fnShared", apart := false, narrowed := true }
def FnSharedUptoSaid : Prop := fnSharedUptoRow.holds Try.pinned (OpenSpec.upto fnSharedSpec)

/-- 'laws.FnPaceHeard', WHERE WHAT IT READS IS OF BULK AT MOST 1048576: true; the input reads as it did. -/
def fnPaceHeardUptoRow : OpenClaim := { program := "ytkhjpkholpclhaa", sum := "97b37fa2cbe6929a682948e04e232dd1d611f2bb77eebcf22b5c7b93275bf95f", func := "loop.example/netstack/laws.FnPaceHeard", spec := "fnPaceHeard", apart := false, narrowed := true }
def FnPaceHeardUptoSaid : Prop := fnPaceHeardUptoRow.holds Try.pinned (OpenSpec.upto fnPaceHeardSpec)

/-- 'laws.FnPaceLate', WHERE WHAT IT READS IS OF BULK AT MOST 1048576: true; the input reads as it did. -/
def fnPaceLateUptoRow : OpenClaim := { program := "ytkhjpkholpclhaa", sum := "97b37fa2cbe6929a682948e04e232dd1d611f2bb77eebcf22b5c7b93275bf95f", func := "loop.example/netstack/laws.FnPaceLate", spec := "fnPaceLate", apart := false, narrowed := true }
def FnPaceLateUptoSaid : Prop := fnPaceLateUptoRow.holds Try.pinned (OpenSpec.upto fnPaceLateSpec)

/-- 'laws.FnTimes', WHERE WHAT IT READS IS OF BULK AT MOST 1048576: true; the input reads as it did. -/
def fnTimesUptoRow : OpenClaim := { program := "ytkhjpkholpclhaa", sum := "97b37fa2cbe6929a682948e04e232dd1d611f2bb77eebcf22b5c7b93275bf95f", func := "loop.example/netstack/laws.FnTimes", spec := "fnTimes", apart := false, narrowed := true }
def FnTimesUptoSaid : Prop := fnTimesUptoRow.holds Try.pinned (OpenSpec.upto fnTimesSpec)

/-- 'laws.FnPaceLost', WHERE WHAT IT READS IS OF BULK AT MOST 1048576: true; the input reads as it did. -/
def fnPaceLostUptoRow : OpenClaim := { program := "ytkhjpkholpclhaa", sum := "97b37fa2cbe6929a682948e04e232dd1d611f2bb77eebcf22b5c7b93275bf95f", func := "loop.example/netstack/laws.FnPaceLost", spec := "fnPaceLost", apart := false, narrowed := true }
def FnPaceLostUptoSaid : Prop := fnPaceLostUptoRow.holds Try.pinned (OpenSpec.upto fnPaceLostSpec)

/-- 'laws.FnClockOk', WHERE WHAT IT READS IS OF BULK AT MOST 1048576: true; the input reads as it did. -/
def fnClockOkUptoRow : OpenClaim := { program := "ytkhjpkholpclhaa", sum := "97b37fa2cbe6929a682948e04e232dd1d611f2bb77eebcf22b5c7b93275bf95f", func := "loop.example/netstack/laws.FnClockOk", spec := "fnClockOk", apart := false, narrowed := true }
def FnClockOkUptoSaid : Prop := fnClockOkUptoRow.holds Try.pinned (OpenSpec.upto fnClockOkSpec)

/-- 'laws.FnClockLate', WHERE WHAT IT READS IS OF BULK AT MOST 1048576: true; the input reads as it did. -/
def fnClockLateUptoRow : OpenClaim := { program := "ytkhjpkholpclhaa", sum := "97b37fa2cbe6929a682948e04e232dd1d611f2bb77eebcf22b5c7b93275bf95f", func := "loop.example/netstack/laws.FnClockLate", spec := "fnClockLate", apart := false, narrowed := true }
def FnClockLateUptoSaid : Prop := fnClockLateUptoRow.holds Try.pinned (OpenSpec.upto fnClockLateSpec)

/-- 'laws.FnClockTook', WHERE WHAT IT READS IS OF BULK AT MOST 1048576: true; the input reads as it did. -/
def fnClockTookUptoRow : OpenClaim := { program := "ytkhjpkholpclhaa", sum := "97b37fa2cbe6929a682948e04e232dd1d611f2bb77eebcf22b5c7b93275bf95f", func := "loop.example/netstack/laws.FnClockTook", spec := "fnClockTook", apart := false, narrowed := true }
def FnClockTookUptoSaid : Prop := fnClockTookUptoRow.holds Try.pinned (OpenSpec.upto fnClockTookSpec)

end Rows
end Go.Proofs.Ytkhjpkholpclhaa
