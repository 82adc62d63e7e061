/-
  No cell of these rows narrows 'for every input' (looked for: loops, veiled, ifaces, maps, wideKeys, modest, calm, conditions, laid).
  DERIVED. THE GIVEN ROWS OF THIS SEAT. 15 by the template 'for every input the law returns true; each argument reads behind the call as it read before'; 0 by the template 'total and deterministic' (their statements: YtmgnmgobibpjjaaTotals.lean).
  GIVEN WITH THE SEED: the statements are not yours to turn. If you find one false, say at which input.
  Laid BY PROGRAM, IN A SANDBOX (cutbox-rows.mjs): the forced cells as the released guide's own fill.sh prints them over the translation 64d0e293f991f473… (all of the seat's roots in one cut). By AI agents, Wed Nov 11 2026. No macro, syntax, notation, axiom, sorry.
-/
import Derived.Test.YtmgnmgobibpjjaaChecked
import GoSem.Claim
import GoSem.ClaimJoined
import GoSem.ClaimMapViews
import Derived.JoinedTies
import Derived.KernelRfl
namespace Go.Proofs.Ytmgnmgobibpjjaa
/- THE CELL 'sum', in the pinned program and in every row, IS THE sha256 OF THE DUMP (.gsa) THAT YtmgnmgobibpjjaaProg.lean LOADS. Nothing in Lean hashes anything: it is a label: what it is worth is what the hold of that sum in a sandbox is worth. -/
noncomputable def Try.pinned : Pinned := { name := "ytmgnmgobibpjjaa", sum := "64d0e293f991f4731e2b652f92e0a4aa3ee9f4ae1526033caa9a4c42317a9cf2", checked := Try.checked }
namespace Rows
def none {H : Type} : Left H := { results := [], args := [] }

/-- 'laws.FnExactNameOk': WHATEVER THE INPUT: true; the input reads as it did. -/
def fnExactNameOkSpec : ChangeSpec := { name := "fnExactNameOk", fn := fun _ => fun
  | [d] => { results := [.lit (.bool true)], args := [d] }
  | _ => none }
def fnExactNameOkRow : OpenClaim := { program := "ytmgnmgobibpjjaa", sum := "64d0e293f991f4731e2b652f92e0a4aa3ee9f4ae1526033caa9a4c42317a9cf2", func := "loop.example/netstack/laws.FnExactNameOk", spec := "fnExactNameOk", apart := false }
def FnExactNameOkSaid : Prop := fnExactNameOkRow.holds Try.pinned (OpenSpec.ofChange fnExactNameOkSpec)

/-- ITS FALSE NEIGHBOUR: 'it returns false'. Refute it at one input. -/
def fnExactNameOkWrong : ChangeSpec := { name := "fnExactNameOk", fn := fun _ => fun
  | [d] => { results := [.lit (.bool false)], args := [d] }
  | _ => none }
def FnExactNameOkWrongFalsely : Prop := fnExactNameOkRow.holds Try.pinned (OpenSpec.ofChange fnExactNameOkWrong)

/-- 'laws.FnNameOk': WHATEVER THE INPUT: true; the input reads as it did. -/
def fnNameOkSpec : ChangeSpec := { name := "fnNameOk", fn := fun _ => fun
  | [d] => { results := [.lit (.bool true)], args := [d] }
  | _ => none }
def fnNameOkRow : OpenClaim := { program := "ytmgnmgobibpjjaa", sum := "64d0e293f991f4731e2b652f92e0a4aa3ee9f4ae1526033caa9a4c42317a9cf2", func := "loop.example/netstack/laws.FnNameOk", spec := "fnNameOk", apart := false }
def FnNameOkSaid : Prop := fnNameOkRow.holds Try.pinned (OpenSpec.ofChange fnNameOkSpec)

/-- ITS FALSE NEIGHBOUR: 'it returns false'. Refute it at one input. -/
def fnNameOkWrong : ChangeSpec := { name := "fnNameOk", fn := fun _ => fun
  | [d] => { results := [.lit (.bool false)], args := [d] }
  | _ => none }
def FnNameOkWrongFalsely : Prop := fnNameOkRow.holds Try.pinned (OpenSpec.ofChange fnNameOkWrong)

/-- 'laws.FnExactNamesOk': WHATEVER THE INPUT: true; the input reads as it did. -/
def fnExactNamesOkSpec : ChangeSpec := { name := "fnExactNamesOk", fn := fun _ => fun
  | [d] => { results := [.lit (.bool true)], args := [d] }
  | _ => none }
def fnExactNamesOkRow : OpenClaim := { program := "ytmgnmgobibpjjaa", sum := "64d0e293f991f4731e2b652f92e0a4aa3ee9f4ae1526033caa9a4c42317a9cf2", func := "loop.example/netstack/laws.FnExactNamesOk", spec := "fnExactNamesOk", apart := false }
def FnExactNamesOkSaid : Prop := fnExactNamesOkRow.holds Try.pinned (OpenSpec.ofChange fnExactNamesOkSpec)

/-- ITS FALSE NEIGHBOUR: 'it returns false'. Refute it at one input. -/
def fnExactNamesOkWrong : ChangeSpec := { name := "fnExactNamesOk", fn := fun _ => fun
  | [d] => { results := [.lit (.bool false)], args := [d] }
  | _ => none }
def FnExactNamesOkWrongFalsely : Prop := fnExactNamesOkRow.holds Try.pinned (OpenSpec.ofChange fnExactNamesOkWrong)

/-- 'laws.FnNamesOk': WHATEVER THE INPUT: true; the input reads as it did. -/
def fnNamesOkSpec : ChangeSpec := { name := "fnNamesOk", fn := fun _ => fun
  | [d] => { results := [.lit (.bool true)], args := [d] }
  | _ => none }
def fnNamesOkRow : OpenClaim := { program := "ytmgnmgobibpjjaa", sum := "64d0e293f991f4731e2b652f92e0a4aa3ee9f4ae1526033caa9a4c42317a9cf2", func := "loop.example/netstack/laws.FnNamesOk", spec := "fnNamesOk", apart := false }
def FnNamesOkSaid : Prop := fnNamesOkRow.holds Try.pinned (OpenSpec.ofChange fnNamesOkSpec)

/-- ITS FALSE NEIGHBOUR: 'it returns false'. Refute it at one input. -/
def fnNamesOkWrong : ChangeSpec := { name := "fnNamesOk", fn := fun _ => fun
  | [d] => { results := [.lit (.bool false)], args := [d] }
  | _ => none }
def FnNamesOkWrongFalsely : Prop := fnNamesOkRow.holds Try.pinned (OpenSpec.ofChange fnNamesOkWrong)

/-- 'laws.FnExactNameAsk': WHATEVER THE INPUT: true; the input reads as it did. -/
def fnExactNameAskSpec : ChangeSpec := { name := "fnExactNameAsk", fn := fun _ => fun
  | [d1, d2] => { results := [.lit (.bool true)], args := [d1, d2] }
  | _ => none }
def fnExactNameAskRow : OpenClaim := { program := "ytmgnmgobibpjjaa", sum := "64d0e293f991f4731e2b652f92e0a4aa3ee9f4ae1526033caa9a4c42317a9cf2", func := "loop.example/netstack/laws.FnExactNameAsk", spec := "fnExactNameAsk", unfollowed := true, recurses := true, apart := false }
def FnExactNameAskSaid : Prop := fnExactNameAskRow.holds Try.pinned (OpenSpec.ofChange fnExactNameAskSpec)

/-- ITS FALSE NEIGHBOUR: 'it returns false'. Refute it at one input. -/
def fnExactNameAskWrong : ChangeSpec := { name := "fnExactNameAsk", fn := fun _ => fun
  | [d1, d2] => { results := [.lit (.bool false)], args := [d1, d2] }
  | _ => none }
def FnExactNameAskWrongFalsely : Prop := fnExactNameAskRow.holds Try.pinned (OpenSpec.ofChange fnExactNameAskWrong)

/-- 'laws.FnExactKeptOk': WHATEVER THE INPUT: true; the input reads as it did. -/
def fnExactKeptOkSpec : ChangeSpec := { name := "fnExactKeptOk", fn := fun _ => fun
  | [d] => { results := [.lit (.bool true)], args := [d] }
  | _ => none }
def fnExactKeptOkRow : OpenClaim := { program := "ytmgnmgobibpjjaa", sum := "64d0e293f991f4731e2b652f92e0a4aa3ee9f4ae1526033caa9a4c42317a9cf2", func := "loop.example/netstack/laws.FnExactKeptOk", spec := "fnExactKeptOk", unfollowed := true, recurses := true, apart := false }
def FnExactKeptOkSaid : Prop := fnExactKeptOkRow.holds Try.pinned (OpenSpec.ofChange fnExactKeptOkSpec)

/-- ITS FALSE NEIGHBOUR: 'it returns false'. Refute it at one input. -/
def fnExactKeptOkWrong : ChangeSpec := { name := "fnExactKeptOk", fn := fun _ => fun
  | [d] => { results := [.lit (.bool false)], args := [d] }
  | _ => none }
def FnExactKeptOkWrongFalsely : Prop := fnExactKeptOkRow.holds Try.pinned (OpenSpec.ofChange fnExactKeptOkWrong)

/-- 'laws.FnNameAsk': WHATEVER THE INPUT: true; the input reads as it did. -/
def fnNameAskSpec : ChangeSpec := { name := "fnNameAsk", fn := fun _ => fun
  | [d] => { results := [.lit (.bool true)], args := [d] }
  | _ => none }
def fnNameAskRow : OpenClaim := { program := "ytmgnmgobibpjjaa", sum := "64d0e293f991f4731e2b652f92e0a4aa3ee9f4ae1526033caa9a4c42317a9cf2", func := "loop.example/netstack/laws.FnNameAsk", spec := "fnNameAsk", unfollowed := true, recurses := true, apart := false }
def FnNameAskSaid : Prop := fnNameAskRow.holds Try.pinned (OpenSpec.ofChange fnNameAskSpec)

/-- ITS FALSE NEIGHBOUR: 'it returns false'. Refute it at one input. -/
def fnNameAskWrong : ChangeSpec := { name := "fnNameAsk", fn := fun _ => fun
  | [d] => { results := [.lit (.bool false)], args := [d] }
  | _ => none }
def FnNameAskWrongFalsely : Prop := fnNameAskRow.holds Try.pinned (OpenSpec.ofChange fnNameAskWrong)

/-- 'laws.FnExactNameFind': WHATEVER THE INPUT: true; the input reads as it did. -/
def fnExactNameFindSpec : ChangeSpec := { name := "fnExactNameFind", fn := fun _ => fun
  | [d1, d2] => { results := [.lit (.bool true)], args := [d1, d2] }
  | _ => none }
def fnExactNameFindRow : OpenClaim := { program := "ytmgnmgobibpjjaa", sum := "64d0e293f991f4731e2b652f92e0a4aa3ee9f4ae1526033caa9a4c42317a9cf2", func := "loop.example/netstack/laws.FnExactNameFind", spec := "fnExactNameFind", unfollowed := true, recurses := true, apart := false }
def FnExactNameFindSaid : Prop := fnExactNameFindRow.holds Try.pinned (OpenSpec.ofChange fnExactNameFindSpec)

/-- ITS FALSE NEIGHBOUR: 'it returns false'. Refute it at one input. -/
def fnExactNameFindWrong : ChangeSpec := { name := "fnExactNameFind", fn := fun _ => fun
  | [d1, d2] => { results := [.lit (.bool false)], args := [d1, d2] }
  | _ => none }
def FnExactNameFindWrongFalsely : Prop := fnExactNameFindRow.holds Try.pinned (OpenSpec.ofChange fnExactNameFindWrong)

/-- 'laws.FnNameFind': WHATEVER THE INPUT: true; the input reads as it did. -/
def fnNameFindSpec : ChangeSpec := { name := "fnNameFind", fn := fun _ => fun
  | [d] => { results := [.lit (.bool true)], args := [d] }
  | _ => none }
def fnNameFindRow : OpenClaim := { program := "ytmgnmgobibpjjaa", sum := "64d0e293f991f4731e2b652f92e0a4aa3ee9f4ae1526033caa9a4c42317a9cf2", func := "loop.example/netstack/laws.FnNameFind", spec := "fnNameFind", unfollowed := true, recurses := true, apart := false }
def FnNameFindSaid : Prop := fnNameFindRow.holds Try.pinned (OpenSpec.ofChange fnNameFindSpec)

/-- ITS FALSE NEIGHBOUR: 'it returns false'. Refute it at one input. -/
def fnNameFindWrong : ChangeSpec := { name := "fnNameFind", fn := fun _ => fun
  | [d] => { results := [.lit (.bool false)], args := [d] }
  | _ => none }
def FnNameFindWrongFalsely : Prop := fnNameFindRow.holds Try.pinned (OpenSpec.ofChange fnNameFindWrong)

/-- 'laws.FnKeptOk': WHATEVER THE INPUT: true; the input reads as it did. -/
def fnKeptOkSpec : ChangeSpec := { name := "fnKeptOk", fn := fun _ => fun
  | [d] => { results := [.lit (.bool true)], args := [d] }
  | _ => none }
def fnKeptOkRow : OpenClaim := { program := "ytmgnmgobibpjjaa", sum := "64d0e293f991f4731e2b652f92e0a4aa3ee9f4ae1526033caa9a4c42317a9cf2", func := "loop.example/netstack/laws.FnKeptOk", spec := "fnKeptOk", unfollowed := true, recurses := true, apart := false }
def FnKeptOkSaid : Prop := fnKeptOkRow.holds Try.pinned (OpenSpec.ofChange fnKeptOkSpec)

/-- ITS FALSE NEIGHBOUR: 'it returns false'. Refute it at one input. -/
def fnKeptOkWrong : ChangeSpec := { name := "fnKeptOk", fn := fun _ => fun
  | [d] => { results := [.lit (.bool false)], args := [d] }
  | _ => none }
def FnKeptOkWrongFalsely : Prop := fnKeptOkRow.holds Try.pinned (OpenSpec.ofChange fnKeptOkWrong)

/-- 'laws.FnTexts': WHATEVER THE INPUT: true; the input reads as it did. -/
def fnTextsSpec : ChangeSpec := { name := "fnTexts", fn := fun _ => fun
  | [d] => { results := [.lit (.bool true)], args := [d] }
  | _ => none }
def fnTextsRow : OpenClaim := { program := "ytmgnmgobibpjjaa", sum := "64d0e293f991f4731e2b652f92e0a4aa3ee9f4ae1526033caa9a4c42317a9cf2", func := "loop.example/netstack/laws.FnTexts", spec := "fnTexts", unfollowed := true, recurses := true, apart := false }
def FnTextsSaid : Prop := fnTextsRow.holds Try.pinned (OpenSpec.ofChange fnTextsSpec)

/-- ITS FALSE NEIGHBOUR: 'it returns false'. Refute it at one input. -/
def fnTextsWrong : ChangeSpec := { name := "fnTexts", fn := fun _ => fun
  | [d] => { results := [.lit (.bool false)], args := [d] }
  | _ => none }
def FnTextsWrongFalsely : Prop := fnTextsRow.holds Try.pinned (OpenSpec.ofChange fnTextsWrong)

/-- 'laws.FnKeptAsk': WHATEVER THE INPUT: true; the input reads as it did. -/
def fnKeptAskSpec : ChangeSpec := { name := "fnKeptAsk", fn := fun _ => fun
  | [d] => { results := [.lit (.bool true)], args := [d] }
  | _ => none }
def fnKeptAskRow : OpenClaim := { program := "ytmgnmgobibpjjaa", sum := "64d0e293f991f4731e2b652f92e0a4aa3ee9f4ae1526033caa9a4c42317a9cf2", func := "loop.example/netstack/laws.FnKeptAsk", spec := "fnKeptAsk", unfollowed := true, recurses := true, apart := false }
def FnKeptAskSaid : Prop := fnKeptAskRow.holds Try.pinned (OpenSpec.ofChange fnKeptAskSpec)

/-- ITS FALSE NEIGHBOUR: 'it returns false'. Refute it at one input. -/
def fnKeptAskWrong : ChangeSpec := { name := "fnKeptAsk", fn := fun _ => fun
  | [d] => { results := [.lit (.bool false)], args := [d] }
  | _ => none }
def FnKeptAskWrongFalsely : Prop := fnKeptAskRow.holds Try.pinned (OpenSpec.ofChange fnKeptAskWrong)

/-- 'laws.FnKeptFind': WHATEVER THE INPUT: true; the input reads as it did. -/
def fnKeptFindSpec : ChangeSpec := { name := "fnKeptFind", fn := fun _ => fun
  | [d] => { results := [.lit (.bool true)], args := [d] }
  | _ => none }
def fnKeptFindRow : OpenClaim := { program := "ytmgnmgobibpjjaa", sum := "64d0e293f991f4731e2b652f92e0a4aa3ee9f4ae1526033caa9a4c42317a9cf2", func := "loop.example/netstack/laws.FnKeptFind", spec := "fnKeptFind", unfollowed := true, recurses := true, apart := false }
def FnKeptFindSaid : Prop := fnKeptFindRow.holds Try.pinned (OpenSpec.ofChange fnKeptFindSpec)

/-- ITS FALSE NEIGHBOUR: 'it returns false'. Refute it at one input. -/
def fnKeptFindWrong : ChangeSpec := { name := "fnKeptFind", fn := fun _ => fun
  | [d] => { results := [.lit (.bool false)], args := [d] }
  | _ => none }
def FnKeptFindWrongFalsely : Prop := fnKeptFindRow.holds Try.pinned (OpenSpec.ofChange fnKeptFindWrong)

/-- 'laws.FnExactKeptAsk': WHATEVER THE INPUT: true; the input reads as it did. -/
def fnExactKeptAskSpec : ChangeSpec := { name := "fnExactKeptAsk", fn := fun _ => fun
  | [d1, d2, d3, d4] => { results := [.lit (.bool true)], args := [d1, d2, d3, d4] }
  | _ => none }
def fnExactKeptAskRow : OpenClaim := { program := "ytmgnmgobibpjjaa", sum := "64d0e293f991f4731e2b652f92e0a4aa3ee9f4ae1526033caa9a4c42317a9cf2", func := "loop.example/netstack/laws.FnExactKeptAsk", spec := "fnExactKeptAsk", unfollowed := true, recurses := true, apart := false }
def FnExactKeptAskSaid : Prop := fnExactKeptAskRow.holds Try.pinned (OpenSpec.ofChange fnExactKeptAskSpec)

/-- ITS FALSE NEIGHBOUR: 'it returns false'. Refute it at one input. -/
def fnExactKeptAskWrong : ChangeSpec := { name := "fnExactKeptAsk", fn := fun _ => fun
  | [d1, d2, d3, d4] => { results := [.lit (.bool false)], args := [d1, d2, d3, d4] }
  | _ => none }
def FnExactKeptAskWrongFalsely : Prop := fnExactKeptAskRow.holds Try.pinned (OpenSpec.ofChange fnExactKeptAskWrong)

/-- 'laws.FnExactKeptFind': WHATEVER THE INPUT: true; the input reads as it did. -/
def fnExactKeptFindSpec : ChangeSpec := { name := "fnExactKeptFind", fn := fun _ => fun
  | [d1, d2, d3, d4] => { results := [.lit (.bool true)], args := [d1, d2, d3, d4] }
  | _ => none }
def fnExactKeptFindRow : OpenClaim := { program := "ytmgnmgobibpjjaa", sum := "64d0e293f991f4731e2b652f92e0a4aa3ee9f4ae1526033caa9a4c42317a9cf2", func := "loop.example/netstack/laws.FnExactKeptFind", spec := "fnExactKeptFind", unfollowed := true, recurses := true, apart := false }
def FnExactKeptFindSaid : Prop := fnExactKeptFindRow.holds Try.pinned (OpenSpec.ofChange fnExactKeptFindSpec)

/-- ITS FALSE NEIGHBOUR: 'it returns false'. Refute it at one input. -/
def fnExactKeptFindWrong : ChangeSpec := { name := "fnExactKeptFind", fn := fun _ => fun
  | [d1, d2, d3, d4] => { results := [.lit (.bool false)], args := [d1, d2, d3, d4] }
  | _ => none }
def FnExactKeptFindWrongFalsely : Prop := fnExactKeptFindRow.holds Try.pinned (OpenSpec.ofChange fnExactKeptFindWrong)

/- THE SECOND FORM. 'bulk': how many values and letters a reading holds, each counted each time it is reached (what is shared counts as often as it is met; a slice's spare places count too). A statement '..UptoSaid' is the law's where the arguments, and the package variables that the reading takes, are together of bulk at most 1048576: NARROWER than '..Said'. Prove '..Said' where nothing that the law and all that it calls make is longer than what came in: it says more and counts as full. Else prove '..UptoSaid'. A law counts once. -/
mutual
def uptoBulk {H : Type} : DataW H → Nat
  | .lit (.string bytes) => bytes.length + 1
  | .lit _ => 1
  | .nil => 1
  | .ptr d => uptoBulk d + 1
  | .slice elems spare => uptoBulkAll elems + uptoBulkAll spare + 1
  | .agg parts => uptoBulkAll parts + 1
  | .iface _ d => uptoBulk d + 1
  | .map entries => uptoBulkEntries entries + 1
  | .held _ => 1
def uptoBulkAll {H : Type} : List (DataW H) → Nat
  | [] => 0
  | d :: r => uptoBulk d + uptoBulkAll r
def uptoBulkEntries {H : Type} : List (Lit × DataW H) → Nat
  | [] => 0
  | x :: r => uptoBulkEntry x + uptoBulkEntries r
def uptoBulkEntry {H : Type} : Lit × DataW H → Nat
  | (.string bytes, d) => bytes.length + uptoBulk d + 1
  | (_, d) => uptoBulk d + 1
 end
def uptoSmall : (H : Type) → List (DataW H) → Bool := fun _ ds => decide (uptoBulkAll ds ≤ 1048576)
def OpenSpec.upto (s : _root_.Go.ChangeSpec) : _root_.Go.OpenSpec := { _root_.Go.OpenSpec.ofChange s with cond := some uptoSmall }

/-- 'laws.FnExactNameOk', WHERE WHAT IT READS IS OF BULK AT MOST 1048576: true; the input reads as it did. -/
def fnExactNameOkUptoRow : OpenClaim := { program := "ytmgnmgobibpjjaa", sum := "64d0e293f991f4731e2b652f92e0a4aa3ee9f4ae1526033caa9a4c42317a9cf2", func := "loop.example/netstack/laws.FnExactNameOk", spec := "fnExactNameOk", apart := false, narrowed := true }
def FnExactNameOkUptoSaid : Prop := fnExactNameOkUptoRow.holds Try.pinned (OpenSpec.upto fnExactNameOkSpec)

/-- 'laws.FnNameOk', WHERE WHAT IT READS IS OF BULK AT MOST 1048576: true; the input reads as it did. -/
def fnNameOkUptoRow : OpenClaim := { program := "ytmgnmgobibpjjaa", sum := "64d0e293f991f4731e2b652f92e0a4aa3ee9f4ae1526033caa9a4c42317a9cf2", func := "loop.example/netstack/laws.FnNameOk", spec := "fnNameOk", apart := false, narrowed := true }
def FnNameOkUptoSaid : Prop := fnNameOkUptoRow.holds Try.pinned (OpenSpec.upto fnNameOkSpec)

/-- 'laws.FnExactNamesOk', WHERE WHAT IT READS IS OF BULK AT MOST 1048576: true; the input reads as it did. -/
def fnExactNamesOkUptoRow : OpenClaim := { program := "ytmgnmgobibpjjaa", sum := "64d0e293f991f4731e2b652f92e0a4aa3ee9f4ae1526033caa9a4c42317a9cf2", func := "loop.example/netstack/laws.FnExactNamesOk", spec := "fnExactNamesOk", apart := false, narrowed := true }
def FnExactNamesOkUptoSaid : Prop := fnExactNamesOkUptoRow.holds Try.pinned (OpenSpec.upto fnExactNamesOkSpec)

/-- 'laws.FnNamesOk', WHERE WHAT IT READS IS OF BULK AT MOST 1048576: true; the input reads as it did. -/
def fnNamesOkUptoRow : OpenClaim := { program := "ytmgnmgobibpjjaa", sum := "64d0e293f991f4731e2b652f92e0a4aa3ee9f4ae1526033caa9a4c42317a9cf2", func := "loop.example/netstack/laws.FnNamesOk", spec := "fnNamesOk", apart := false, narrowed := true }
def FnNamesOkUptoSaid : Prop := fnNamesOkUptoRow.holds Try.pinned (OpenSpec.upto fnNamesOkSpec)

/-- 'laws.FnExactNameAsk', WHERE WHAT IT READS IS OF BULK AT MOST 1048576: true; the input reads as it did. -/
def fnExactNameAskUptoRow : OpenClaim := { program := "ytmgnmgobibpjjaa", sum := "64d0e293f991f4731e2b652f92e0a4aa3ee9f4ae1526033caa9a4c42317a9cf2", func := "loop.example/netstack/laws.FnExactNameAsk", spec := "fnExactNameAsk", unfollowed := true, recurses := true, apart := false, narrowed := true }
def FnExactNameAskUptoSaid : Prop := fnExactNameAskUptoRow.holds Try.pinned (OpenSpec.upto fnExactNameAskSpec)

/-- 'laws.FnExactKeptOk', WHERE WHAT IT READS IS OF BULK AT MOST 1048576: true; the input reads as it did. -/
def fnExactKeptOkUptoRow : OpenClaim := { program := "ytmgnmgobibpjjaa", sum := "64d0e293f991f4731e2b652f92e0a4aa3ee9f4ae1526033caa9a4c42317a9cf2", func := "loop.example/netstack/laws.FnExactKeptOk", spec := "fnExactKeptOk", unfollowed := true, recurses := true, apart := false, narrowed := true }
def FnExactKeptOkUptoSaid : Prop := fnExactKeptOkUptoRow.holds Try.pinned (OpenSpec.upto fnExactKeptOkSpec)

/-- 'laws.FnNameAsk', WHERE WHAT IT READS IS OF BULK AT MOST 1048576: true; the input reads as it did. -/
def fnNameAskUptoRow : OpenClaim := { program := "ytmgnmgobibpjjaa", sum := "64d0e293f991f4731e2b652f92e0a4aa3ee9f4ae1526033caa9a4c42317a9cf2", func := "loop.example/netstack/laws.FnNameAsk", spec := "fnNameAsk", unfollowed := true, recurses := true, apart := false, narrowed := true }
def FnNameAskUptoSaid : Prop := fnNameAskUptoRow.holds Try.pinned (OpenSpec.upto fnNameAskSpec)

/-- 'laws.FnExactNameFind', WHERE WHAT IT READS IS OF BULK AT MOST 1048576: true; the input reads as it did. -/
def fnExactNameFindUptoRow : OpenClaim := { program := "ytmgnmgobibpjjaa", sum := "64d0e293f991f4731e2b652f92e0a4aa3ee9f4ae1526033caa9a4c42317a9cf2", func := "loop.example/netstack/laws.FnExactNameFind", spec := "fnExactNameFind", unfollowed := true, recurses := true, apart := false, narrowed := true }
def FnExactNameFindUptoSaid : Prop := fnExactNameFindUptoRow.holds Try.pinned (OpenSpec.upto fnExactNameFindSpec)

/-- 'laws.FnNameFind', WHERE WHAT IT READS IS OF BULK AT MOST 1048576: true; the input reads as it did. -/
def fnNameFindUptoRow : OpenClaim := { program := "ytmgnmgobibpjjaa", sum := "64d0e293f991f4731e2b652f92e0a4aa3ee9f4ae1526033caa9a4c42317a9cf2", func := "loop.example/netstack/laws.FnNameFind", spec := "fnNameFind", unfollowed := true, recurses := true, apart := false, narrowed := true }
def FnNameFindUptoSaid : Prop := fnNameFindUptoRow.holds Try.pinned (OpenSpec.upto fnNameFindSpec)

/-- 'laws.FnKeptOk', WHERE WHAT IT READS IS OF BULK AT MOST 1048576: true; the input reads as it did. -/
def fnKeptOkUptoRow : OpenClaim := { program := "ytmgnmgobibpjjaa", sum := "64d0e293f991f4731e2b652f92e0a4aa3ee9f4ae1526033caa9a4c42317a9cf2", func := "loop.example/netstack/laws.FnKeptOk", spec := "fnKeptOk", unfollowed := true, recurses := true, apart := false, narrowed := true }
def FnKeptOkUptoSaid : Prop := fnKeptOkUptoRow.holds Try.pinned (OpenSpec.upto fnKeptOkSpec)

/-- 'laws.FnTexts', WHERE WHAT IT READS IS OF BULK AT MOST 1048576: true; the input reads as it did. -/
def fnTextsUptoRow : OpenClaim := { program := "ytmgnmgobibpjjaa", sum := "64d0e293f991f4731e2b652f92e0a4aa3ee9f4ae1526033caa9a4c42317a9cf2", func := "loop.example/netstack/laws.FnTexts", spec := "fnTexts", unfollowed := true, recurses := true, apart := false, narrowed := true }
def FnTextsUptoSaid : Prop := fnTextsUptoRow.holds Try.pinned (OpenSpec.upto fnTextsSpec)

/-- 'laws.FnKeptAsk', WHERE WHAT IT READS IS OF BULK AT MOST 1048576: true; the input reads as it did. -/
def fnKeptAskUptoRow : OpenClaim := { program := "ytmgnmgobibpjjaa", sum := "64d0e293f991f4731e2b652f92e0a4aa3ee9f4ae1526033caa9a4c42317a9cf2", func := "loop.example/netstack/laws.FnKeptAsk", spec := "fnKeptAsk", unfollowed := true, recurses := true, apart := false, narrowed := true }
def FnKeptAskUptoSaid : Prop := fnKeptAskUptoRow.holds Try.pinned (OpenSpec.upto fnKeptAskSpec)

/-- 'laws.FnKeptFind', WHERE WHAT IT READS IS OF BULK AT MOST 1048576: true; the input reads as it did. -/
def fnKeptFindUptoRow : OpenClaim := { program := "ytmgnmgobibpjjaa", sum := "64d0e293f991f4731e2b652f92e0a4aa3ee9f4ae1526033caa9a4c42317a9cf2", func := "loop.example/netstack/laws.FnKeptFind", spec := "fnKeptFind", unfollowed := true, recurses := true, apart := false, narrowed := true }
def FnKeptFindUptoSaid : Prop := fnKeptFindUptoRow.holds Try.pinned (OpenSpec.upto fnKeptFindSpec)

/-- 'laws.FnExactKeptAsk', WHERE WHAT IT READS IS OF BULK AT MOST 1048576: true; the input reads as it did. -/
def fnExactKeptAskUptoRow : OpenClaim := { program := "ytmgnmgobibpjjaa", sum := "64d0e293f991f4731e2b652f92e0a4aa3ee9f4ae1526033caa9a4c42317a9cf2", func := "loop.example/netstack/laws.FnExactKeptAsk", spec := "fnExactKeptAsk", unfollowed := true, recurses := true, apart := false, narrowed := true }
def FnExactKeptAskUptoSaid : Prop := fnExactKeptAskUptoRow.holds Try.pinned (OpenSpec.upto fnExactKeptAskSpec)

/-- 'laws.FnExactKeptFind', WHERE WHAT IT READS IS OF BULK AT MOST 1048576: true; the input reads as it did. -/
def fnExactKeptFindUptoRow : OpenClaim := { program := "ytmgnmgobibpjjaa", sum := "64d0e293f991f4731e2b652f92e0a4aa3ee9f4ae1526033caa9a4c42317a9cf2", func := "loop.example/netstack/laws.FnExactKeptFind", spec := "fnExactKeptFind", unfollowed := true, recurses := true, apart := false, narrowed := true }
def FnExactKeptFindUptoSaid : Prop := fnExactKeptFindUptoRow.holds Try.pinned (OpenSpec.upto fnExactKeptFindSpec)

end Rows
end Go.Proofs.Ytmgnmgobibpjjaa
