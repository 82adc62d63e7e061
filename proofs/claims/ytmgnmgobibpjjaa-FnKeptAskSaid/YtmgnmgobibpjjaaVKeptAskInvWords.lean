/- Words of the printed walks, over rows whose slice may tell less room than its block has: lemmas for walks; there is no condition beyond those each statement names. -/
import Derived.Test.YtmgnmgobibpjjaaVKeptAskInv
import Derived.Test.YtmgnmgobibpjjaaVKeptAskFootNe
namespace Go.Proofs.YtmgnmgobibpjjaaVKeptAsk.PrintWords
open Go.RowKit
end Go.Proofs.YtmgnmgobibpjjaaVKeptAsk.PrintWords
namespace Go.Proofs.YtmgnmgobibpjjaaVKeptAsk.PrintLast
section
variable {ops : Array Oper} {a : Act} {o og : Oper} {g : Nat} {t : Tmp} {u : Bool}
end
end Go.Proofs.YtmgnmgobibpjjaaVKeptAsk.PrintLast
