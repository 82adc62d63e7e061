/- Words of the printed walks, over rows whose slice may tell less room than its block has: lemmas for walks; there is no condition beyond those each statement names. -/
import Derived.Test.YtmgnmgobibpjjaaVExactKeptAskInv
import Derived.Test.YtmgnmgobibpjjaaVExactKeptAskFootNe
namespace Go.Proofs.YtmgnmgobibpjjaaVExactKeptAsk.PrintWords
open Go.RowKit
end Go.Proofs.YtmgnmgobibpjjaaVExactKeptAsk.PrintWords
namespace Go.Proofs.YtmgnmgobibpjjaaVExactKeptAsk.PrintLast
section
variable {ops : Array Oper} {a : Act} {o og : Oper} {g : Nat} {t : Tmp} {u : Bool}
end
end Go.Proofs.YtmgnmgobibpjjaaVExactKeptAsk.PrintLast
