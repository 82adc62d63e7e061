/- Words of the printed walks, over rows whose slice may tell less room than its block has: lemmas for walks; there is no condition beyond those each statement names. -/
import Derived.Test.YtmgnmgobibpjjaaVKeptOkInv
import Derived.Test.YtmgnmgobibpjjaaVKeptOkFootNe
namespace Go.Proofs.YtmgnmgobibpjjaaVKeptOk.PrintWords
open Go.RowKit
end Go.Proofs.YtmgnmgobibpjjaaVKeptOk.PrintWords
namespace Go.Proofs.YtmgnmgobibpjjaaVKeptOk.PrintLast
section
variable {ops : Array Oper} {a : Act} {o og : Oper} {g : Nat} {t : Tmp} {u : Bool}
end
end Go.Proofs.YtmgnmgobibpjjaaVKeptOk.PrintLast
