/- Words of the printed walks, over rows whose slice may tell less room than its block has: lemmas for walks; there is no condition beyond those each statement names. -/
import Derived.Test.YtmgnmgobibpjjaaVTextsInv
import Derived.Test.YtmgnmgobibpjjaaVTextsFootNe
namespace Go.Proofs.YtmgnmgobibpjjaaVTexts.PrintWords
open Go.RowKit
end Go.Proofs.YtmgnmgobibpjjaaVTexts.PrintWords
namespace Go.Proofs.YtmgnmgobibpjjaaVTexts.PrintLast
section
variable {ops : Array Oper} {a : Act} {o og : Oper} {g : Nat} {t : Tmp} {u : Bool}
end
end Go.Proofs.YtmgnmgobibpjjaaVTexts.PrintLast
