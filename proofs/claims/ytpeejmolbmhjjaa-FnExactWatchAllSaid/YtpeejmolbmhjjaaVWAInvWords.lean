/- Words of walks, of the kit's print, as far as the texts of this claim name them; there is no condition beyond those each statement names. -/
import Derived.Test.YtpeejmolbmhjjaaVWAInv
import Derived.Test.YtpeejmolbmhjjaaVWAFootNe
/- Words of the printed walks, over rows whose slice may tell less room than its block has: lemmas for walks; there is no condition beyond those each statement names. -/
namespace Go.Proofs.YtpeejmolbmhjjaaU.PrintWords
open Go.RowKit
end Go.Proofs.YtpeejmolbmhjjaaU.PrintWords
namespace Go.Proofs.YtpeejmolbmhjjaaU.PrintLast
section
variable {ops : Array Oper} {a : Act} {o og : Oper} {g : Nat} {t : Tmp} {u : Bool}
end
end Go.Proofs.YtpeejmolbmhjjaaU.PrintLast
