/- Words of walks, of the kit's print, as far as the texts of this claim name them; there is no condition beyond those each statement names. -/
import Derived.Test.YtpeejmolbmhjjaaVEInv
import Derived.Test.YtpeejmolbmhjjaaVEFootNe
namespace Go.Proofs.YtpeejmolbmhjjaaW.PrintWords
open Go.RowKit
end Go.Proofs.YtpeejmolbmhjjaaW.PrintWords
namespace Go.Proofs.YtpeejmolbmhjjaaW.PrintLast
section
variable {ops : Array Oper} {a : Act} {o og : Oper} {g : Nat} {t : Tmp} {u : Bool}
end
end Go.Proofs.YtpeejmolbmhjjaaW.PrintLast
