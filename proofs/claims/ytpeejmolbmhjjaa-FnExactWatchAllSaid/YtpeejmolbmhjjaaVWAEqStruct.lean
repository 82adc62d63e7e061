/- Words of walks, of the kit's print, as far as the texts of this claim name them; there is no condition beyond those each statement names. -/
import Derived.Test.YtpeejmolbmhjjaaVWAWords
import Derived.Laws.StructEq
/- Words of the printed walks, over rows whose slice may tell less room than its block has: lemmas for walks; there is no condition beyond those each statement names. -/
/-! ### 53. '==' of structs as_ one Bool -/
namespace Go.Proofs.YtpeejmolbmhjjaaU.PrintWords
open Go.RowKit
section
variable {P : Program} {d : Nat} {xs ys : Array Value} {f : Field} {fs : List Field} {a b : Value} {r s : Bool} {w : World}
end
end Go.Proofs.YtpeejmolbmhjjaaU.PrintWords
