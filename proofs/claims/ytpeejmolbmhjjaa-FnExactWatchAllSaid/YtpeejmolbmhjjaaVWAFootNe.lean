/- Words of walks, of the kit's print, as far as the texts of this claim name them; there is no condition beyond those each statement names. -/
import Derived.Test.YtpeejmolbmhjjaaVWAN
/- Words of the printed walks, over rows whose slice may tell less room than its block has: lemmas for walks; there is no condition beyond those each statement names. -/
/-! ### 52. A row that stays read whatever happens to a block (a set of blocks) doesn't lie there -/
namespace Go.Proofs.YtpeejmolbmhjjaaU.PrintWords
open Go.RowKit
namespace Kd
section
variable {α : Type} {d : Kd α} {W : World} {g n : Nat} {S ok : Nat → Prop} {A : Option Addr} {ad : Addr} {xs : List α}
end
end Kd
end Go.Proofs.YtpeejmolbmhjjaaU.PrintWords
