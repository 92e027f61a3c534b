/- Words of the printed walks, as the kit's print lays them for a claim, those that this claim does not use struck; conditions: none. -/
import Derived.Test.YtmbacdkpgfbclaaGreatDoorWN
/-! ### 52. A row that stays read whatever happens to a block (a set of blocks) doesn't lie there -/
namespace Go.Proofs.YtmbacdkpgfbclaaGreatDoorW.PrintWords
open Go.RowKit
namespace Kd
section
variable {α : Type} {d : Kd α} {W : World} {g n : Nat} {S ok : Nat → Prop} {A : Option Addr} {ad : Addr} {xs : List α}
end
end Kd
end Go.Proofs.YtmbacdkpgfbclaaGreatDoorW.PrintWords
