/- Words of the printed walks, as the kit's print lays them for a claim, those that this claim does not use struck; conditions: none. -/
import Derived.Test.YtmbacdkpgfbclaaGreatDoorWInv
import Derived.Test.YtmbacdkpgfbclaaGreatDoorWFootNe
namespace Go.Proofs.YtmbacdkpgfbclaaGreatDoorW.PrintWords
open Go.RowKit
end Go.Proofs.YtmbacdkpgfbclaaGreatDoorW.PrintWords
namespace Go.Proofs.YtmbacdkpgfbclaaGreatDoorW.PrintLast
section
variable {ops : Array Oper} {a : Act} {o og : Oper} {g : Nat} {t : Tmp} {u : Bool}
end
end Go.Proofs.YtmbacdkpgfbclaaGreatDoorW.PrintLast
