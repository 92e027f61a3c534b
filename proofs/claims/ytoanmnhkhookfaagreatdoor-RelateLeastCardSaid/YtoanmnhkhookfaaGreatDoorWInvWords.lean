/- Words of the printed walks, as the kit's print lays them for a claim, those that this claim does not use struck; conditions: none. -/
import Derived.Test.YtoanmnhkhookfaaGreatDoorWInv
import Derived.Test.YtoanmnhkhookfaaGreatDoorWFootNe
namespace Go.Proofs.YtoanmnhkhookfaaGreatDoorW.PrintWords
open Go.RowKit
end Go.Proofs.YtoanmnhkhookfaaGreatDoorW.PrintWords
namespace Go.Proofs.YtoanmnhkhookfaaGreatDoorW.PrintLast
section
variable {ops : Array Oper} {a : Act} {o og : Oper} {g : Nat} {t : Tmp} {u : Bool}
end
end Go.Proofs.YtoanmnhkhookfaaGreatDoorW.PrintLast
