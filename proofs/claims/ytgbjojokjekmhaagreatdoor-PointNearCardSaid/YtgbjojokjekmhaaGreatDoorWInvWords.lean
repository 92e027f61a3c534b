/- Words of the printed walks, as the kit's print lays them for a claim, those that this claim does not use struck; conditions: none. -/
import Derived.Test.YtgbjojokjekmhaaGreatDoorWInv
import Derived.Test.YtgbjojokjekmhaaGreatDoorWFootNe
namespace Go.Proofs.YtgbjojokjekmhaaGreatDoorW.PrintWords
open Go.RowKit
end Go.Proofs.YtgbjojokjekmhaaGreatDoorW.PrintWords
namespace Go.Proofs.YtgbjojokjekmhaaGreatDoorW.PrintLast
section
variable {ops : Array Oper} {a : Act} {o og : Oper} {g : Nat} {t : Tmp} {u : Bool}
end
end Go.Proofs.YtgbjojokjekmhaaGreatDoorW.PrintLast
