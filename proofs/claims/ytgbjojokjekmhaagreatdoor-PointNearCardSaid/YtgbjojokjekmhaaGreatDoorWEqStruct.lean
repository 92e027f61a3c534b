/- Words of the printed walks, as the kit's print lays them for a claim, those that this claim does not use struck; conditions: none. -/
import Derived.Test.YtgbjojokjekmhaaGreatDoorWWords
import Derived.Laws.StructEq
/-! ### 53. '==' of structs as_ one Bool -/
namespace Go.Proofs.YtgbjojokjekmhaaGreatDoorW.PrintWords
open Go.RowKit
section
variable {P : Program} {d : Nat} {xs ys : Array Value} {f : Field} {fs : List Field} {a b : Value} {r s : Bool} {w : World}
end
end Go.Proofs.YtgbjojokjekmhaaGreatDoorW.PrintWords
