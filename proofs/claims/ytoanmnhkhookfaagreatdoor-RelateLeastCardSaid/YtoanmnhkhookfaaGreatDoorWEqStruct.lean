/- Words of the printed walks, as the kit's print lays them for a claim, those that this claim does not use struck; conditions: none. -/
import Derived.Test.YtoanmnhkhookfaaGreatDoorWWords
import Derived.Laws.StructEq
/-! ### 53. '==' of structs as_ one Bool -/
namespace Go.Proofs.YtoanmnhkhookfaaGreatDoorW.PrintWords
open Go.RowKit
section
variable {P : Program} {d : Nat} {xs ys : Array Value} {f : Field} {fs : List Field} {a b : Value} {r s : Bool} {w : World}
end
end Go.Proofs.YtoanmnhkhookfaaGreatDoorW.PrintWords
