/- The law's own look at a fresh queue, walked; conditions: the order sets 1 ahead of 2. -/
import Derived.Test.YtmbacdkpgfbclaaGreatDoorLeast
namespace Go.Proofs.YtmbacdkpgfbclaaGreatDoor
open Go.RowKit Go.Proofs.YtmbacdkpgfbclaaGreatDoorW.PrintWords Heap
set_option linter.unusedVariables false
set_option linter.unusedSimpArgs false
def e2 : Ent := (1, 4611686018427387904, ⟨#[]⟩, 0)
def e1 : Ent := (1, 4607182418800017408, ⟨#[]⟩, 1)
end Go.Proofs.YtmbacdkpgfbclaaGreatDoor
