/- The fixed answers of layer 18's first test, evaluated. -/
import Derived.Test.YtmbacdkpgfbclaaGreatDoorPXIx14
namespace Go.Proofs.YtmbacdkpgfbclaaGreatDoor
theorem relates_true : PXI.abacustop_relates.f 200 = some true := by decide +kernel
end Go.Proofs.YtmbacdkpgfbclaaGreatDoor
