/- RecordNothing: the card; conditions: none. -/
import Derived.Test.YtmbacdkpgfbclaaGreatDoorRecNQ
namespace Go.Proofs.YtmbacdkpgfbclaaGreatDoor
/-- The card. -/
theorem recordNothing_card : Rows.RecordNothingCardSaid :=
  Claim7.holds_tied_plain_at .later [] _ _ _ _ recordNothing.said (fun _ h => by cases h) (by kernel_rfl) (fun _ h => by cases h) recordNothing_row_tie rfl ⟨rfl, rfl⟩ (by kernel_rfl) rfl recordNothing.plain (by kernel_rfl)
#print axioms recordNothing_card
end Go.Proofs.YtmbacdkpgfbclaaGreatDoor
