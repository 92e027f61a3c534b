/- RecordLists: the card; conditions: none. -/
import Derived.Test.YtmbacdkpgfbclaaGreatDoorRecLQ
namespace Go.Proofs.YtmbacdkpgfbclaaGreatDoor
/-- The card. -/
theorem recordLists_card : Rows.RecordListsCardSaid :=
  Claim7.holds_tied_plain_at .later [] _ _ _ _ recordLists.said (fun _ h => by cases h) (by kernel_rfl) (fun _ h => by cases h) recordLists_row_tie rfl ⟨rfl, rfl⟩ (by kernel_rfl) rfl recordLists.plain (by kernel_rfl)
#print axioms recordLists_card
end Go.Proofs.YtmbacdkpgfbclaaGreatDoor
