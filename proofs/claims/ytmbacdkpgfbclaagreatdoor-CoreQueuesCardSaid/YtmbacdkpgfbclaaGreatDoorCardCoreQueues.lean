/- CoreQueues: the card; conditions: none. -/
import Derived.Test.YtmbacdkpgfbclaaGreatDoorCardQ
namespace Go.Proofs.YtmbacdkpgfbclaaGreatDoor
/-- The card. -/
theorem coreQueues_card : Rows.CoreQueuesCardSaid :=
  Claim7.holds_tied_plain_at .later [] _ _ _ _ coreQueues.said (fun _ h => by cases h) (by kernel_rfl) (fun _ h => by cases h) coreQueues_row_tie rfl ⟨rfl, rfl⟩ (by kernel_rfl) rfl coreQueues.plain (by kernel_rfl)
#print axioms coreQueues_card
end Go.Proofs.YtmbacdkpgfbclaaGreatDoor
