/- RecordRejoins: the second form's card; conditions: what the law reads is of bulk at most 2^20. -/
import Derived.Test.YtmbacdkpgfbclaaGreatDoorRecRQ
namespace Go.Proofs.YtmbacdkpgfbclaaGreatDoor
/-- The second form's card. -/
theorem recordRejoins_upto_card : Rows.RecordRejoinsUptoCardSaid :=
  Claim7.holds_tied_plain_at .later [] _ _ _ _ recordRejoins.said (fun _ h => by cases h) (by kernel_rfl) (fun _ h => by cases h) recordRejoinsUpto_row_tie rfl ⟨rfl, rfl⟩ (by kernel_rfl) rfl recordRejoins.plain (by kernel_rfl)
#print axioms recordRejoins_upto_card
end Go.Proofs.YtmbacdkpgfbclaaGreatDoor
