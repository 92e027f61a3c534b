/-
  DERIVED. GIVEN WITH THE SEED: THE CARDS: each row of YtgbjojokjekmhaaGreatDoorRows.lean that lists a variable, with what it lists TIED to the program's text (the seventh form; the later family's looks); each row that meets fmt, with fmt's text TOLD by the authors' own Lean function (tested against real Go, not proved from fmt's source: count such statements apart). THE CARD IS WHAT COUNTS. Prove the row's statement (the work); the ties are given (YtgbjojokjekmhaaGreatDoorTie.lean); close each card by the builder's one call (the guide's Derived/Test/ToyasCard.lean, 'card_holds'). Laid BY PROGRAM, IN A SANDBOX (cutbox-door.mjs). By AI agents, Wed Nov 11 2026. No macro, syntax, notation, axiom, sorry.
-/
import Derived.Test.YtgbjojokjekmhaaGreatDoorRows
import GoSem.ClaimSeven
namespace Go.Proofs.YtgbjojokjekmhaaGreatDoor
namespace Rows

/-- THE TIED CARD OF 'abacuslaw15.PointPads'. -/
def pointPadsCard : Claim7 := { stood := { row := pointPadsRow, standIns := [], harness := (true, "bb1c67b73d0c0a5bc9102d906ce55573665898f00ce25a958acf9d2d5d32a988"), looks := true }, kinds := [], alts := [], laidByText := true, laidKinds := [.data, .data, .data, .data, .pinned, .pinned], laidTests := true, laidLooks := .later }
def PointPadsCardSaid : Prop := Claim7.holds Tryz.pinned (.plain (OpenSpec.ofChange pointPadsSpec)) pointPadsCard

/-- THE TIED CARD OF 'abacuslaw15.PointCapitals'. -/
def pointCapitalsCard : Claim7 := { stood := { row := pointCapitalsRow, standIns := [], harness := (true, "bb1c67b73d0c0a5bc9102d906ce55573665898f00ce25a958acf9d2d5d32a988"), looks := true }, kinds := [], alts := [], laidByText := true, laidKinds := [.data, .data, .data, .data, .pinned, .pinned], laidTests := true, laidLooks := .later }
def PointCapitalsCardSaid : Prop := Claim7.holds Tryz.pinned (.plain (OpenSpec.ofChange pointCapitalsSpec)) pointCapitalsCard

/-- THE TIED CARD OF 'abacuslaw15.PointDigits'. -/
def pointDigitsCard : Claim7 := { stood := { row := pointDigitsRow, standIns := [], harness := (true, "bb1c67b73d0c0a5bc9102d906ce55573665898f00ce25a958acf9d2d5d32a988"), looks := true }, kinds := [], alts := [], laidByText := true, laidKinds := [.data, .data, .data, .data, .pinned, .pinned], laidTests := true, laidLooks := .later }
def PointDigitsCardSaid : Prop := Claim7.holds Tryz.pinned (.plain (OpenSpec.ofChange pointDigitsSpec)) pointDigitsCard

/-- THE TIED CARD OF 'abacuslaw15.PointGeneral'. -/
def pointGeneralCard : Claim7 := { stood := { row := pointGeneralRow, standIns := [], harness := (true, "bb1c67b73d0c0a5bc9102d906ce55573665898f00ce25a958acf9d2d5d32a988"), looks := true }, kinds := [], alts := [], laidByText := true, laidKinds := [.data, .data, .data, .data, .pinned, .pinned], laidTests := true, laidLooks := .later }
def PointGeneralCardSaid : Prop := Claim7.holds Tryz.pinned (.plain (OpenSpec.ofChange pointGeneralSpec)) pointGeneralCard

/-- THE TIED CARD OF 'abacuslaw15.PointNear'. -/
def pointNearCard : Claim7 := { stood := { row := pointNearRow, standIns := [], harness := (true, "bb1c67b73d0c0a5bc9102d906ce55573665898f00ce25a958acf9d2d5d32a988"), looks := true }, kinds := [], alts := [], laidByText := true, laidKinds := [.data, .data, .data, .data, .pinned, .pinned], laidTests := true, laidLooks := .later }
def PointNearCardSaid : Prop := Claim7.holds Tryz.pinned (.plain (OpenSpec.ofChange pointNearSpec)) pointNearCard

/-- THE TIED CARD OF 'abacuslaw15.PointAll'. -/
def pointAllCard : Claim7 := { stood := { row := pointAllRow, standIns := [], harness := (true, "bb1c67b73d0c0a5bc9102d906ce55573665898f00ce25a958acf9d2d5d32a988"), looks := true }, kinds := [], alts := [], laidByText := true, laidKinds := [.data, .data, .data, .data, .pinned, .pinned], laidTests := true, laidLooks := .later }
def PointAllCardSaid : Prop := Claim7.holds Tryz.pinned (.plain (OpenSpec.ofChange pointAllSpec)) pointAllCard

/-- THE TIED CARD OF 'abacuslaw16.RenderWidth'. -/
def renderWidthCard : Claim7 := { stood := { row := renderWidthRow, standIns := [], harness := (true, "bb1c67b73d0c0a5bc9102d906ce55573665898f00ce25a958acf9d2d5d32a988"), looks := true }, kinds := [], alts := [], laidByText := true, laidKinds := [.data, .data, .data, .data, .pinned, .pinned], laidTests := true, laidLooks := .later }
def RenderWidthCardSaid : Prop := Claim7.holds Tryz.pinned (.plain (OpenSpec.ofChange renderWidthSpec)) renderWidthCard

/-- THE TIED CARD OF 'abacuslaw16.RenderChain'. -/
def renderChainCard : Claim7 := { stood := { row := renderChainRow, standIns := [], harness := (true, "bb1c67b73d0c0a5bc9102d906ce55573665898f00ce25a958acf9d2d5d32a988"), looks := true }, kinds := [], alts := [], laidByText := true, laidKinds := [.data, .data, .data, .data, .pinned, .pinned], laidTests := true, laidLooks := .later }
def RenderChainCardSaid : Prop := Claim7.holds Tryz.pinned (.plain (OpenSpec.ofChange renderChainSpec)) renderChainCard

/-- THE TIED CARD OF 'abacuslaw16.RenderStars'. -/
def renderStarsCard : Claim7 := { stood := { row := renderStarsRow, standIns := [], harness := (true, "bb1c67b73d0c0a5bc9102d906ce55573665898f00ce25a958acf9d2d5d32a988"), looks := true }, kinds := [], alts := [], laidByText := true, laidKinds := [.data, .data, .data, .data, .pinned, .pinned], laidTests := true, laidLooks := .later }
def RenderStarsCardSaid : Prop := Claim7.holds Tryz.pinned (.plain (OpenSpec.ofChange renderStarsSpec)) renderStarsCard

/-- THE TIED CARD OF 'abacuslaw15.PointBack'. -/
def pointBackCard : Claim7 := { stood := { row := pointBackRow, standIns := [], harness := (true, "bb1c67b73d0c0a5bc9102d906ce55573665898f00ce25a958acf9d2d5d32a988"), looks := true }, kinds := [], alts := [], laidByText := true, laidKinds := [.data, .data, .data, .data, .pinned, .pinned], laidTests := true, laidLooks := .later }
def PointBackCardSaid : Prop := Claim7.holds Tryz.pinned (.plain (OpenSpec.ofChange pointBackSpec)) pointBackCard

/-- THE SECOND FORM's CARD OF 'abacuslaw15.PointPads'. -/
def pointPadsUptoCard : Claim7 := { stood := { row := pointPadsUptoRow, standIns := [], harness := (true, "bb1c67b73d0c0a5bc9102d906ce55573665898f00ce25a958acf9d2d5d32a988"), looks := true }, kinds := [], alts := [], laidByText := true, laidKinds := [.data, .data, .data, .data, .pinned, .pinned], laidTests := true, laidLooks := .later }
def PointPadsUptoCardSaid : Prop := Claim7.holds Tryz.pinned (.plain (OpenSpec.upto pointPadsSpec)) pointPadsUptoCard

/-- THE SECOND FORM's CARD OF 'abacuslaw15.PointCapitals'. -/
def pointCapitalsUptoCard : Claim7 := { stood := { row := pointCapitalsUptoRow, standIns := [], harness := (true, "bb1c67b73d0c0a5bc9102d906ce55573665898f00ce25a958acf9d2d5d32a988"), looks := true }, kinds := [], alts := [], laidByText := true, laidKinds := [.data, .data, .data, .data, .pinned, .pinned], laidTests := true, laidLooks := .later }
def PointCapitalsUptoCardSaid : Prop := Claim7.holds Tryz.pinned (.plain (OpenSpec.upto pointCapitalsSpec)) pointCapitalsUptoCard

/-- THE SECOND FORM's CARD OF 'abacuslaw15.PointDigits'. -/
def pointDigitsUptoCard : Claim7 := { stood := { row := pointDigitsUptoRow, standIns := [], harness := (true, "bb1c67b73d0c0a5bc9102d906ce55573665898f00ce25a958acf9d2d5d32a988"), looks := true }, kinds := [], alts := [], laidByText := true, laidKinds := [.data, .data, .data, .data, .pinned, .pinned], laidTests := true, laidLooks := .later }
def PointDigitsUptoCardSaid : Prop := Claim7.holds Tryz.pinned (.plain (OpenSpec.upto pointDigitsSpec)) pointDigitsUptoCard

/-- THE SECOND FORM's CARD OF 'abacuslaw15.PointGeneral'. -/
def pointGeneralUptoCard : Claim7 := { stood := { row := pointGeneralUptoRow, standIns := [], harness := (true, "bb1c67b73d0c0a5bc9102d906ce55573665898f00ce25a958acf9d2d5d32a988"), looks := true }, kinds := [], alts := [], laidByText := true, laidKinds := [.data, .data, .data, .data, .pinned, .pinned], laidTests := true, laidLooks := .later }
def PointGeneralUptoCardSaid : Prop := Claim7.holds Tryz.pinned (.plain (OpenSpec.upto pointGeneralSpec)) pointGeneralUptoCard

/-- THE SECOND FORM's CARD OF 'abacuslaw15.PointNear'. -/
def pointNearUptoCard : Claim7 := { stood := { row := pointNearUptoRow, standIns := [], harness := (true, "bb1c67b73d0c0a5bc9102d906ce55573665898f00ce25a958acf9d2d5d32a988"), looks := true }, kinds := [], alts := [], laidByText := true, laidKinds := [.data, .data, .data, .data, .pinned, .pinned], laidTests := true, laidLooks := .later }
def PointNearUptoCardSaid : Prop := Claim7.holds Tryz.pinned (.plain (OpenSpec.upto pointNearSpec)) pointNearUptoCard

/-- THE SECOND FORM's CARD OF 'abacuslaw15.PointAll'. -/
def pointAllUptoCard : Claim7 := { stood := { row := pointAllUptoRow, standIns := [], harness := (true, "bb1c67b73d0c0a5bc9102d906ce55573665898f00ce25a958acf9d2d5d32a988"), looks := true }, kinds := [], alts := [], laidByText := true, laidKinds := [.data, .data, .data, .data, .pinned, .pinned], laidTests := true, laidLooks := .later }
def PointAllUptoCardSaid : Prop := Claim7.holds Tryz.pinned (.plain (OpenSpec.upto pointAllSpec)) pointAllUptoCard

/-- THE SECOND FORM's CARD OF 'abacuslaw16.RenderWidth'. -/
def renderWidthUptoCard : Claim7 := { stood := { row := renderWidthUptoRow, standIns := [], harness := (true, "bb1c67b73d0c0a5bc9102d906ce55573665898f00ce25a958acf9d2d5d32a988"), looks := true }, kinds := [], alts := [], laidByText := true, laidKinds := [.data, .data, .data, .data, .pinned, .pinned], laidTests := true, laidLooks := .later }
def RenderWidthUptoCardSaid : Prop := Claim7.holds Tryz.pinned (.plain (OpenSpec.upto renderWidthSpec)) renderWidthUptoCard

/-- THE SECOND FORM's CARD OF 'abacuslaw16.RenderChain'. -/
def renderChainUptoCard : Claim7 := { stood := { row := renderChainUptoRow, standIns := [], harness := (true, "bb1c67b73d0c0a5bc9102d906ce55573665898f00ce25a958acf9d2d5d32a988"), looks := true }, kinds := [], alts := [], laidByText := true, laidKinds := [.data, .data, .data, .data, .pinned, .pinned], laidTests := true, laidLooks := .later }
def RenderChainUptoCardSaid : Prop := Claim7.holds Tryz.pinned (.plain (OpenSpec.upto renderChainSpec)) renderChainUptoCard

/-- THE SECOND FORM's CARD OF 'abacuslaw16.RenderStars'. -/
def renderStarsUptoCard : Claim7 := { stood := { row := renderStarsUptoRow, standIns := [], harness := (true, "bb1c67b73d0c0a5bc9102d906ce55573665898f00ce25a958acf9d2d5d32a988"), looks := true }, kinds := [], alts := [], laidByText := true, laidKinds := [.data, .data, .data, .data, .pinned, .pinned], laidTests := true, laidLooks := .later }
def RenderStarsUptoCardSaid : Prop := Claim7.holds Tryz.pinned (.plain (OpenSpec.upto renderStarsSpec)) renderStarsUptoCard

/-- THE SECOND FORM's CARD OF 'abacuslaw15.PointBack'. -/
def pointBackUptoCard : Claim7 := { stood := { row := pointBackUptoRow, standIns := [], harness := (true, "bb1c67b73d0c0a5bc9102d906ce55573665898f00ce25a958acf9d2d5d32a988"), looks := true }, kinds := [], alts := [], laidByText := true, laidKinds := [.data, .data, .data, .data, .pinned, .pinned], laidTests := true, laidLooks := .later }
def PointBackUptoCardSaid : Prop := Claim7.holds Tryz.pinned (.plain (OpenSpec.upto pointBackSpec)) pointBackUptoCard
end Rows
end Go.Proofs.YtgbjojokjekmhaaGreatDoor
