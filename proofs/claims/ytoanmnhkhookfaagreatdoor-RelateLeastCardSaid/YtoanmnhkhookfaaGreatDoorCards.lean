/-
  DERIVED. GIVEN WITH THE SEED: THE CARDS: each row of YtoanmnhkhookfaaGreatDoorRows.lean that lists a variable, with what it lists TIED to the program's text (the seventh form; the later family's looks); each row that meets fmt, with fmt's text TOLD by the authors' own Lean function (tested against real Go, not proved from fmt's source: count such statements apart). THE CARD IS WHAT COUNTS. Prove the row's statement (the work); the ties are given (YtoanmnhkhookfaaGreatDoorTie.lean); close each card by the builder's one call (the guide's Derived/Test/ToyasCard.lean, 'card_holds'). Laid BY PROGRAM, IN A SANDBOX (cutbox-door.mjs). By AI agents, Wed Nov 11 2026. No macro, syntax, notation, axiom, sorry.
-/
import Derived.Test.YtoanmnhkhookfaaGreatDoorRows
import GoSem.ClaimSeven
namespace Go.Proofs.YtoanmnhkhookfaaGreatDoor
namespace Rows

/-- THE TIED CARD OF 'abacuslaw18.RelateTexts'. -/
def relateTextsCard : Claim7 := { stood := { row := relateTextsRow, standIns := [], harness := (true, "27fca148c1ac1c4626f556415be861b872d6dd0063cbf1d47f6b8dccbedb943e"), looks := true }, kinds := [], alts := [], laidByText := true, laidKinds := [.data, .data, .data, .data, .pinned, .pinned], laidTests := true, laidLooks := .later }
def RelateTextsCardSaid : Prop := Claim7.holds Tryz.pinned (.plain (OpenSpec.ofChange relateTextsSpec)) relateTextsCard

/-- THE TIED CARD OF 'abacuslaw18.RelateTotal'. -/
def relateTotalCard : Claim7 := { stood := { row := relateTotalRow, standIns := [], harness := (true, "27fca148c1ac1c4626f556415be861b872d6dd0063cbf1d47f6b8dccbedb943e"), looks := true }, kinds := [], alts := [], laidByText := true, laidKinds := [.data, .data, .data, .data, .pinned, .pinned], laidTests := true, laidLooks := .later }
def RelateTotalCardSaid : Prop := Claim7.holds Tryz.pinned (.plain (OpenSpec.ofChange relateTotalSpec)) relateTotalCard

/-- THE TIED CARD OF 'abacuslaw18.RelateSorted'. -/
def relateSortedCard : Claim7 := { stood := { row := relateSortedRow, standIns := [], harness := (true, "27fca148c1ac1c4626f556415be861b872d6dd0063cbf1d47f6b8dccbedb943e"), looks := true }, kinds := [], alts := [], laidByText := true, laidKinds := [.data, .data, .data, .data, .pinned, .pinned], laidTests := true, laidLooks := .later }
def RelateSortedCardSaid : Prop := Claim7.holds Tryz.pinned (.plain (OpenSpec.ofChange relateSortedSpec)) relateSortedCard

/-- THE TIED CARD OF 'abacuslaw18.RelateLeast'. -/
def relateLeastCard : Claim7 := { stood := { row := relateLeastRow, standIns := [], harness := (true, "27fca148c1ac1c4626f556415be861b872d6dd0063cbf1d47f6b8dccbedb943e"), looks := true }, kinds := [], alts := [], laidByText := true, laidKinds := [.data, .data, .data, .data, .pinned, .pinned], laidTests := true, laidLooks := .later }
def RelateLeastCardSaid : Prop := Claim7.holds Tryz.pinned (.plain (OpenSpec.ofChange relateLeastSpec)) relateLeastCard

/-- THE TIED CARD OF 'abacuslaw18.RelateKeeps'. -/
def relateKeepsCard : Claim7 := { stood := { row := relateKeepsRow, standIns := [], harness := (true, "27fca148c1ac1c4626f556415be861b872d6dd0063cbf1d47f6b8dccbedb943e"), looks := true }, kinds := [], alts := [], laidByText := true, laidKinds := [.data, .data, .data, .data, .pinned, .pinned], laidTests := true, laidLooks := .later }
def RelateKeepsCardSaid : Prop := Claim7.holds Tryz.pinned (.plain (OpenSpec.ofChange relateKeepsSpec)) relateKeepsCard

/-- THE TIED CARD OF 'abacuslaw18.RelateNothing'. -/
def relateNothingCard : Claim7 := { stood := { row := relateNothingRow, standIns := [], harness := (true, "27fca148c1ac1c4626f556415be861b872d6dd0063cbf1d47f6b8dccbedb943e"), looks := true }, kinds := [], alts := [], laidByText := true, laidKinds := [.data, .data, .data, .data, .pinned, .pinned], laidTests := true, laidLooks := .later }
def RelateNothingCardSaid : Prop := Claim7.holds Tryz.pinned (.plain (OpenSpec.ofChange relateNothingSpec)) relateNothingCard

/-- THE TIED CARD OF 'abacuslaw21.RecordRejoins'. -/
def recordRejoinsCard : Claim7 := { stood := { row := recordRejoinsRow, standIns := [], harness := (true, "27fca148c1ac1c4626f556415be861b872d6dd0063cbf1d47f6b8dccbedb943e"), looks := true }, kinds := [], alts := [], laidByText := true, laidKinds := [.data, .data, .data, .data, .pinned, .pinned], laidTests := true, laidLooks := .later }
def RecordRejoinsCardSaid : Prop := Claim7.holds Tryz.pinned (.plain (OpenSpec.ofChange recordRejoinsSpec)) recordRejoinsCard

/-- THE TIED CARD OF 'abacuslaw21.RecordLists'. -/
def recordListsCard : Claim7 := { stood := { row := recordListsRow, standIns := [], harness := (true, "27fca148c1ac1c4626f556415be861b872d6dd0063cbf1d47f6b8dccbedb943e"), looks := true }, kinds := [], alts := [], laidByText := true, laidKinds := [.data, .data, .data, .data, .pinned, .pinned], laidTests := true, laidLooks := .later }
def RecordListsCardSaid : Prop := Claim7.holds Tryz.pinned (.plain (OpenSpec.ofChange recordListsSpec)) recordListsCard

/-- THE TIED CARD OF 'abacuslaw21.RecordNothing'. -/
def recordNothingCard : Claim7 := { stood := { row := recordNothingRow, standIns := [], harness := (true, "27fca148c1ac1c4626f556415be861b872d6dd0063cbf1d47f6b8dccbedb943e"), looks := true }, kinds := [], alts := [], laidByText := true, laidKinds := [.data, .data, .data, .data, .pinned, .pinned], laidTests := true, laidLooks := .later }
def RecordNothingCardSaid : Prop := Claim7.holds Tryz.pinned (.plain (OpenSpec.ofChange recordNothingSpec)) recordNothingCard

/-- THE TIED CARD OF 'abacuslaw18.RelateTrich'. -/
def relateTrichCard : Claim7 := { stood := { row := relateTrichRow, standIns := [], harness := (true, "27fca148c1ac1c4626f556415be861b872d6dd0063cbf1d47f6b8dccbedb943e"), looks := true }, kinds := [], alts := [], laidByText := true, laidKinds := [.data, .data, .data, .data, .pinned, .pinned], laidTests := true, laidLooks := .later }
def RelateTrichCardSaid : Prop := Claim7.holds Tryz.pinned (.plain (OpenSpec.ofChange relateTrichSpec)) relateTrichCard

/-- THE TIED CARD OF 'abacuslaw21.RecordKeeps'. -/
def recordKeepsCard : Claim7 := { stood := { row := recordKeepsRow, standIns := [], harness := (true, "27fca148c1ac1c4626f556415be861b872d6dd0063cbf1d47f6b8dccbedb943e"), looks := true }, kinds := [], alts := [], laidByText := true, laidKinds := [.data, .data, .data, .data, .pinned, .pinned], laidTests := true, laidLooks := .later }
def RecordKeepsCardSaid : Prop := Claim7.holds Tryz.pinned (.plain (OpenSpec.ofChange recordKeepsSpec)) recordKeepsCard

/-- THE TIED CARD OF 'abacuslaw21.RecordWhole'. -/
def recordWholeCard : Claim7 := { stood := { row := recordWholeRow, standIns := [], harness := (true, "27fca148c1ac1c4626f556415be861b872d6dd0063cbf1d47f6b8dccbedb943e"), looks := true }, kinds := [], alts := [], laidByText := true, laidKinds := [.data, .data, .data, .data, .pinned, .pinned], laidTests := true, laidLooks := .later }
def RecordWholeCardSaid : Prop := Claim7.holds Tryz.pinned (.plain (OpenSpec.ofChange recordWholeSpec)) recordWholeCard

/-- THE SECOND FORM's CARD OF 'abacuslaw18.RelateTexts'. -/
def relateTextsUptoCard : Claim7 := { stood := { row := relateTextsUptoRow, standIns := [], harness := (true, "27fca148c1ac1c4626f556415be861b872d6dd0063cbf1d47f6b8dccbedb943e"), looks := true }, kinds := [], alts := [], laidByText := true, laidKinds := [.data, .data, .data, .data, .pinned, .pinned], laidTests := true, laidLooks := .later }
def RelateTextsUptoCardSaid : Prop := Claim7.holds Tryz.pinned (.plain (OpenSpec.upto relateTextsSpec)) relateTextsUptoCard

/-- THE SECOND FORM's CARD OF 'abacuslaw18.RelateTotal'. -/
def relateTotalUptoCard : Claim7 := { stood := { row := relateTotalUptoRow, standIns := [], harness := (true, "27fca148c1ac1c4626f556415be861b872d6dd0063cbf1d47f6b8dccbedb943e"), looks := true }, kinds := [], alts := [], laidByText := true, laidKinds := [.data, .data, .data, .data, .pinned, .pinned], laidTests := true, laidLooks := .later }
def RelateTotalUptoCardSaid : Prop := Claim7.holds Tryz.pinned (.plain (OpenSpec.upto relateTotalSpec)) relateTotalUptoCard

/-- THE SECOND FORM's CARD OF 'abacuslaw18.RelateSorted'. -/
def relateSortedUptoCard : Claim7 := { stood := { row := relateSortedUptoRow, standIns := [], harness := (true, "27fca148c1ac1c4626f556415be861b872d6dd0063cbf1d47f6b8dccbedb943e"), looks := true }, kinds := [], alts := [], laidByText := true, laidKinds := [.data, .data, .data, .data, .pinned, .pinned], laidTests := true, laidLooks := .later }
def RelateSortedUptoCardSaid : Prop := Claim7.holds Tryz.pinned (.plain (OpenSpec.upto relateSortedSpec)) relateSortedUptoCard

/-- THE SECOND FORM's CARD OF 'abacuslaw18.RelateLeast'. -/
def relateLeastUptoCard : Claim7 := { stood := { row := relateLeastUptoRow, standIns := [], harness := (true, "27fca148c1ac1c4626f556415be861b872d6dd0063cbf1d47f6b8dccbedb943e"), looks := true }, kinds := [], alts := [], laidByText := true, laidKinds := [.data, .data, .data, .data, .pinned, .pinned], laidTests := true, laidLooks := .later }
def RelateLeastUptoCardSaid : Prop := Claim7.holds Tryz.pinned (.plain (OpenSpec.upto relateLeastSpec)) relateLeastUptoCard

/-- THE SECOND FORM's CARD OF 'abacuslaw18.RelateKeeps'. -/
def relateKeepsUptoCard : Claim7 := { stood := { row := relateKeepsUptoRow, standIns := [], harness := (true, "27fca148c1ac1c4626f556415be861b872d6dd0063cbf1d47f6b8dccbedb943e"), looks := true }, kinds := [], alts := [], laidByText := true, laidKinds := [.data, .data, .data, .data, .pinned, .pinned], laidTests := true, laidLooks := .later }
def RelateKeepsUptoCardSaid : Prop := Claim7.holds Tryz.pinned (.plain (OpenSpec.upto relateKeepsSpec)) relateKeepsUptoCard

/-- THE SECOND FORM's CARD OF 'abacuslaw18.RelateNothing'. -/
def relateNothingUptoCard : Claim7 := { stood := { row := relateNothingUptoRow, standIns := [], harness := (true, "27fca148c1ac1c4626f556415be861b872d6dd0063cbf1d47f6b8dccbedb943e"), looks := true }, kinds := [], alts := [], laidByText := true, laidKinds := [.data, .data, .data, .data, .pinned, .pinned], laidTests := true, laidLooks := .later }
def RelateNothingUptoCardSaid : Prop := Claim7.holds Tryz.pinned (.plain (OpenSpec.upto relateNothingSpec)) relateNothingUptoCard

/-- THE SECOND FORM's CARD OF 'abacuslaw21.RecordRejoins'. -/
def recordRejoinsUptoCard : Claim7 := { stood := { row := recordRejoinsUptoRow, standIns := [], harness := (true, "27fca148c1ac1c4626f556415be861b872d6dd0063cbf1d47f6b8dccbedb943e"), looks := true }, kinds := [], alts := [], laidByText := true, laidKinds := [.data, .data, .data, .data, .pinned, .pinned], laidTests := true, laidLooks := .later }
def RecordRejoinsUptoCardSaid : Prop := Claim7.holds Tryz.pinned (.plain (OpenSpec.upto recordRejoinsSpec)) recordRejoinsUptoCard

/-- THE SECOND FORM's CARD OF 'abacuslaw21.RecordLists'. -/
def recordListsUptoCard : Claim7 := { stood := { row := recordListsUptoRow, standIns := [], harness := (true, "27fca148c1ac1c4626f556415be861b872d6dd0063cbf1d47f6b8dccbedb943e"), looks := true }, kinds := [], alts := [], laidByText := true, laidKinds := [.data, .data, .data, .data, .pinned, .pinned], laidTests := true, laidLooks := .later }
def RecordListsUptoCardSaid : Prop := Claim7.holds Tryz.pinned (.plain (OpenSpec.upto recordListsSpec)) recordListsUptoCard

/-- THE SECOND FORM's CARD OF 'abacuslaw21.RecordNothing'. -/
def recordNothingUptoCard : Claim7 := { stood := { row := recordNothingUptoRow, standIns := [], harness := (true, "27fca148c1ac1c4626f556415be861b872d6dd0063cbf1d47f6b8dccbedb943e"), looks := true }, kinds := [], alts := [], laidByText := true, laidKinds := [.data, .data, .data, .data, .pinned, .pinned], laidTests := true, laidLooks := .later }
def RecordNothingUptoCardSaid : Prop := Claim7.holds Tryz.pinned (.plain (OpenSpec.upto recordNothingSpec)) recordNothingUptoCard

/-- THE SECOND FORM's CARD OF 'abacuslaw18.RelateTrich'. -/
def relateTrichUptoCard : Claim7 := { stood := { row := relateTrichUptoRow, standIns := [], harness := (true, "27fca148c1ac1c4626f556415be861b872d6dd0063cbf1d47f6b8dccbedb943e"), looks := true }, kinds := [], alts := [], laidByText := true, laidKinds := [.data, .data, .data, .data, .pinned, .pinned], laidTests := true, laidLooks := .later }
def RelateTrichUptoCardSaid : Prop := Claim7.holds Tryz.pinned (.plain (OpenSpec.upto relateTrichSpec)) relateTrichUptoCard

/-- THE SECOND FORM's CARD OF 'abacuslaw21.RecordKeeps'. -/
def recordKeepsUptoCard : Claim7 := { stood := { row := recordKeepsUptoRow, standIns := [], harness := (true, "27fca148c1ac1c4626f556415be861b872d6dd0063cbf1d47f6b8dccbedb943e"), looks := true }, kinds := [], alts := [], laidByText := true, laidKinds := [.data, .data, .data, .data, .pinned, .pinned], laidTests := true, laidLooks := .later }
def RecordKeepsUptoCardSaid : Prop := Claim7.holds Tryz.pinned (.plain (OpenSpec.upto recordKeepsSpec)) recordKeepsUptoCard

/-- THE SECOND FORM's CARD OF 'abacuslaw21.RecordWhole'. -/
def recordWholeUptoCard : Claim7 := { stood := { row := recordWholeUptoRow, standIns := [], harness := (true, "27fca148c1ac1c4626f556415be861b872d6dd0063cbf1d47f6b8dccbedb943e"), looks := true }, kinds := [], alts := [], laidByText := true, laidKinds := [.data, .data, .data, .data, .pinned, .pinned], laidTests := true, laidLooks := .later }
def RecordWholeUptoCardSaid : Prop := Claim7.holds Tryz.pinned (.plain (OpenSpec.upto recordWholeSpec)) recordWholeUptoCard
end Rows
end Go.Proofs.YtoanmnhkhookfaaGreatDoor
