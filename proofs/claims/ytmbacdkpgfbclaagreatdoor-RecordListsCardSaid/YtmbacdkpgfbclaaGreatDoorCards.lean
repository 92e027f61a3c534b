/-
  DERIVED. GIVEN WITH THE SEED: THE CARDS: each row of YtmbacdkpgfbclaaGreatDoorRows.lean that lists a variable, with what it lists TIED to the program's text (the seventh form; the later family's looks); each row that meets fmt, with fmt's text TOLD by the authors' own Lean function (tested against real Go, not proved from fmt's source: count such statements apart). THE CARD IS WHAT COUNTS. Prove the row's statement (the work); the ties are given (YtmbacdkpgfbclaaGreatDoorTie.lean); close each card by the builder's one call (the guide's Derived/Test/ToyasCard.lean, 'card_holds'). Laid BY PROGRAM, IN A SANDBOX (cutbox-door.mjs). By AI agents, Wed Nov 11 2026. No macro, syntax, notation, axiom, sorry.
-/
import Derived.Test.YtmbacdkpgfbclaaGreatDoorRows
import GoSem.ClaimSeven
namespace Go.Proofs.YtmbacdkpgfbclaaGreatDoor
namespace Rows

/-- THE TIED CARD OF 'abacuslaw18.RelateKeeps'. -/
def relateKeepsCard : Claim7 := { stood := { row := relateKeepsRow, standIns := [], harness := (true, "6714f80bb04470fe6585f140b2f8f546482faba722e9b0dddd7c698df36b74d0"), looks := true }, kinds := [], alts := [], laidByText := true, laidKinds := [.data, .data, .data, .data, .pinned, .pinned], laidTests := true, laidLooks := .later }
def RelateKeepsCardSaid : Prop := Claim7.holds Tryz.pinned (.plain (OpenSpec.ofChange relateKeepsSpec)) relateKeepsCard

/-- THE TIED CARD OF 'abacustop.CoreQueues'. -/
def coreQueuesCard : Claim7 := { stood := { row := coreQueuesRow, standIns := [], harness := (true, "6714f80bb04470fe6585f140b2f8f546482faba722e9b0dddd7c698df36b74d0"), looks := true }, kinds := [], alts := [], laidByText := true, laidKinds := [.data, .data, .data, .data, .pinned, .pinned], laidTests := true, laidLooks := .later }
def CoreQueuesCardSaid : Prop := Claim7.holds Tryz.pinned (.plain (OpenSpec.ofChange coreQueuesSpec)) coreQueuesCard

/-- THE TIED CARD OF 'abacuslaw21.RecordNothing'. -/
def recordNothingCard : Claim7 := { stood := { row := recordNothingRow, standIns := [], harness := (true, "6714f80bb04470fe6585f140b2f8f546482faba722e9b0dddd7c698df36b74d0"), looks := true }, kinds := [], alts := [], laidByText := true, laidKinds := [.data, .data, .data, .data, .pinned, .pinned], laidTests := true, laidLooks := .later }
def RecordNothingCardSaid : Prop := Claim7.holds Tryz.pinned (.plain (OpenSpec.ofChange recordNothingSpec)) recordNothingCard

/-- THE TIED CARD OF 'abacuslaw21.RecordLists'. -/
def recordListsCard : Claim7 := { stood := { row := recordListsRow, standIns := [], harness := (true, "6714f80bb04470fe6585f140b2f8f546482faba722e9b0dddd7c698df36b74d0"), looks := true }, kinds := [], alts := [], laidByText := true, laidKinds := [.data, .data, .data, .data, .pinned, .pinned], laidTests := true, laidLooks := .later }
def RecordListsCardSaid : Prop := Claim7.holds Tryz.pinned (.plain (OpenSpec.ofChange recordListsSpec)) recordListsCard

/-- THE TIED CARD OF 'abacuslaw21.RecordRejoins'. -/
def recordRejoinsCard : Claim7 := { stood := { row := recordRejoinsRow, standIns := [], harness := (true, "6714f80bb04470fe6585f140b2f8f546482faba722e9b0dddd7c698df36b74d0"), looks := true }, kinds := [], alts := [], laidByText := true, laidKinds := [.data, .data, .data, .data, .pinned, .pinned], laidTests := true, laidLooks := .later }
def RecordRejoinsCardSaid : Prop := Claim7.holds Tryz.pinned (.plain (OpenSpec.ofChange recordRejoinsSpec)) recordRejoinsCard

/-- THE TIED CARD OF 'abacuslaw21.RecordKeeps'. -/
def recordKeepsCard : Claim7 := { stood := { row := recordKeepsRow, standIns := [], harness := (true, "6714f80bb04470fe6585f140b2f8f546482faba722e9b0dddd7c698df36b74d0"), looks := true }, kinds := [], alts := [], laidByText := true, laidKinds := [.data, .data, .data, .data, .pinned, .pinned], laidTests := true, laidLooks := .later }
def RecordKeepsCardSaid : Prop := Claim7.holds Tryz.pinned (.plain (OpenSpec.ofChange recordKeepsSpec)) recordKeepsCard

/-- THE TIED CARD OF 'abacuslaw21.RecordCounted'. -/
def recordCountedCard : Claim7 := { stood := { row := recordCountedRow, standIns := [], harness := (true, "6714f80bb04470fe6585f140b2f8f546482faba722e9b0dddd7c698df36b74d0"), looks := true }, kinds := [], alts := [], laidByText := true, laidKinds := [.data, .data, .data, .data, .pinned, .pinned], laidTests := true, laidLooks := .later }
def RecordCountedCardSaid : Prop := Claim7.holds Tryz.pinned (.plain (OpenSpec.ofChange recordCountedSpec)) recordCountedCard

/-- THE TIED CARD OF 'abacuslaw21.RecordSets'. -/
def recordSetsCard : Claim7 := { stood := { row := recordSetsRow, standIns := [], harness := (true, "6714f80bb04470fe6585f140b2f8f546482faba722e9b0dddd7c698df36b74d0"), looks := true }, kinds := [], alts := [], laidByText := true, laidKinds := [.data, .data, .data, .data, .pinned, .pinned], laidTests := true, laidLooks := .later }
def RecordSetsCardSaid : Prop := Claim7.holds Tryz.pinned (.plain (OpenSpec.ofChange recordSetsSpec)) recordSetsCard

/-- THE TIED CARD OF 'abacuslaw21.RecordWhole'. -/
def recordWholeCard : Claim7 := { stood := { row := recordWholeRow, standIns := [], harness := (true, "6714f80bb04470fe6585f140b2f8f546482faba722e9b0dddd7c698df36b74d0"), looks := true }, kinds := [], alts := [], laidByText := true, laidKinds := [.data, .data, .data, .data, .pinned, .pinned], laidTests := true, laidLooks := .later }
def RecordWholeCardSaid : Prop := Claim7.holds Tryz.pinned (.plain (OpenSpec.ofChange recordWholeSpec)) recordWholeCard

/-- THE TIED CARD OF 'abacustop.CoreCompares'. -/
def coreComparesCard : Claim7 := { stood := { row := coreComparesRow, standIns := [], harness := (true, "6714f80bb04470fe6585f140b2f8f546482faba722e9b0dddd7c698df36b74d0"), looks := true }, kinds := [], alts := [], laidByText := true, laidKinds := [.data, .data, .data, .data, .pinned, .pinned], laidTests := true, laidLooks := .later }
def CoreComparesCardSaid : Prop := Claim7.holds Tryz.pinned (.plain (OpenSpec.ofChange coreComparesSpec)) coreComparesCard

/-- THE TIED CARD OF 'abacuslaw18.RelateTrich'. -/
def relateTrichCard : Claim7 := { stood := { row := relateTrichRow, standIns := [], harness := (true, "6714f80bb04470fe6585f140b2f8f546482faba722e9b0dddd7c698df36b74d0"), looks := true }, kinds := [], alts := [], laidByText := true, laidKinds := [.data, .data, .data, .data, .pinned, .pinned], laidTests := true, laidLooks := .later }
def RelateTrichCardSaid : Prop := Claim7.holds Tryz.pinned (.plain (OpenSpec.ofChange relateTrichSpec)) relateTrichCard

/-- THE TIED CARD OF 'abacuslaw19.SpellLines'. -/
def spellLinesCard : Claim7 := { stood := { row := spellLinesRow, standIns := [], harness := (true, "6714f80bb04470fe6585f140b2f8f546482faba722e9b0dddd7c698df36b74d0"), looks := true }, kinds := [], alts := [], laidByText := true, laidKinds := [.data, .data, .data, .data, .pinned, .pinned], laidTests := true, laidLooks := .later }
def SpellLinesCardSaid : Prop := Claim7.holds Tryz.pinned (.plain (OpenSpec.ofChange spellLinesSpec)) spellLinesCard

/-- THE SECOND FORM's CARD OF 'abacuslaw18.RelateKeeps'. -/
def relateKeepsUptoCard : Claim7 := { stood := { row := relateKeepsUptoRow, standIns := [], harness := (true, "6714f80bb04470fe6585f140b2f8f546482faba722e9b0dddd7c698df36b74d0"), looks := true }, kinds := [], alts := [], laidByText := true, laidKinds := [.data, .data, .data, .data, .pinned, .pinned], laidTests := true, laidLooks := .later }
def RelateKeepsUptoCardSaid : Prop := Claim7.holds Tryz.pinned (.plain (OpenSpec.upto relateKeepsSpec)) relateKeepsUptoCard

/-- THE SECOND FORM's CARD OF 'abacustop.CoreQueues'. -/
def coreQueuesUptoCard : Claim7 := { stood := { row := coreQueuesUptoRow, standIns := [], harness := (true, "6714f80bb04470fe6585f140b2f8f546482faba722e9b0dddd7c698df36b74d0"), looks := true }, kinds := [], alts := [], laidByText := true, laidKinds := [.data, .data, .data, .data, .pinned, .pinned], laidTests := true, laidLooks := .later }
def CoreQueuesUptoCardSaid : Prop := Claim7.holds Tryz.pinned (.plain (OpenSpec.upto coreQueuesSpec)) coreQueuesUptoCard

/-- THE SECOND FORM's CARD OF 'abacuslaw21.RecordNothing'. -/
def recordNothingUptoCard : Claim7 := { stood := { row := recordNothingUptoRow, standIns := [], harness := (true, "6714f80bb04470fe6585f140b2f8f546482faba722e9b0dddd7c698df36b74d0"), looks := true }, kinds := [], alts := [], laidByText := true, laidKinds := [.data, .data, .data, .data, .pinned, .pinned], laidTests := true, laidLooks := .later }
def RecordNothingUptoCardSaid : Prop := Claim7.holds Tryz.pinned (.plain (OpenSpec.upto recordNothingSpec)) recordNothingUptoCard

/-- THE SECOND FORM's CARD OF 'abacuslaw21.RecordLists'. -/
def recordListsUptoCard : Claim7 := { stood := { row := recordListsUptoRow, standIns := [], harness := (true, "6714f80bb04470fe6585f140b2f8f546482faba722e9b0dddd7c698df36b74d0"), looks := true }, kinds := [], alts := [], laidByText := true, laidKinds := [.data, .data, .data, .data, .pinned, .pinned], laidTests := true, laidLooks := .later }
def RecordListsUptoCardSaid : Prop := Claim7.holds Tryz.pinned (.plain (OpenSpec.upto recordListsSpec)) recordListsUptoCard

/-- THE SECOND FORM's CARD OF 'abacuslaw21.RecordRejoins'. -/
def recordRejoinsUptoCard : Claim7 := { stood := { row := recordRejoinsUptoRow, standIns := [], harness := (true, "6714f80bb04470fe6585f140b2f8f546482faba722e9b0dddd7c698df36b74d0"), looks := true }, kinds := [], alts := [], laidByText := true, laidKinds := [.data, .data, .data, .data, .pinned, .pinned], laidTests := true, laidLooks := .later }
def RecordRejoinsUptoCardSaid : Prop := Claim7.holds Tryz.pinned (.plain (OpenSpec.upto recordRejoinsSpec)) recordRejoinsUptoCard

/-- THE SECOND FORM's CARD OF 'abacuslaw21.RecordKeeps'. -/
def recordKeepsUptoCard : Claim7 := { stood := { row := recordKeepsUptoRow, standIns := [], harness := (true, "6714f80bb04470fe6585f140b2f8f546482faba722e9b0dddd7c698df36b74d0"), looks := true }, kinds := [], alts := [], laidByText := true, laidKinds := [.data, .data, .data, .data, .pinned, .pinned], laidTests := true, laidLooks := .later }
def RecordKeepsUptoCardSaid : Prop := Claim7.holds Tryz.pinned (.plain (OpenSpec.upto recordKeepsSpec)) recordKeepsUptoCard

/-- THE SECOND FORM's CARD OF 'abacuslaw21.RecordCounted'. -/
def recordCountedUptoCard : Claim7 := { stood := { row := recordCountedUptoRow, standIns := [], harness := (true, "6714f80bb04470fe6585f140b2f8f546482faba722e9b0dddd7c698df36b74d0"), looks := true }, kinds := [], alts := [], laidByText := true, laidKinds := [.data, .data, .data, .data, .pinned, .pinned], laidTests := true, laidLooks := .later }
def RecordCountedUptoCardSaid : Prop := Claim7.holds Tryz.pinned (.plain (OpenSpec.upto recordCountedSpec)) recordCountedUptoCard

/-- THE SECOND FORM's CARD OF 'abacuslaw21.RecordSets'. -/
def recordSetsUptoCard : Claim7 := { stood := { row := recordSetsUptoRow, standIns := [], harness := (true, "6714f80bb04470fe6585f140b2f8f546482faba722e9b0dddd7c698df36b74d0"), looks := true }, kinds := [], alts := [], laidByText := true, laidKinds := [.data, .data, .data, .data, .pinned, .pinned], laidTests := true, laidLooks := .later }
def RecordSetsUptoCardSaid : Prop := Claim7.holds Tryz.pinned (.plain (OpenSpec.upto recordSetsSpec)) recordSetsUptoCard

/-- THE SECOND FORM's CARD OF 'abacuslaw21.RecordWhole'. -/
def recordWholeUptoCard : Claim7 := { stood := { row := recordWholeUptoRow, standIns := [], harness := (true, "6714f80bb04470fe6585f140b2f8f546482faba722e9b0dddd7c698df36b74d0"), looks := true }, kinds := [], alts := [], laidByText := true, laidKinds := [.data, .data, .data, .data, .pinned, .pinned], laidTests := true, laidLooks := .later }
def RecordWholeUptoCardSaid : Prop := Claim7.holds Tryz.pinned (.plain (OpenSpec.upto recordWholeSpec)) recordWholeUptoCard

/-- THE SECOND FORM's CARD OF 'abacustop.CoreCompares'. -/
def coreComparesUptoCard : Claim7 := { stood := { row := coreComparesUptoRow, standIns := [], harness := (true, "6714f80bb04470fe6585f140b2f8f546482faba722e9b0dddd7c698df36b74d0"), looks := true }, kinds := [], alts := [], laidByText := true, laidKinds := [.data, .data, .data, .data, .pinned, .pinned], laidTests := true, laidLooks := .later }
def CoreComparesUptoCardSaid : Prop := Claim7.holds Tryz.pinned (.plain (OpenSpec.upto coreComparesSpec)) coreComparesUptoCard

/-- THE SECOND FORM's CARD OF 'abacuslaw18.RelateTrich'. -/
def relateTrichUptoCard : Claim7 := { stood := { row := relateTrichUptoRow, standIns := [], harness := (true, "6714f80bb04470fe6585f140b2f8f546482faba722e9b0dddd7c698df36b74d0"), looks := true }, kinds := [], alts := [], laidByText := true, laidKinds := [.data, .data, .data, .data, .pinned, .pinned], laidTests := true, laidLooks := .later }
def RelateTrichUptoCardSaid : Prop := Claim7.holds Tryz.pinned (.plain (OpenSpec.upto relateTrichSpec)) relateTrichUptoCard

/-- THE SECOND FORM's CARD OF 'abacuslaw19.SpellLines'. -/
def spellLinesUptoCard : Claim7 := { stood := { row := spellLinesUptoRow, standIns := [], harness := (true, "6714f80bb04470fe6585f140b2f8f546482faba722e9b0dddd7c698df36b74d0"), looks := true }, kinds := [], alts := [], laidByText := true, laidKinds := [.data, .data, .data, .data, .pinned, .pinned], laidTests := true, laidLooks := .later }
def SpellLinesUptoCardSaid : Prop := Claim7.holds Tryz.pinned (.plain (OpenSpec.upto spellLinesSpec)) spellLinesUptoCard
end Rows
end Go.Proofs.YtmbacdkpgfbclaaGreatDoor
