/-
  DERIVED. GIVEN WITH THE SEED: THE CARDS: each row of YtlklnenlhmhcaaaDoorRows.lean that lists a variable, with what it lists TIED to the program's text (the seventh form; the later family's looks); each row that meets fmt, with fmt's text TOLD by the authors' own Lean function (tested against real Go, not proved from fmt's source: count such statements apart). THE CARD IS WHAT COUNTS. Prove the row's statement (the work); the ties are given (YtlklnenlhmhcaaaDoorTie.lean); close each card by the builder's one call (the guide's Derived/Test/ToyasCard.lean, 'card_holds'). Laid BY PROGRAM, IN A SANDBOX (cutbox-door.mjs). By AI agents, Wed Nov 11 2026. No macro, syntax, notation, axiom, sorry.
-/
import Derived.Test.YtlklnenlhmhcaaaDoorRows
import GoSem.ClaimSeven
namespace Go.Proofs.YtlklnenlhmhcaaaDoor
namespace Rows

/-- THE TIED CARD OF 'abacuslaw21.RecordPieces'. -/
def recordPiecesCard : Claim7 := { stood := { row := recordPiecesRow, standIns := [], harness := (true, "70be1c84041d0cf467c0808707b977f2fdaa0964afd00e3095e7f34ec20de619"), looks := false }, kinds := [], alts := [], laidByText := true, laidKinds := [.data, .pinned], laidTests := true, laidLooks := .later }
def RecordPiecesCardSaid : Prop := Claim7.holds Tryd.pinned (.plain (OpenSpec.ofChange recordPiecesSpec)) recordPiecesCard

/-- THE SECOND FORM's CARD OF 'abacuslaw21.RecordPieces'. -/
def recordPiecesUptoCard : Claim7 := { stood := { row := recordPiecesUptoRow, standIns := [], harness := (true, "70be1c84041d0cf467c0808707b977f2fdaa0964afd00e3095e7f34ec20de619"), looks := false }, kinds := [], alts := [], laidByText := true, laidKinds := [.data, .pinned], laidTests := true, laidLooks := .later }
def RecordPiecesUptoCardSaid : Prop := Claim7.holds Tryd.pinned (.plain (OpenSpec.upto recordPiecesSpec)) recordPiecesUptoCard
end Rows
end Go.Proofs.YtlklnenlhmhcaaaDoor
