/-
  DERIVED. GIVEN WITH THE SEED: THE CARDS: each row of YtkkhpdkfploodaaGreatDoorRows.lean that lists a variable, with what it lists TIED to the program's text (the seventh form; the later family's looks); each row that meets fmt, with fmt's text TOLD by the authors' own Lean function (tested against real Go, not proved from fmt's source: count such statements apart). THE CARD IS WHAT COUNTS. Prove the row's statement (the work); the ties are given (YtkkhpdkfploodaaGreatDoorTie.lean); close each card by the builder's one call (the guide's Derived/Test/ToyasCard.lean, 'card_holds'). Laid BY PROGRAM, IN A SANDBOX (cutbox-door.mjs). By AI agents, Wed Nov 11 2026. No macro, syntax, notation, axiom, sorry.
-/
import Derived.Test.YtkkhpdkfploodaaGreatDoorRows
import GoSem.ClaimSeven
namespace Go.Proofs.YtkkhpdkfploodaaGreatDoor
namespace Rows

/-- THE TIED CARD OF 'evergreenlaw22.SignatureSequences'. -/
def signatureSequencesCard : Claim7 := { stood := { row := signatureSequencesRow, standIns := [], harness := (true, "5262f96ab30e2fcdb28acdddc8c4d3f4ef40d262a02d3a79447e001647ea36e5"), looks := true }, kinds := [], alts := [], laidByText := true, laidKinds := [.data], laidTests := true, laidLooks := .later }
def SignatureSequencesCardSaid : Prop := Claim7.holds Tryz.pinned (.plain (OpenSpec.ofChange signatureSequencesSpec)) signatureSequencesCard

/-- THE SECOND FORM's CARD OF 'evergreenlaw22.SignatureSequences'. -/
def signatureSequencesUptoCard : Claim7 := { stood := { row := signatureSequencesUptoRow, standIns := [], harness := (true, "5262f96ab30e2fcdb28acdddc8c4d3f4ef40d262a02d3a79447e001647ea36e5"), looks := true }, kinds := [], alts := [], laidByText := true, laidKinds := [.data], laidTests := true, laidLooks := .later }
def SignatureSequencesUptoCardSaid : Prop := Claim7.holds Tryz.pinned (.plain (OpenSpec.upto signatureSequencesSpec)) signatureSequencesUptoCard
end Rows
end Go.Proofs.YtkkhpdkfploodaaGreatDoor
