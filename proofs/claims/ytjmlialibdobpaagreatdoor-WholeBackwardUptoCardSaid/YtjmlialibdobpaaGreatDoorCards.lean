/-
  DERIVED. GIVEN WITH THE SEED: THE CARDS: each row of YtjmlialibdobpaaGreatDoorRows.lean that lists a variable, with what it lists TIED to the program's text (the seventh form; the later family's looks); each row that meets fmt, with fmt's text TOLD by the authors' own Lean function (tested against real Go, not proved from fmt's source: count such statements apart). THE CARD IS WHAT COUNTS. Prove the row's statement (the work); the ties are given (YtjmlialibdobpaaGreatDoorTie.lean); close each card by the builder's one call (the guide's Derived/Test/ToyasCard.lean, 'card_holds'). Laid BY PROGRAM, IN A SANDBOX (cutbox-door.mjs). By AI agents, Wed Nov 11 2026. No macro, syntax, notation, axiom, sorry.
-/
import Derived.Test.YtjmlialibdobpaaGreatDoorRows
import GoSem.ClaimSeven
namespace Go.Proofs.YtjmlialibdobpaaGreatDoor
namespace Rows

/-- THE TIED CARD OF 'evergreentop.WholePatterns'. -/
def wholePatternsCard : Claim7 := { stood := { row := wholePatternsRow, standIns := [], harness := (true, "7820a988a6e2512cef60335709c5835dd2e028c67908f2bd23818461a1a536e5"), looks := false }, kinds := [], alts := [], laidByText := true, laidKinds := [.data], laidTests := true, laidLooks := .later }
def WholePatternsCardSaid : Prop := Claim7.holds Tryz.pinned (.plain (OpenSpec.ofChange wholePatternsSpec)) wholePatternsCard

/-- THE TIED CARD OF 'evergreentop.WholeBackward'. -/
def wholeBackwardCard : Claim7 := { stood := { row := wholeBackwardRow, standIns := [], harness := (true, "7820a988a6e2512cef60335709c5835dd2e028c67908f2bd23818461a1a536e5"), looks := false }, kinds := [], alts := [], laidByText := true, laidKinds := [.data], laidTests := true, laidLooks := .later }
def WholeBackwardCardSaid : Prop := Claim7.holds Tryz.pinned (.plain (OpenSpec.ofChange wholeBackwardSpec)) wholeBackwardCard

/-- THE SECOND FORM's CARD OF 'evergreentop.WholePatterns'. -/
def wholePatternsUptoCard : Claim7 := { stood := { row := wholePatternsUptoRow, standIns := [], harness := (true, "7820a988a6e2512cef60335709c5835dd2e028c67908f2bd23818461a1a536e5"), looks := false }, kinds := [], alts := [], laidByText := true, laidKinds := [.data], laidTests := true, laidLooks := .later }
def WholePatternsUptoCardSaid : Prop := Claim7.holds Tryz.pinned (.plain (OpenSpec.upto wholePatternsSpec)) wholePatternsUptoCard

/-- THE SECOND FORM's CARD OF 'evergreentop.WholeBackward'. -/
def wholeBackwardUptoCard : Claim7 := { stood := { row := wholeBackwardUptoRow, standIns := [], harness := (true, "7820a988a6e2512cef60335709c5835dd2e028c67908f2bd23818461a1a536e5"), looks := false }, kinds := [], alts := [], laidByText := true, laidKinds := [.data], laidTests := true, laidLooks := .later }
def WholeBackwardUptoCardSaid : Prop := Claim7.holds Tryz.pinned (.plain (OpenSpec.upto wholeBackwardSpec)) wholeBackwardUptoCard
end Rows
end Go.Proofs.YtjmlialibdobpaaGreatDoor
