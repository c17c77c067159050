/-
  DERIVED. GIVEN WITH THE SEED: THE CARDS: each row of YtkekhgnbdhlmhaaDoorRows.lean that lists a variable, with what it lists TIED to the program's text (the seventh form; the later family's looks); each row that meets fmt, with fmt's text TOLD by the authors' own Lean function (tested against real Go, not proved from fmt's source: count such statements apart). THE CARD IS WHAT COUNTS. Prove the row's statement (the work); the ties are given (YtkekhgnbdhlmhaaDoorTie.lean); close each card by the builder's one call (the guide's Derived/Test/ToyasCard.lean, 'card_holds'). Laid BY PROGRAM, IN A SANDBOX (cutbox-door.mjs). By AI agents, Wed Nov 11 2026. No macro, syntax, notation, axiom, sorry.
-/
import Derived.Test.YtkekhgnbdhlmhaaDoorRows
import GoSem.ClaimSeven
namespace Go.Proofs.YtkekhgnbdhlmhaaDoor
namespace Rows

/-- THE TIED CARD OF 'evergreenlaw20.KeysFits'. -/
def keysFitsCard : Claim7 := { stood := { row := keysFitsRow, standIns := [], harness := (true, "0574d4cf36afe5b3bd6f7c01799c10bdb142d9b8502d46bb20d38730a9e513ac"), looks := false }, kinds := [], alts := [], laidByText := true, laidKinds := [.data], laidTests := true, laidLooks := .later }
def KeysFitsCardSaid : Prop := Claim7.holds Tryd.pinned (.plain (OpenSpec.ofChange keysFitsSpec)) keysFitsCard

/-- THE TIED CARD OF 'evergreenlaw20.KeysAfter'. -/
def keysAfterCard : Claim7 := { stood := { row := keysAfterRow, standIns := [], harness := (true, "0574d4cf36afe5b3bd6f7c01799c10bdb142d9b8502d46bb20d38730a9e513ac"), looks := false }, kinds := [], alts := [], laidByText := true, laidKinds := [.data], laidTests := true, laidLooks := .later }
def KeysAfterCardSaid : Prop := Claim7.holds Tryd.pinned (.plain (OpenSpec.ofChange keysAfterSpec)) keysAfterCard

/-- THE TIED CARD OF 'evergreenlaw20.KeysLeast'. -/
def keysLeastCard : Claim7 := { stood := { row := keysLeastRow, standIns := [], harness := (true, "0574d4cf36afe5b3bd6f7c01799c10bdb142d9b8502d46bb20d38730a9e513ac"), looks := false }, kinds := [], alts := [], laidByText := true, laidKinds := [.data], laidTests := true, laidLooks := .later }
def KeysLeastCardSaid : Prop := Claim7.holds Tryd.pinned (.plain (OpenSpec.ofChange keysLeastSpec)) keysLeastCard

/-- THE TIED CARD OF 'evergreenlaw20.KeysNumbers'. -/
def keysNumbersCard : Claim7 := { stood := { row := keysNumbersRow, standIns := [], harness := (true, "0574d4cf36afe5b3bd6f7c01799c10bdb142d9b8502d46bb20d38730a9e513ac"), looks := false }, kinds := [], alts := [], laidByText := true, laidKinds := [.data], laidTests := true, laidLooks := .later }
def KeysNumbersCardSaid : Prop := Claim7.holds Tryd.pinned (.plain (OpenSpec.ofChange keysNumbersSpec)) keysNumbersCard

/-- THE SECOND FORM's CARD OF 'evergreenlaw20.KeysFits'. -/
def keysFitsUptoCard : Claim7 := { stood := { row := keysFitsUptoRow, standIns := [], harness := (true, "0574d4cf36afe5b3bd6f7c01799c10bdb142d9b8502d46bb20d38730a9e513ac"), looks := false }, kinds := [], alts := [], laidByText := true, laidKinds := [.data], laidTests := true, laidLooks := .later }
def KeysFitsUptoCardSaid : Prop := Claim7.holds Tryd.pinned (.plain (OpenSpec.upto keysFitsSpec)) keysFitsUptoCard

/-- THE SECOND FORM's CARD OF 'evergreenlaw20.KeysAfter'. -/
def keysAfterUptoCard : Claim7 := { stood := { row := keysAfterUptoRow, standIns := [], harness := (true, "0574d4cf36afe5b3bd6f7c01799c10bdb142d9b8502d46bb20d38730a9e513ac"), looks := false }, kinds := [], alts := [], laidByText := true, laidKinds := [.data], laidTests := true, laidLooks := .later }
def KeysAfterUptoCardSaid : Prop := Claim7.holds Tryd.pinned (.plain (OpenSpec.upto keysAfterSpec)) keysAfterUptoCard

/-- THE SECOND FORM's CARD OF 'evergreenlaw20.KeysLeast'. -/
def keysLeastUptoCard : Claim7 := { stood := { row := keysLeastUptoRow, standIns := [], harness := (true, "0574d4cf36afe5b3bd6f7c01799c10bdb142d9b8502d46bb20d38730a9e513ac"), looks := false }, kinds := [], alts := [], laidByText := true, laidKinds := [.data], laidTests := true, laidLooks := .later }
def KeysLeastUptoCardSaid : Prop := Claim7.holds Tryd.pinned (.plain (OpenSpec.upto keysLeastSpec)) keysLeastUptoCard

/-- THE SECOND FORM's CARD OF 'evergreenlaw20.KeysNumbers'. -/
def keysNumbersUptoCard : Claim7 := { stood := { row := keysNumbersUptoRow, standIns := [], harness := (true, "0574d4cf36afe5b3bd6f7c01799c10bdb142d9b8502d46bb20d38730a9e513ac"), looks := false }, kinds := [], alts := [], laidByText := true, laidKinds := [.data], laidTests := true, laidLooks := .later }
def KeysNumbersUptoCardSaid : Prop := Claim7.holds Tryd.pinned (.plain (OpenSpec.upto keysNumbersSpec)) keysNumbersUptoCard
end Rows
end Go.Proofs.YtkekhgnbdhlmhaaDoor
