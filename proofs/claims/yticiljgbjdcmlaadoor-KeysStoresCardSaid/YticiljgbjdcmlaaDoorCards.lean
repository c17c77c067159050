/-
  DERIVED. GIVEN WITH THE SEED: THE CARDS: each row of YticiljgbjdcmlaaDoorRows.lean that lists a variable, with what it lists TIED to the program's text (the seventh form; the later family's looks); each row that meets fmt, with fmt's text TOLD by the authors' own Lean function (tested against real Go, not proved from fmt's source: count such statements apart). THE CARD IS WHAT COUNTS. Prove the row's statement (the work); the ties are given (YticiljgbjdcmlaaDoorTie.lean); close each card by the builder's one call (the guide's Derived/Test/ToyasCard.lean, 'card_holds'). Laid BY PROGRAM, IN A SANDBOX (cutbox-door.mjs). By AI agents, Wed Nov 11 2026. No macro, syntax, notation, axiom, sorry.
-/
import Derived.Test.YticiljgbjdcmlaaDoorRows
import GoSem.ClaimSeven
namespace Go.Proofs.YticiljgbjdcmlaaDoor
namespace Rows

/-- THE TIED CARD OF 'evergreenlaw20.KeysStores'. -/
def keysStoresCard : Claim7 := { stood := { row := keysStoresRow, standIns := [], harness := (true, "5f065de523a391371c73cf6ec7222e8991586d7b132736e9a19d77d3cfae520d"), looks := true }, kinds := [], alts := [], laidByText := true, laidKinds := [.data], laidTests := true, laidLooks := .later }
def KeysStoresCardSaid : Prop := Claim7.holds Tryd.pinned (.plain (OpenSpec.ofChange keysStoresSpec)) keysStoresCard

/-- THE TIED CARD OF 'evergreenlaw20.KeysRise'. -/
def keysRiseCard : Claim7 := { stood := { row := keysRiseRow, standIns := [], harness := (true, "5f065de523a391371c73cf6ec7222e8991586d7b132736e9a19d77d3cfae520d"), looks := true }, kinds := [], alts := [], laidByText := true, laidKinds := [.data], laidTests := true, laidLooks := .later }
def KeysRiseCardSaid : Prop := Claim7.holds Tryd.pinned (.plain (OpenSpec.ofChange keysRiseSpec)) keysRiseCard

/-- THE TIED CARD OF 'evergreenlaw20.KeysRules'. -/
def keysRulesCard : Claim7 := { stood := { row := keysRulesRow, standIns := [], harness := (true, "5f065de523a391371c73cf6ec7222e8991586d7b132736e9a19d77d3cfae520d"), looks := true }, kinds := [], alts := [], laidByText := true, laidKinds := [.data], laidTests := true, laidLooks := .later }
def KeysRulesCardSaid : Prop := Claim7.holds Tryd.pinned (.plain (OpenSpec.ofChange keysRulesSpec)) keysRulesCard

/-- THE TIED CARD OF 'evergreenlaw20.KeysErrors'. -/
def keysErrorsCard : Claim7 := { stood := { row := keysErrorsRow, standIns := [], harness := (true, "5f065de523a391371c73cf6ec7222e8991586d7b132736e9a19d77d3cfae520d"), looks := true }, kinds := [], alts := [], laidByText := true, laidKinds := [.data], laidTests := true, laidLooks := .later }
def KeysErrorsCardSaid : Prop := Claim7.holds Tryd.pinned (.plain (OpenSpec.ofChange keysErrorsSpec)) keysErrorsCard

/-- THE SECOND FORM's CARD OF 'evergreenlaw20.KeysStores'. -/
def keysStoresUptoCard : Claim7 := { stood := { row := keysStoresUptoRow, standIns := [], harness := (true, "5f065de523a391371c73cf6ec7222e8991586d7b132736e9a19d77d3cfae520d"), looks := true }, kinds := [], alts := [], laidByText := true, laidKinds := [.data], laidTests := true, laidLooks := .later }
def KeysStoresUptoCardSaid : Prop := Claim7.holds Tryd.pinned (.plain (OpenSpec.upto keysStoresSpec)) keysStoresUptoCard

/-- THE SECOND FORM's CARD OF 'evergreenlaw20.KeysRise'. -/
def keysRiseUptoCard : Claim7 := { stood := { row := keysRiseUptoRow, standIns := [], harness := (true, "5f065de523a391371c73cf6ec7222e8991586d7b132736e9a19d77d3cfae520d"), looks := true }, kinds := [], alts := [], laidByText := true, laidKinds := [.data], laidTests := true, laidLooks := .later }
def KeysRiseUptoCardSaid : Prop := Claim7.holds Tryd.pinned (.plain (OpenSpec.upto keysRiseSpec)) keysRiseUptoCard

/-- THE SECOND FORM's CARD OF 'evergreenlaw20.KeysRules'. -/
def keysRulesUptoCard : Claim7 := { stood := { row := keysRulesUptoRow, standIns := [], harness := (true, "5f065de523a391371c73cf6ec7222e8991586d7b132736e9a19d77d3cfae520d"), looks := true }, kinds := [], alts := [], laidByText := true, laidKinds := [.data], laidTests := true, laidLooks := .later }
def KeysRulesUptoCardSaid : Prop := Claim7.holds Tryd.pinned (.plain (OpenSpec.upto keysRulesSpec)) keysRulesUptoCard

/-- THE SECOND FORM's CARD OF 'evergreenlaw20.KeysErrors'. -/
def keysErrorsUptoCard : Claim7 := { stood := { row := keysErrorsUptoRow, standIns := [], harness := (true, "5f065de523a391371c73cf6ec7222e8991586d7b132736e9a19d77d3cfae520d"), looks := true }, kinds := [], alts := [], laidByText := true, laidKinds := [.data], laidTests := true, laidLooks := .later }
def KeysErrorsUptoCardSaid : Prop := Claim7.holds Tryd.pinned (.plain (OpenSpec.upto keysErrorsSpec)) keysErrorsUptoCard
end Rows
end Go.Proofs.YticiljgbjdcmlaaDoor
