/-
  DERIVED. GIVEN WITH THE SEED: THE CARDS: each row of YtkkhpdkfploodaaDoorRows.lean that lists a variable, with what it lists TIED to the program's text (the seventh form; the later family's looks); each row that meets fmt, with fmt's text TOLD by the authors' own Lean function (tested against real Go, not proved from fmt's source: count such statements apart). THE CARD IS WHAT COUNTS. Prove the row's statement (the work); the ties are given (YtkkhpdkfploodaaDoorTie.lean); close each card by the builder's one call (the guide's Derived/Test/ToyasCard.lean, 'card_holds'). Laid BY PROGRAM, IN A SANDBOX (cutbox-door.mjs). By AI agents, Wed Nov 11 2026. No macro, syntax, notation, axiom, sorry.
-/
import Derived.Test.YtkkhpdkfploodaaDoorRows
import GoSem.ClaimSeven
namespace Go.Proofs.YtkkhpdkfploodaaDoor
namespace Rows

/-- THE TIED CARD OF 'evergreenlaw22.SignatureUnique'. -/
def signatureUniqueCard : Claim7 := { stood := { row := signatureUniqueRow, standIns := [], harness := (true, "c8889713623b33634d594bbf351ad80158177d89ffb8d469d38cf55e78a10ccd"), looks := true }, kinds := [], alts := [], laidByText := true, laidKinds := [.data], laidTests := true, laidLooks := .later }
def SignatureUniqueCardSaid : Prop := Claim7.holds Tryd.pinned (.plain (OpenSpec.ofChange signatureUniqueSpec)) signatureUniqueCard

/-- THE TIED CARD OF 'evergreenlaw22.SignatureTop'. -/
def signatureTopCard : Claim7 := { stood := { row := signatureTopRow, standIns := [], harness := (true, "c8889713623b33634d594bbf351ad80158177d89ffb8d469d38cf55e78a10ccd"), looks := true }, kinds := [], alts := [], laidByText := true, laidKinds := [.data], laidTests := true, laidLooks := .later }
def SignatureTopCardSaid : Prop := Claim7.holds Tryd.pinned (.plain (OpenSpec.ofChange signatureTopSpec)) signatureTopCard

/-- THE TIED CARD OF 'evergreenlaw22.SignatureShrinks'. -/
def signatureShrinksCard : Claim7 := { stood := { row := signatureShrinksRow, standIns := [], harness := (true, "c8889713623b33634d594bbf351ad80158177d89ffb8d469d38cf55e78a10ccd"), looks := true }, kinds := [], alts := [], laidByText := true, laidKinds := [.data], laidTests := true, laidLooks := .later }
def SignatureShrinksCardSaid : Prop := Claim7.holds Tryd.pinned (.plain (OpenSpec.ofChange signatureShrinksSpec)) signatureShrinksCard

/-- THE TIED CARD OF 'evergreenlaw22.SignaturePowers'. -/
def signaturePowersCard : Claim7 := { stood := { row := signaturePowersRow, standIns := [], harness := (true, "c8889713623b33634d594bbf351ad80158177d89ffb8d469d38cf55e78a10ccd"), looks := true }, kinds := [], alts := [], laidByText := true, laidKinds := [.data], laidTests := true, laidLooks := .later }
def SignaturePowersCardSaid : Prop := Claim7.holds Tryd.pinned (.plain (OpenSpec.ofChange signaturePowersSpec)) signaturePowersCard

/-- THE TIED CARD OF 'evergreenlaw22.SignatureErrors'. -/
def signatureErrorsCard : Claim7 := { stood := { row := signatureErrorsRow, standIns := [], harness := (true, "c8889713623b33634d594bbf351ad80158177d89ffb8d469d38cf55e78a10ccd"), looks := true }, kinds := [], alts := [], laidByText := true, laidKinds := [.data], laidTests := true, laidLooks := .later }
def SignatureErrorsCardSaid : Prop := Claim7.holds Tryd.pinned (.plain (OpenSpec.ofChange signatureErrorsSpec)) signatureErrorsCard

/-- THE TIED CARD OF 'evergreenlaw22.SignatureSteps'. -/
def signatureStepsCard : Claim7 := { stood := { row := signatureStepsRow, standIns := [], harness := (true, "c8889713623b33634d594bbf351ad80158177d89ffb8d469d38cf55e78a10ccd"), looks := true }, kinds := [], alts := [], laidByText := true, laidKinds := [.data], laidTests := true, laidLooks := .later }
def SignatureStepsCardSaid : Prop := Claim7.holds Tryd.pinned (.plain (OpenSpec.ofChange signatureStepsSpec)) signatureStepsCard

/-- THE TIED CARD OF 'evergreenlaw22.SignatureOf'. -/
def signatureOfCard : Claim7 := { stood := { row := signatureOfRow, standIns := [], harness := (true, "c8889713623b33634d594bbf351ad80158177d89ffb8d469d38cf55e78a10ccd"), looks := true }, kinds := [], alts := [], laidByText := true, laidKinds := [.data], laidTests := true, laidLooks := .later }
def SignatureOfCardSaid : Prop := Claim7.holds Tryd.pinned (.plain (OpenSpec.ofChange signatureOfSpec)) signatureOfCard

/-- THE TIED CARD OF 'evergreenlaw22.SignatureText'. -/
def signatureTextCard : Claim7 := { stood := { row := signatureTextRow, standIns := [], harness := (true, "c8889713623b33634d594bbf351ad80158177d89ffb8d469d38cf55e78a10ccd"), looks := true }, kinds := [], alts := [], laidByText := true, laidKinds := [.data], laidTests := true, laidLooks := .later }
def SignatureTextCardSaid : Prop := Claim7.holds Tryd.pinned (.plain (OpenSpec.ofChange signatureTextSpec)) signatureTextCard

/-- THE TIED CARD OF 'evergreenlaw22.SignatureParts'. -/
def signaturePartsCard : Claim7 := { stood := { row := signaturePartsRow, standIns := [], harness := (true, "c8889713623b33634d594bbf351ad80158177d89ffb8d469d38cf55e78a10ccd"), looks := true }, kinds := [], alts := [], laidByText := true, laidKinds := [.data], laidTests := true, laidLooks := .later }
def SignaturePartsCardSaid : Prop := Claim7.holds Tryd.pinned (.plain (OpenSpec.ofChange signaturePartsSpec)) signaturePartsCard

/-- THE TIED CARD OF 'evergreenlaw22.SignatureStores'. -/
def signatureStoresCard : Claim7 := { stood := { row := signatureStoresRow, standIns := [], harness := (true, "c8889713623b33634d594bbf351ad80158177d89ffb8d469d38cf55e78a10ccd"), looks := true }, kinds := [], alts := [], laidByText := true, laidKinds := [.data], laidTests := true, laidLooks := .later }
def SignatureStoresCardSaid : Prop := Claim7.holds Tryd.pinned (.plain (OpenSpec.ofChange signatureStoresSpec)) signatureStoresCard

/-- THE TIED CARD OF 'evergreenlaw22.SignatureFull'. -/
def signatureFullCard : Claim7 := { stood := { row := signatureFullRow, standIns := [], harness := (true, "c8889713623b33634d594bbf351ad80158177d89ffb8d469d38cf55e78a10ccd"), looks := true }, kinds := [], alts := [], laidByText := true, laidKinds := [.data], laidTests := true, laidLooks := .later }
def SignatureFullCardSaid : Prop := Claim7.holds Tryd.pinned (.plain (OpenSpec.ofChange signatureFullSpec)) signatureFullCard

/-- THE SECOND FORM's CARD OF 'evergreenlaw22.SignatureUnique'. -/
def signatureUniqueUptoCard : Claim7 := { stood := { row := signatureUniqueUptoRow, standIns := [], harness := (true, "c8889713623b33634d594bbf351ad80158177d89ffb8d469d38cf55e78a10ccd"), looks := true }, kinds := [], alts := [], laidByText := true, laidKinds := [.data], laidTests := true, laidLooks := .later }
def SignatureUniqueUptoCardSaid : Prop := Claim7.holds Tryd.pinned (.plain (OpenSpec.upto signatureUniqueSpec)) signatureUniqueUptoCard

/-- THE SECOND FORM's CARD OF 'evergreenlaw22.SignatureTop'. -/
def signatureTopUptoCard : Claim7 := { stood := { row := signatureTopUptoRow, standIns := [], harness := (true, "c8889713623b33634d594bbf351ad80158177d89ffb8d469d38cf55e78a10ccd"), looks := true }, kinds := [], alts := [], laidByText := true, laidKinds := [.data], laidTests := true, laidLooks := .later }
def SignatureTopUptoCardSaid : Prop := Claim7.holds Tryd.pinned (.plain (OpenSpec.upto signatureTopSpec)) signatureTopUptoCard

/-- THE SECOND FORM's CARD OF 'evergreenlaw22.SignatureShrinks'. -/
def signatureShrinksUptoCard : Claim7 := { stood := { row := signatureShrinksUptoRow, standIns := [], harness := (true, "c8889713623b33634d594bbf351ad80158177d89ffb8d469d38cf55e78a10ccd"), looks := true }, kinds := [], alts := [], laidByText := true, laidKinds := [.data], laidTests := true, laidLooks := .later }
def SignatureShrinksUptoCardSaid : Prop := Claim7.holds Tryd.pinned (.plain (OpenSpec.upto signatureShrinksSpec)) signatureShrinksUptoCard

/-- THE SECOND FORM's CARD OF 'evergreenlaw22.SignaturePowers'. -/
def signaturePowersUptoCard : Claim7 := { stood := { row := signaturePowersUptoRow, standIns := [], harness := (true, "c8889713623b33634d594bbf351ad80158177d89ffb8d469d38cf55e78a10ccd"), looks := true }, kinds := [], alts := [], laidByText := true, laidKinds := [.data], laidTests := true, laidLooks := .later }
def SignaturePowersUptoCardSaid : Prop := Claim7.holds Tryd.pinned (.plain (OpenSpec.upto signaturePowersSpec)) signaturePowersUptoCard

/-- THE SECOND FORM's CARD OF 'evergreenlaw22.SignatureErrors'. -/
def signatureErrorsUptoCard : Claim7 := { stood := { row := signatureErrorsUptoRow, standIns := [], harness := (true, "c8889713623b33634d594bbf351ad80158177d89ffb8d469d38cf55e78a10ccd"), looks := true }, kinds := [], alts := [], laidByText := true, laidKinds := [.data], laidTests := true, laidLooks := .later }
def SignatureErrorsUptoCardSaid : Prop := Claim7.holds Tryd.pinned (.plain (OpenSpec.upto signatureErrorsSpec)) signatureErrorsUptoCard

/-- THE SECOND FORM's CARD OF 'evergreenlaw22.SignatureSteps'. -/
def signatureStepsUptoCard : Claim7 := { stood := { row := signatureStepsUptoRow, standIns := [], harness := (true, "c8889713623b33634d594bbf351ad80158177d89ffb8d469d38cf55e78a10ccd"), looks := true }, kinds := [], alts := [], laidByText := true, laidKinds := [.data], laidTests := true, laidLooks := .later }
def SignatureStepsUptoCardSaid : Prop := Claim7.holds Tryd.pinned (.plain (OpenSpec.upto signatureStepsSpec)) signatureStepsUptoCard

/-- THE SECOND FORM's CARD OF 'evergreenlaw22.SignatureOf'. -/
def signatureOfUptoCard : Claim7 := { stood := { row := signatureOfUptoRow, standIns := [], harness := (true, "c8889713623b33634d594bbf351ad80158177d89ffb8d469d38cf55e78a10ccd"), looks := true }, kinds := [], alts := [], laidByText := true, laidKinds := [.data], laidTests := true, laidLooks := .later }
def SignatureOfUptoCardSaid : Prop := Claim7.holds Tryd.pinned (.plain (OpenSpec.upto signatureOfSpec)) signatureOfUptoCard

/-- THE SECOND FORM's CARD OF 'evergreenlaw22.SignatureText'. -/
def signatureTextUptoCard : Claim7 := { stood := { row := signatureTextUptoRow, standIns := [], harness := (true, "c8889713623b33634d594bbf351ad80158177d89ffb8d469d38cf55e78a10ccd"), looks := true }, kinds := [], alts := [], laidByText := true, laidKinds := [.data], laidTests := true, laidLooks := .later }
def SignatureTextUptoCardSaid : Prop := Claim7.holds Tryd.pinned (.plain (OpenSpec.upto signatureTextSpec)) signatureTextUptoCard

/-- THE SECOND FORM's CARD OF 'evergreenlaw22.SignatureParts'. -/
def signaturePartsUptoCard : Claim7 := { stood := { row := signaturePartsUptoRow, standIns := [], harness := (true, "c8889713623b33634d594bbf351ad80158177d89ffb8d469d38cf55e78a10ccd"), looks := true }, kinds := [], alts := [], laidByText := true, laidKinds := [.data], laidTests := true, laidLooks := .later }
def SignaturePartsUptoCardSaid : Prop := Claim7.holds Tryd.pinned (.plain (OpenSpec.upto signaturePartsSpec)) signaturePartsUptoCard

/-- THE SECOND FORM's CARD OF 'evergreenlaw22.SignatureStores'. -/
def signatureStoresUptoCard : Claim7 := { stood := { row := signatureStoresUptoRow, standIns := [], harness := (true, "c8889713623b33634d594bbf351ad80158177d89ffb8d469d38cf55e78a10ccd"), looks := true }, kinds := [], alts := [], laidByText := true, laidKinds := [.data], laidTests := true, laidLooks := .later }
def SignatureStoresUptoCardSaid : Prop := Claim7.holds Tryd.pinned (.plain (OpenSpec.upto signatureStoresSpec)) signatureStoresUptoCard

/-- THE SECOND FORM's CARD OF 'evergreenlaw22.SignatureFull'. -/
def signatureFullUptoCard : Claim7 := { stood := { row := signatureFullUptoRow, standIns := [], harness := (true, "c8889713623b33634d594bbf351ad80158177d89ffb8d469d38cf55e78a10ccd"), looks := true }, kinds := [], alts := [], laidByText := true, laidKinds := [.data], laidTests := true, laidLooks := .later }
def SignatureFullUptoCardSaid : Prop := Claim7.holds Tryd.pinned (.plain (OpenSpec.upto signatureFullSpec)) signatureFullUptoCard
end Rows
end Go.Proofs.YtkkhpdkfploodaaDoor
