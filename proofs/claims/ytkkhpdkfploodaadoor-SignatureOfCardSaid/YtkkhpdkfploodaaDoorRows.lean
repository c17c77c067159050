/-
  NARROWER THAN 'FOR EVERY INPUT', by the rows' own cells (each row's printed sentence says how): SignatureUnique: laid · SignatureTop: laid · SignatureShrinks: laid · SignaturePowers: laid · SignatureErrors: laid · SignatureSteps: laid · SignatureOf: laid · SignatureText: laid · SignatureParts: laid · SignatureStores: laid · SignatureFull: laid.
  DERIVED. THE GIVEN ROWS OF THIS SEAT. 11 by the template 'for every input the law returns true; each argument reads behind the call as it read before'; 0 by the template 'total and deterministic' (their statements: YtkkhpdkfploodaaDoorTotals.lean).
  GIVEN WITH THE SEED: the statements are not yours to turn. If you find one false, say at which input.
  Laid BY PROGRAM, IN A SANDBOX (cutbox-rows.mjs): the forced cells as the released guide's own fill.sh prints them over the translation f1f86c7188ef4213… (all of the seat's roots in one cut). By AI agents, Wed Nov 11 2026. No macro, syntax, notation, axiom, sorry.
-/
import Derived.Test.YtkkhpdkfploodaaDoorChecked
import GoSem.Claim
import GoSem.ClaimJoined
import GoSem.ClaimMapViews
import Derived.JoinedTies
import Derived.KernelRfl
namespace Go.Proofs.YtkkhpdkfploodaaDoor
/- THE CELL 'sum', in the pinned program and in every row, IS THE sha256 OF THE DUMP (.gsa) THAT YtkkhpdkfploodaaDoorProg.lean LOADS. Nothing in Lean hashes anything: it is a label: what it is worth is what the hold of that sum in a sandbox is worth. -/
noncomputable def Tryd.pinned : Pinned := { name := "ytkkhpdkfploodaadoor", sum := "f1f86c7188ef42134cd66d5ec4615826ea58c55921156a3493e8b5bf34fd20a4", checked := Tryd.checked }
namespace Rows
def none {H : Type} : Left H := { results := [], args := [] }

/- WHAT THE LISTED PACKAGE-LEVEL VARIABLES READ AS WHEN THE CALL BEGINS. Each datum BY PROGRAM (the guide's laid-datum.mjs) off the statement by which the dump's own 'gosem.cut.vars' lays the variable. In a bare row this is a premise. The card (YtkkhpdkfploodaaDoorCards.lean) ties it to the program's text. -/
def laid_math_bits_deBruijn64tab {H : Type} : DataW H := .agg [.lit (.int .u8 0), .lit (.int .u8 1), .lit (.int .u8 56), .lit (.int .u8 2), .lit (.int .u8 57), .lit (.int .u8 49), .lit (.int .u8 28), .lit (.int .u8 3), .lit (.int .u8 61), .lit (.int .u8 58), .lit (.int .u8 42), .lit (.int .u8 50), .lit (.int .u8 38), .lit (.int .u8 29), .lit (.int .u8 17), .lit (.int .u8 4), .lit (.int .u8 62), .lit (.int .u8 47), .lit (.int .u8 59), .lit (.int .u8 36), .lit (.int .u8 45), .lit (.int .u8 43), .lit (.int .u8 51), .lit (.int .u8 22), .lit (.int .u8 53), .lit (.int .u8 39), .lit (.int .u8 33), .lit (.int .u8 30), .lit (.int .u8 24), .lit (.int .u8 18), .lit (.int .u8 12), .lit (.int .u8 5), .lit (.int .u8 63), .lit (.int .u8 55), .lit (.int .u8 48), .lit (.int .u8 27), .lit (.int .u8 60), .lit (.int .u8 41), .lit (.int .u8 37), .lit (.int .u8 16), .lit (.int .u8 46), .lit (.int .u8 35), .lit (.int .u8 44), .lit (.int .u8 21), .lit (.int .u8 52), .lit (.int .u8 32), .lit (.int .u8 23), .lit (.int .u8 11), .lit (.int .u8 54), .lit (.int .u8 26), .lit (.int .u8 40), .lit (.int .u8 15), .lit (.int .u8 34), .lit (.int .u8 20), .lit (.int .u8 31), .lit (.int .u8 10), .lit (.int .u8 25), .lit (.int .u8 14), .lit (.int .u8 19), .lit (.int .u8 9), .lit (.int .u8 13), .lit (.int .u8 8), .lit (.int .u8 7), .lit (.int .u8 6)]

/-- 'evergreenlaw22.SignatureUnique': WHATEVER THE INPUT: true; the input reads as it did. -/
def signatureUniqueSpec : ChangeSpec := { name := "signatureUnique", fn := fun _ => fun
  | [d1, d2] => { results := [.lit (.bool true)], args := [d1, d2] }
  | _ => none }
def signatureUniqueRow : OpenClaim := { program := "ytkkhpdkfploodaadoor", sum := "f1f86c7188ef42134cd66d5ec4615826ea58c55921156a3493e8b5bf34fd20a4", func := "evergreen/evergreenlaw22.SignatureUnique", spec := "signatureUnique", named := ["math/bits.deBruijn64tab"], plainKeys := false, apart := false, laid := [("math/bits.deBruijn64tab", laid_math_bits_deBruijn64tab)] }
def SignatureUniqueSaid : Prop := signatureUniqueRow.holds Tryd.pinned (OpenSpec.ofChange signatureUniqueSpec)

/-- ITS FALSE NEIGHBOUR: 'it returns false'. Refute it at one input. -/
def signatureUniqueWrong : ChangeSpec := { name := "signatureUnique", fn := fun _ => fun
  | [d1, d2] => { results := [.lit (.bool false)], args := [d1, d2] }
  | _ => none }
def SignatureUniqueWrongFalsely : Prop := signatureUniqueRow.holds Tryd.pinned (OpenSpec.ofChange signatureUniqueWrong)

/-- 'evergreenlaw22.SignatureTop': WHATEVER THE INPUT: true; the input reads as it did. -/
def signatureTopSpec : ChangeSpec := { name := "signatureTop", fn := fun _ => fun
  | [d1, d2] => { results := [.lit (.bool true)], args := [d1, d2] }
  | _ => none }
def signatureTopRow : OpenClaim := { program := "ytkkhpdkfploodaadoor", sum := "f1f86c7188ef42134cd66d5ec4615826ea58c55921156a3493e8b5bf34fd20a4", func := "evergreen/evergreenlaw22.SignatureTop", spec := "signatureTop", named := ["math/bits.deBruijn64tab"], plainKeys := false, apart := false, laid := [("math/bits.deBruijn64tab", laid_math_bits_deBruijn64tab)] }
def SignatureTopSaid : Prop := signatureTopRow.holds Tryd.pinned (OpenSpec.ofChange signatureTopSpec)

/-- ITS FALSE NEIGHBOUR: 'it returns false'. Refute it at one input. -/
def signatureTopWrong : ChangeSpec := { name := "signatureTop", fn := fun _ => fun
  | [d1, d2] => { results := [.lit (.bool false)], args := [d1, d2] }
  | _ => none }
def SignatureTopWrongFalsely : Prop := signatureTopRow.holds Tryd.pinned (OpenSpec.ofChange signatureTopWrong)

/-- 'evergreenlaw22.SignatureShrinks': WHATEVER THE INPUT: true; the input reads as it did. -/
def signatureShrinksSpec : ChangeSpec := { name := "signatureShrinks", fn := fun _ => fun
  | [d1, d2] => { results := [.lit (.bool true)], args := [d1, d2] }
  | _ => none }
def signatureShrinksRow : OpenClaim := { program := "ytkkhpdkfploodaadoor", sum := "f1f86c7188ef42134cd66d5ec4615826ea58c55921156a3493e8b5bf34fd20a4", func := "evergreen/evergreenlaw22.SignatureShrinks", spec := "signatureShrinks", named := ["math/bits.deBruijn64tab"], plainKeys := false, apart := false, laid := [("math/bits.deBruijn64tab", laid_math_bits_deBruijn64tab)] }
def SignatureShrinksSaid : Prop := signatureShrinksRow.holds Tryd.pinned (OpenSpec.ofChange signatureShrinksSpec)

/-- ITS FALSE NEIGHBOUR: 'it returns false'. Refute it at one input. -/
def signatureShrinksWrong : ChangeSpec := { name := "signatureShrinks", fn := fun _ => fun
  | [d1, d2] => { results := [.lit (.bool false)], args := [d1, d2] }
  | _ => none }
def SignatureShrinksWrongFalsely : Prop := signatureShrinksRow.holds Tryd.pinned (OpenSpec.ofChange signatureShrinksWrong)

/-- 'evergreenlaw22.SignaturePowers': WHATEVER THE INPUT: true; the input reads as it did. -/
def signaturePowersSpec : ChangeSpec := { name := "signaturePowers", fn := fun _ => fun
  | [d1, d2, d3] => { results := [.lit (.bool true)], args := [d1, d2, d3] }
  | _ => none }
def signaturePowersRow : OpenClaim := { program := "ytkkhpdkfploodaadoor", sum := "f1f86c7188ef42134cd66d5ec4615826ea58c55921156a3493e8b5bf34fd20a4", func := "evergreen/evergreenlaw22.SignaturePowers", spec := "signaturePowers", named := ["math/bits.deBruijn64tab"], plainKeys := false, apart := false, laid := [("math/bits.deBruijn64tab", laid_math_bits_deBruijn64tab)] }
def SignaturePowersSaid : Prop := signaturePowersRow.holds Tryd.pinned (OpenSpec.ofChange signaturePowersSpec)

/-- ITS FALSE NEIGHBOUR: 'it returns false'. Refute it at one input. -/
def signaturePowersWrong : ChangeSpec := { name := "signaturePowers", fn := fun _ => fun
  | [d1, d2, d3] => { results := [.lit (.bool false)], args := [d1, d2, d3] }
  | _ => none }
def SignaturePowersWrongFalsely : Prop := signaturePowersRow.holds Tryd.pinned (OpenSpec.ofChange signaturePowersWrong)

/-- 'evergreenlaw22.SignatureErrors': WHATEVER THE INPUT: true; the input reads as it did. -/
def signatureErrorsSpec : ChangeSpec := { name := "signatureErrors", fn := fun _ => fun
  | [d1, d2] => { results := [.lit (.bool true)], args := [d1, d2] }
  | _ => none }
def signatureErrorsRow : OpenClaim := { program := "ytkkhpdkfploodaadoor", sum := "f1f86c7188ef42134cd66d5ec4615826ea58c55921156a3493e8b5bf34fd20a4", func := "evergreen/evergreenlaw22.SignatureErrors", spec := "signatureErrors", named := ["math/bits.deBruijn64tab"], plainKeys := false, apart := false, laid := [("math/bits.deBruijn64tab", laid_math_bits_deBruijn64tab)] }
def SignatureErrorsSaid : Prop := signatureErrorsRow.holds Tryd.pinned (OpenSpec.ofChange signatureErrorsSpec)

/-- ITS FALSE NEIGHBOUR: 'it returns false'. Refute it at one input. -/
def signatureErrorsWrong : ChangeSpec := { name := "signatureErrors", fn := fun _ => fun
  | [d1, d2] => { results := [.lit (.bool false)], args := [d1, d2] }
  | _ => none }
def SignatureErrorsWrongFalsely : Prop := signatureErrorsRow.holds Tryd.pinned (OpenSpec.ofChange signatureErrorsWrong)

/-- 'evergreenlaw22.SignatureSteps': WHATEVER THE INPUT: true; the input reads as it did. -/
def signatureStepsSpec : ChangeSpec := { name := "signatureSteps", fn := fun _ => fun
  | [d1, d2] => { results := [.lit (.bool true)], args := [d1, d2] }
  | _ => none }
def signatureStepsRow : OpenClaim := { program := "ytkkhpdkfploodaadoor", sum := "f1f86c7188ef42134cd66d5ec4615826ea58c55921156a3493e8b5bf34fd20a4", func := "evergreen/evergreenlaw22.SignatureSteps", spec := "signatureSteps", named := ["math/bits.deBruijn64tab"], plainKeys := false, apart := false, laid := [("math/bits.deBruijn64tab", laid_math_bits_deBruijn64tab)] }
def SignatureStepsSaid : Prop := signatureStepsRow.holds Tryd.pinned (OpenSpec.ofChange signatureStepsSpec)

/-- ITS FALSE NEIGHBOUR: 'it returns false'. Refute it at one input. -/
def signatureStepsWrong : ChangeSpec := { name := "signatureSteps", fn := fun _ => fun
  | [d1, d2] => { results := [.lit (.bool false)], args := [d1, d2] }
  | _ => none }
def SignatureStepsWrongFalsely : Prop := signatureStepsRow.holds Tryd.pinned (OpenSpec.ofChange signatureStepsWrong)

/-- 'evergreenlaw22.SignatureOf': WHATEVER THE INPUT: true; the input reads as it did. -/
def signatureOfSpec : ChangeSpec := { name := "signatureOf", fn := fun _ => fun
  | [d] => { results := [.lit (.bool true)], args := [d] }
  | _ => none }
def signatureOfRow : OpenClaim := { program := "ytkkhpdkfploodaadoor", sum := "f1f86c7188ef42134cd66d5ec4615826ea58c55921156a3493e8b5bf34fd20a4", func := "evergreen/evergreenlaw22.SignatureOf", spec := "signatureOf", recurses := true, named := ["math/bits.deBruijn64tab"], plainKeys := false, apart := false, laid := [("math/bits.deBruijn64tab", laid_math_bits_deBruijn64tab)] }
def SignatureOfSaid : Prop := signatureOfRow.holds Tryd.pinned (OpenSpec.ofChange signatureOfSpec)

/-- ITS FALSE NEIGHBOUR: 'it returns false'. Refute it at one input. -/
def signatureOfWrong : ChangeSpec := { name := "signatureOf", fn := fun _ => fun
  | [d] => { results := [.lit (.bool false)], args := [d] }
  | _ => none }
def SignatureOfWrongFalsely : Prop := signatureOfRow.holds Tryd.pinned (OpenSpec.ofChange signatureOfWrong)

/-- 'evergreenlaw22.SignatureText': WHATEVER THE INPUT: true; the input reads as it did. -/
def signatureTextSpec : ChangeSpec := { name := "signatureText", fn := fun _ => fun
  | [d] => { results := [.lit (.bool true)], args := [d] }
  | _ => none }
def signatureTextRow : OpenClaim := { program := "ytkkhpdkfploodaadoor", sum := "f1f86c7188ef42134cd66d5ec4615826ea58c55921156a3493e8b5bf34fd20a4", func := "evergreen/evergreenlaw22.SignatureText", spec := "signatureText", recurses := true, named := ["math/bits.deBruijn64tab"], plainKeys := false, apart := false, laid := [("math/bits.deBruijn64tab", laid_math_bits_deBruijn64tab)] }
def SignatureTextSaid : Prop := signatureTextRow.holds Tryd.pinned (OpenSpec.ofChange signatureTextSpec)

/-- ITS FALSE NEIGHBOUR: 'it returns false'. Refute it at one input. -/
def signatureTextWrong : ChangeSpec := { name := "signatureText", fn := fun _ => fun
  | [d] => { results := [.lit (.bool false)], args := [d] }
  | _ => none }
def SignatureTextWrongFalsely : Prop := signatureTextRow.holds Tryd.pinned (OpenSpec.ofChange signatureTextWrong)

/-- 'evergreenlaw22.SignatureParts': WHATEVER THE INPUT: true; the input reads as it did. -/
def signaturePartsSpec : ChangeSpec := { name := "signatureParts", fn := fun _ => fun
  | [d] => { results := [.lit (.bool true)], args := [d] }
  | _ => none }
def signaturePartsRow : OpenClaim := { program := "ytkkhpdkfploodaadoor", sum := "f1f86c7188ef42134cd66d5ec4615826ea58c55921156a3493e8b5bf34fd20a4", func := "evergreen/evergreenlaw22.SignatureParts", spec := "signatureParts", recurses := true, named := ["math/bits.deBruijn64tab"], plainKeys := false, apart := false, laid := [("math/bits.deBruijn64tab", laid_math_bits_deBruijn64tab)] }
def SignaturePartsSaid : Prop := signaturePartsRow.holds Tryd.pinned (OpenSpec.ofChange signaturePartsSpec)

/-- ITS FALSE NEIGHBOUR: 'it returns false'. Refute it at one input. -/
def signaturePartsWrong : ChangeSpec := { name := "signatureParts", fn := fun _ => fun
  | [d] => { results := [.lit (.bool false)], args := [d] }
  | _ => none }
def SignaturePartsWrongFalsely : Prop := signaturePartsRow.holds Tryd.pinned (OpenSpec.ofChange signaturePartsWrong)

/-- 'evergreenlaw22.SignatureStores': WHATEVER THE INPUT: true; the input reads as it did. -/
def signatureStoresSpec : ChangeSpec := { name := "signatureStores", fn := fun _ => fun
  | [d1, d2] => { results := [.lit (.bool true)], args := [d1, d2] }
  | _ => none }
def signatureStoresRow : OpenClaim := { program := "ytkkhpdkfploodaadoor", sum := "f1f86c7188ef42134cd66d5ec4615826ea58c55921156a3493e8b5bf34fd20a4", func := "evergreen/evergreenlaw22.SignatureStores", spec := "signatureStores", recurses := true, named := ["math/bits.deBruijn64tab"], plainKeys := false, apart := false, laid := [("math/bits.deBruijn64tab", laid_math_bits_deBruijn64tab)] }
def SignatureStoresSaid : Prop := signatureStoresRow.holds Tryd.pinned (OpenSpec.ofChange signatureStoresSpec)

/-- ITS FALSE NEIGHBOUR: 'it returns false'. Refute it at one input. -/
def signatureStoresWrong : ChangeSpec := { name := "signatureStores", fn := fun _ => fun
  | [d1, d2] => { results := [.lit (.bool false)], args := [d1, d2] }
  | _ => none }
def SignatureStoresWrongFalsely : Prop := signatureStoresRow.holds Tryd.pinned (OpenSpec.ofChange signatureStoresWrong)

/-- 'evergreenlaw22.SignatureFull': WHATEVER THE INPUT: true; the input reads as it did. -/
def signatureFullSpec : ChangeSpec := { name := "signatureFull", fn := fun _ => fun
  | [d1, d2] => { results := [.lit (.bool true)], args := [d1, d2] }
  | _ => none }
def signatureFullRow : OpenClaim := { program := "ytkkhpdkfploodaadoor", sum := "f1f86c7188ef42134cd66d5ec4615826ea58c55921156a3493e8b5bf34fd20a4", func := "evergreen/evergreenlaw22.SignatureFull", spec := "signatureFull", recurses := true, named := ["math/bits.deBruijn64tab"], plainKeys := false, apart := false, laid := [("math/bits.deBruijn64tab", laid_math_bits_deBruijn64tab)] }
def SignatureFullSaid : Prop := signatureFullRow.holds Tryd.pinned (OpenSpec.ofChange signatureFullSpec)

/-- ITS FALSE NEIGHBOUR: 'it returns false'. Refute it at one input. -/
def signatureFullWrong : ChangeSpec := { name := "signatureFull", fn := fun _ => fun
  | [d1, d2] => { results := [.lit (.bool false)], args := [d1, d2] }
  | _ => none }
def SignatureFullWrongFalsely : Prop := signatureFullRow.holds Tryd.pinned (OpenSpec.ofChange signatureFullWrong)

/- THE SECOND FORM. 'bulk': how many values and letters a reading holds, each counted each time it is reached (what is shared counts as often as it is met; a slice's spare places count too). A statement '..UptoSaid' is the law's where the arguments, and the package variables that the reading takes, are together of bulk at most 1048576: NARROWER than '..Said'. Prove '..Said' where nothing that the law and all that it calls make is longer than what came in: it says more and counts as full. Else prove '..UptoSaid'. A law counts once. -/
mutual
def uptoBulk {H : Type} : DataW H → Nat
  | .lit (.string bytes) => bytes.length + 1
  | .lit _ => 1
  | .nil => 1
  | .ptr d => uptoBulk d + 1
  | .slice elems spare => uptoBulkAll elems + uptoBulkAll spare + 1
  | .agg parts => uptoBulkAll parts + 1
  | .iface _ d => uptoBulk d + 1
  | .map entries => uptoBulkEntries entries + 1
  | .held _ => 1
def uptoBulkAll {H : Type} : List (DataW H) → Nat
  | [] => 0
  | d :: r => uptoBulk d + uptoBulkAll r
def uptoBulkEntries {H : Type} : List (Lit × DataW H) → Nat
  | [] => 0
  | x :: r => uptoBulkEntry x + uptoBulkEntries r
def uptoBulkEntry {H : Type} : Lit × DataW H → Nat
  | (.string bytes, d) => bytes.length + uptoBulk d + 1
  | (_, d) => uptoBulk d + 1
 end
def uptoSmall : (H : Type) → List (DataW H) → Bool := fun _ ds => decide (uptoBulkAll ds ≤ 1048576)
def OpenSpec.upto (s : _root_.Go.ChangeSpec) : _root_.Go.OpenSpec := { _root_.Go.OpenSpec.ofChange s with cond := some uptoSmall }

/-- 'evergreenlaw22.SignatureUnique', WHERE WHAT IT READS IS OF BULK AT MOST 1048576: true; the input reads as it did. -/
def signatureUniqueUptoRow : OpenClaim := { program := "ytkkhpdkfploodaadoor", sum := "f1f86c7188ef42134cd66d5ec4615826ea58c55921156a3493e8b5bf34fd20a4", func := "evergreen/evergreenlaw22.SignatureUnique", spec := "signatureUnique", named := ["math/bits.deBruijn64tab"], plainKeys := false, apart := false, laid := [("math/bits.deBruijn64tab", laid_math_bits_deBruijn64tab)], narrowed := true }
def SignatureUniqueUptoSaid : Prop := signatureUniqueUptoRow.holds Tryd.pinned (OpenSpec.upto signatureUniqueSpec)

/-- 'evergreenlaw22.SignatureTop', WHERE WHAT IT READS IS OF BULK AT MOST 1048576: true; the input reads as it did. -/
def signatureTopUptoRow : OpenClaim := { program := "ytkkhpdkfploodaadoor", sum := "f1f86c7188ef42134cd66d5ec4615826ea58c55921156a3493e8b5bf34fd20a4", func := "evergreen/evergreenlaw22.SignatureTop", spec := "signatureTop", named := ["math/bits.deBruijn64tab"], plainKeys := false, apart := false, laid := [("math/bits.deBruijn64tab", laid_math_bits_deBruijn64tab)], narrowed := true }
def SignatureTopUptoSaid : Prop := signatureTopUptoRow.holds Tryd.pinned (OpenSpec.upto signatureTopSpec)

/-- 'evergreenlaw22.SignatureShrinks', WHERE WHAT IT READS IS OF BULK AT MOST 1048576: true; the input reads as it did. -/
def signatureShrinksUptoRow : OpenClaim := { program := "ytkkhpdkfploodaadoor", sum := "f1f86c7188ef42134cd66d5ec4615826ea58c55921156a3493e8b5bf34fd20a4", func := "evergreen/evergreenlaw22.SignatureShrinks", spec := "signatureShrinks", named := ["math/bits.deBruijn64tab"], plainKeys := false, apart := false, laid := [("math/bits.deBruijn64tab", laid_math_bits_deBruijn64tab)], narrowed := true }
def SignatureShrinksUptoSaid : Prop := signatureShrinksUptoRow.holds Tryd.pinned (OpenSpec.upto signatureShrinksSpec)

/-- 'evergreenlaw22.SignaturePowers', WHERE WHAT IT READS IS OF BULK AT MOST 1048576: true; the input reads as it did. -/
def signaturePowersUptoRow : OpenClaim := { program := "ytkkhpdkfploodaadoor", sum := "f1f86c7188ef42134cd66d5ec4615826ea58c55921156a3493e8b5bf34fd20a4", func := "evergreen/evergreenlaw22.SignaturePowers", spec := "signaturePowers", named := ["math/bits.deBruijn64tab"], plainKeys := false, apart := false, laid := [("math/bits.deBruijn64tab", laid_math_bits_deBruijn64tab)], narrowed := true }
def SignaturePowersUptoSaid : Prop := signaturePowersUptoRow.holds Tryd.pinned (OpenSpec.upto signaturePowersSpec)

/-- 'evergreenlaw22.SignatureErrors', WHERE WHAT IT READS IS OF BULK AT MOST 1048576: true; the input reads as it did. -/
def signatureErrorsUptoRow : OpenClaim := { program := "ytkkhpdkfploodaadoor", sum := "f1f86c7188ef42134cd66d5ec4615826ea58c55921156a3493e8b5bf34fd20a4", func := "evergreen/evergreenlaw22.SignatureErrors", spec := "signatureErrors", named := ["math/bits.deBruijn64tab"], plainKeys := false, apart := false, laid := [("math/bits.deBruijn64tab", laid_math_bits_deBruijn64tab)], narrowed := true }
def SignatureErrorsUptoSaid : Prop := signatureErrorsUptoRow.holds Tryd.pinned (OpenSpec.upto signatureErrorsSpec)

/-- 'evergreenlaw22.SignatureSteps', WHERE WHAT IT READS IS OF BULK AT MOST 1048576: true; the input reads as it did. -/
def signatureStepsUptoRow : OpenClaim := { program := "ytkkhpdkfploodaadoor", sum := "f1f86c7188ef42134cd66d5ec4615826ea58c55921156a3493e8b5bf34fd20a4", func := "evergreen/evergreenlaw22.SignatureSteps", spec := "signatureSteps", named := ["math/bits.deBruijn64tab"], plainKeys := false, apart := false, laid := [("math/bits.deBruijn64tab", laid_math_bits_deBruijn64tab)], narrowed := true }
def SignatureStepsUptoSaid : Prop := signatureStepsUptoRow.holds Tryd.pinned (OpenSpec.upto signatureStepsSpec)

/-- 'evergreenlaw22.SignatureOf', WHERE WHAT IT READS IS OF BULK AT MOST 1048576: true; the input reads as it did. -/
def signatureOfUptoRow : OpenClaim := { program := "ytkkhpdkfploodaadoor", sum := "f1f86c7188ef42134cd66d5ec4615826ea58c55921156a3493e8b5bf34fd20a4", func := "evergreen/evergreenlaw22.SignatureOf", spec := "signatureOf", recurses := true, named := ["math/bits.deBruijn64tab"], plainKeys := false, apart := false, laid := [("math/bits.deBruijn64tab", laid_math_bits_deBruijn64tab)], narrowed := true }
def SignatureOfUptoSaid : Prop := signatureOfUptoRow.holds Tryd.pinned (OpenSpec.upto signatureOfSpec)

/-- 'evergreenlaw22.SignatureText', WHERE WHAT IT READS IS OF BULK AT MOST 1048576: true; the input reads as it did. -/
def signatureTextUptoRow : OpenClaim := { program := "ytkkhpdkfploodaadoor", sum := "f1f86c7188ef42134cd66d5ec4615826ea58c55921156a3493e8b5bf34fd20a4", func := "evergreen/evergreenlaw22.SignatureText", spec := "signatureText", recurses := true, named := ["math/bits.deBruijn64tab"], plainKeys := false, apart := false, laid := [("math/bits.deBruijn64tab", laid_math_bits_deBruijn64tab)], narrowed := true }
def SignatureTextUptoSaid : Prop := signatureTextUptoRow.holds Tryd.pinned (OpenSpec.upto signatureTextSpec)

/-- 'evergreenlaw22.SignatureParts', WHERE WHAT IT READS IS OF BULK AT MOST 1048576: true; the input reads as it did. -/
def signaturePartsUptoRow : OpenClaim := { program := "ytkkhpdkfploodaadoor", sum := "f1f86c7188ef42134cd66d5ec4615826ea58c55921156a3493e8b5bf34fd20a4", func := "evergreen/evergreenlaw22.SignatureParts", spec := "signatureParts", recurses := true, named := ["math/bits.deBruijn64tab"], plainKeys := false, apart := false, laid := [("math/bits.deBruijn64tab", laid_math_bits_deBruijn64tab)], narrowed := true }
def SignaturePartsUptoSaid : Prop := signaturePartsUptoRow.holds Tryd.pinned (OpenSpec.upto signaturePartsSpec)

/-- 'evergreenlaw22.SignatureStores', WHERE WHAT IT READS IS OF BULK AT MOST 1048576: true; the input reads as it did. -/
def signatureStoresUptoRow : OpenClaim := { program := "ytkkhpdkfploodaadoor", sum := "f1f86c7188ef42134cd66d5ec4615826ea58c55921156a3493e8b5bf34fd20a4", func := "evergreen/evergreenlaw22.SignatureStores", spec := "signatureStores", recurses := true, named := ["math/bits.deBruijn64tab"], plainKeys := false, apart := false, laid := [("math/bits.deBruijn64tab", laid_math_bits_deBruijn64tab)], narrowed := true }
def SignatureStoresUptoSaid : Prop := signatureStoresUptoRow.holds Tryd.pinned (OpenSpec.upto signatureStoresSpec)

/-- 'evergreenlaw22.SignatureFull', WHERE WHAT IT READS IS OF BULK AT MOST 1048576: true; the input reads as it did. -/
def signatureFullUptoRow : OpenClaim := { program := "ytkkhpdkfploodaadoor", sum := "f1f86c7188ef42134cd66d5ec4615826ea58c55921156a3493e8b5bf34fd20a4", func := "evergreen/evergreenlaw22.SignatureFull", spec := "signatureFull", recurses := true, named := ["math/bits.deBruijn64tab"], plainKeys := false, apart := false, laid := [("math/bits.deBruijn64tab", laid_math_bits_deBruijn64tab)], narrowed := true }
def SignatureFullUptoSaid : Prop := signatureFullUptoRow.holds Tryd.pinned (OpenSpec.upto signatureFullSpec)

end Rows
end Go.Proofs.YtkkhpdkfploodaaDoor
