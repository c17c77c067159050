/-
  No cell of these rows narrows 'for every input' (looked for: loops, veiled, ifaces, maps, wideKeys, modest, calm, conditions, laid).
  DERIVED. THE GIVEN ROWS OF THIS SEAT. 7 by the template 'for every input the law returns true; each argument reads behind the call as it read before'; 0 by the template 'total and deterministic' (their statements: YtoocnmfodhnpbaaTotals.lean).
  GIVEN WITH THE SEED: the statements are not yours to turn. If you find one false, say at which input.
  Laid BY PROGRAM, IN A SANDBOX (cutbox-rows.mjs): the forced cells as the released guide's own fill.sh prints them over the translation 7cead7c97ed61d32… (all of the seat's roots in one cut). By AI agents, Wed Nov 11 2026. No macro, syntax, notation, axiom, sorry.
-/
import Derived.Test.YtoocnmfodhnpbaaChecked
import GoSem.Claim
import GoSem.ClaimJoined
import GoSem.ClaimMapViews
import Derived.JoinedTies
import Derived.KernelRfl
namespace Go.Proofs.Ytoocnmfodhnpbaa
/- THE CELL 'sum', in the pinned program and in every row, IS THE sha256 OF THE DUMP (.gsa) THAT YtoocnmfodhnpbaaProg.lean LOADS. Nothing in Lean hashes anything: it is a label: what it is worth is what the hold of that sum in a sandbox is worth. -/
noncomputable def Try.pinned : Pinned := { name := "ytoocnmfodhnpbaa", sum := "7cead7c97ed61d323f437dbbd101fa2e13962e176195aa77ed46f9393ca03f76", checked := Try.checked }
namespace Rows
def none {H : Type} : Left H := { results := [], args := [] }

/-- 'evergreenlaw33.TransferParts': WHATEVER THE INPUT: true; the input reads as it did. -/
def transferPartsSpec : ChangeSpec := { name := "transferParts", fn := fun _ => fun
  | [d1, d2, d3, d4, d5] => { results := [.lit (.bool true)], args := [d1, d2, d3, d4, d5] }
  | _ => none }
def transferPartsRow : OpenClaim := { program := "ytoocnmfodhnpbaa", sum := "7cead7c97ed61d323f437dbbd101fa2e13962e176195aa77ed46f9393ca03f76", func := "evergreen/evergreenlaw33.TransferParts", spec := "transferParts", recurses := true, plainKeys := false, apart := false }
def TransferPartsSaid : Prop := transferPartsRow.holds Try.pinned (OpenSpec.ofChange transferPartsSpec)

/-- ITS FALSE NEIGHBOUR: 'it returns false'. Refute it at one input. -/
def transferPartsWrong : ChangeSpec := { name := "transferParts", fn := fun _ => fun
  | [d1, d2, d3, d4, d5] => { results := [.lit (.bool false)], args := [d1, d2, d3, d4, d5] }
  | _ => none }
def TransferPartsWrongFalsely : Prop := transferPartsRow.holds Try.pinned (OpenSpec.ofChange transferPartsWrong)

/-- 'evergreenlaw33.TransferTexts': WHATEVER THE INPUT: true; the input reads as it did. -/
def transferTextsSpec : ChangeSpec := { name := "transferTexts", fn := fun _ => fun
  | [d1, d2, d3] => { results := [.lit (.bool true)], args := [d1, d2, d3] }
  | _ => none }
def transferTextsRow : OpenClaim := { program := "ytoocnmfodhnpbaa", sum := "7cead7c97ed61d323f437dbbd101fa2e13962e176195aa77ed46f9393ca03f76", func := "evergreen/evergreenlaw33.TransferTexts", spec := "transferTexts", recurses := true, plainKeys := false, apart := false }
def TransferTextsSaid : Prop := transferTextsRow.holds Try.pinned (OpenSpec.ofChange transferTextsSpec)

/-- ITS FALSE NEIGHBOUR: 'it returns false'. Refute it at one input. -/
def transferTextsWrong : ChangeSpec := { name := "transferTexts", fn := fun _ => fun
  | [d1, d2, d3] => { results := [.lit (.bool false)], args := [d1, d2, d3] }
  | _ => none }
def TransferTextsWrongFalsely : Prop := transferTextsRow.holds Try.pinned (OpenSpec.ofChange transferTextsWrong)

/-- 'evergreenlaw33.TransferCuts': WHATEVER THE INPUT: true; the input reads as it did. -/
def transferCutsSpec : ChangeSpec := { name := "transferCuts", fn := fun _ => fun
  | [d1, d2, d3, d4, d5, d6, d7] => { results := [.lit (.bool true)], args := [d1, d2, d3, d4, d5, d6, d7] }
  | _ => none }
def transferCutsRow : OpenClaim := { program := "ytoocnmfodhnpbaa", sum := "7cead7c97ed61d323f437dbbd101fa2e13962e176195aa77ed46f9393ca03f76", func := "evergreen/evergreenlaw33.TransferCuts", spec := "transferCuts", plainKeys := false, apart := false }
def TransferCutsSaid : Prop := transferCutsRow.holds Try.pinned (OpenSpec.ofChange transferCutsSpec)

/-- ITS FALSE NEIGHBOUR: 'it returns false'. Refute it at one input. -/
def transferCutsWrong : ChangeSpec := { name := "transferCuts", fn := fun _ => fun
  | [d1, d2, d3, d4, d5, d6, d7] => { results := [.lit (.bool false)], args := [d1, d2, d3, d4, d5, d6, d7] }
  | _ => none }
def TransferCutsWrongFalsely : Prop := transferCutsRow.holds Try.pinned (OpenSpec.ofChange transferCutsWrong)

/-- 'evergreenlaw33.TransferRules': WHATEVER THE INPUT: true; the input reads as it did. -/
def transferRulesSpec : ChangeSpec := { name := "transferRules", fn := fun _ => fun
  | [d1, d2, d3] => { results := [.lit (.bool true)], args := [d1, d2, d3] }
  | _ => none }
def transferRulesRow : OpenClaim := { program := "ytoocnmfodhnpbaa", sum := "7cead7c97ed61d323f437dbbd101fa2e13962e176195aa77ed46f9393ca03f76", func := "evergreen/evergreenlaw33.TransferRules", spec := "transferRules", plainKeys := false, apart := false }
def TransferRulesSaid : Prop := transferRulesRow.holds Try.pinned (OpenSpec.ofChange transferRulesSpec)

/-- ITS FALSE NEIGHBOUR: 'it returns false'. Refute it at one input. -/
def transferRulesWrong : ChangeSpec := { name := "transferRules", fn := fun _ => fun
  | [d1, d2, d3] => { results := [.lit (.bool false)], args := [d1, d2, d3] }
  | _ => none }
def TransferRulesWrongFalsely : Prop := transferRulesRow.holds Try.pinned (OpenSpec.ofChange transferRulesWrong)

/-- 'evergreenlaw33.TransferForms': WHATEVER THE INPUT: true; the input reads as it did. -/
def transferFormsSpec : ChangeSpec := { name := "transferForms", fn := fun _ => fun
  | [d1, d2, d3, d4] => { results := [.lit (.bool true)], args := [d1, d2, d3, d4] }
  | _ => none }
def transferFormsRow : OpenClaim := { program := "ytoocnmfodhnpbaa", sum := "7cead7c97ed61d323f437dbbd101fa2e13962e176195aa77ed46f9393ca03f76", func := "evergreen/evergreenlaw33.TransferForms", spec := "transferForms", plainKeys := false, apart := false }
def TransferFormsSaid : Prop := transferFormsRow.holds Try.pinned (OpenSpec.ofChange transferFormsSpec)

/-- ITS FALSE NEIGHBOUR: 'it returns false'. Refute it at one input. -/
def transferFormsWrong : ChangeSpec := { name := "transferForms", fn := fun _ => fun
  | [d1, d2, d3, d4] => { results := [.lit (.bool false)], args := [d1, d2, d3, d4] }
  | _ => none }
def TransferFormsWrongFalsely : Prop := transferFormsRow.holds Try.pinned (OpenSpec.ofChange transferFormsWrong)

/-- 'evergreenlaw33.TransferKeeps': WHATEVER THE INPUT: true; the input reads as it did. -/
def transferKeepsSpec : ChangeSpec := { name := "transferKeeps", fn := fun _ => fun
  | [d1, d2, d3] => { results := [.lit (.bool true)], args := [d1, d2, d3] }
  | _ => none }
def transferKeepsRow : OpenClaim := { program := "ytoocnmfodhnpbaa", sum := "7cead7c97ed61d323f437dbbd101fa2e13962e176195aa77ed46f9393ca03f76", func := "evergreen/evergreenlaw33.TransferKeeps", spec := "transferKeeps", unfollowed := true, recurses := true, plainKeys := false, apart := false }
def TransferKeepsSaid : Prop := transferKeepsRow.holds Try.pinned (OpenSpec.ofChange transferKeepsSpec)

/-- ITS FALSE NEIGHBOUR: 'it returns false'. Refute it at one input. -/
def transferKeepsWrong : ChangeSpec := { name := "transferKeeps", fn := fun _ => fun
  | [d1, d2, d3] => { results := [.lit (.bool false)], args := [d1, d2, d3] }
  | _ => none }
def TransferKeepsWrongFalsely : Prop := transferKeepsRow.holds Try.pinned (OpenSpec.ofChange transferKeepsWrong)

/-- 'evergreenlaw33.TransferLetters': WHATEVER THE INPUT: true; the input reads as it did. -/
def transferLettersSpec : ChangeSpec := { name := "transferLetters", fn := fun _ => fun
  | [d1, d2, d3, d4, d5, d6, d7] => { results := [.lit (.bool true)], args := [d1, d2, d3, d4, d5, d6, d7] }
  | _ => none }
def transferLettersRow : OpenClaim := { program := "ytoocnmfodhnpbaa", sum := "7cead7c97ed61d323f437dbbd101fa2e13962e176195aa77ed46f9393ca03f76", func := "evergreen/evergreenlaw33.TransferLetters", spec := "transferLetters", recurses := true, plainKeys := false, apart := false }
def TransferLettersSaid : Prop := transferLettersRow.holds Try.pinned (OpenSpec.ofChange transferLettersSpec)

/-- ITS FALSE NEIGHBOUR: 'it returns false'. Refute it at one input. -/
def transferLettersWrong : ChangeSpec := { name := "transferLetters", fn := fun _ => fun
  | [d1, d2, d3, d4, d5, d6, d7] => { results := [.lit (.bool false)], args := [d1, d2, d3, d4, d5, d6, d7] }
  | _ => none }
def TransferLettersWrongFalsely : Prop := transferLettersRow.holds Try.pinned (OpenSpec.ofChange transferLettersWrong)

/- THE SECOND FORM. 'bulk': how many values and letters a reading holds, each counted each time it is reached (what is shared counts as often as it is met; a slice's spare places count too). A statement '..UptoSaid' is the law's where the arguments, and the package variables that the reading takes, are together of bulk at most 1048576: NARROWER than '..Said'. Prove '..Said' where nothing that the law and all that it calls make is longer than what came in: it says more and counts as full. Else prove '..UptoSaid'. A law counts once. -/
mutual
def uptoBulk {H : Type} : DataW H → Nat
  | .lit (.string bytes) => bytes.length + 1
  | .lit _ => 1
  | .nil => 1
  | .ptr d => uptoBulk d + 1
  | .slice elems spare => uptoBulkAll elems + uptoBulkAll spare + 1
  | .agg parts => uptoBulkAll parts + 1
  | .iface _ d => uptoBulk d + 1
  | .map entries => uptoBulkEntries entries + 1
  | .held _ => 1
def uptoBulkAll {H : Type} : List (DataW H) → Nat
  | [] => 0
  | d :: r => uptoBulk d + uptoBulkAll r
def uptoBulkEntries {H : Type} : List (Lit × DataW H) → Nat
  | [] => 0
  | x :: r => uptoBulkEntry x + uptoBulkEntries r
def uptoBulkEntry {H : Type} : Lit × DataW H → Nat
  | (.string bytes, d) => bytes.length + uptoBulk d + 1
  | (_, d) => uptoBulk d + 1
 end
def uptoSmall : (H : Type) → List (DataW H) → Bool := fun _ ds => decide (uptoBulkAll ds ≤ 1048576)
def OpenSpec.upto (s : _root_.Go.ChangeSpec) : _root_.Go.OpenSpec := { _root_.Go.OpenSpec.ofChange s with cond := some uptoSmall }

/-- 'evergreenlaw33.TransferParts', WHERE WHAT IT READS IS OF BULK AT MOST 1048576: true; the input reads as it did. -/
def transferPartsUptoRow : OpenClaim := { program := "ytoocnmfodhnpbaa", sum := "7cead7c97ed61d323f437dbbd101fa2e13962e176195aa77ed46f9393ca03f76", func := "evergreen/evergreenlaw33.TransferParts", spec := "transferParts", recurses := true, plainKeys := false, apart := false, narrowed := true }
def TransferPartsUptoSaid : Prop := transferPartsUptoRow.holds Try.pinned (OpenSpec.upto transferPartsSpec)

/-- 'evergreenlaw33.TransferTexts', WHERE WHAT IT READS IS OF BULK AT MOST 1048576: true; the input reads as it did. -/
def transferTextsUptoRow : OpenClaim := { program := "ytoocnmfodhnpbaa", sum := "7cead7c97ed61d323f437dbbd101fa2e13962e176195aa77ed46f9393ca03f76", func := "evergreen/evergreenlaw33.TransferTexts", spec := "transferTexts", recurses := true, plainKeys := false, apart := false, narrowed := true }
def TransferTextsUptoSaid : Prop := transferTextsUptoRow.holds Try.pinned (OpenSpec.upto transferTextsSpec)

/-- 'evergreenlaw33.TransferCuts', WHERE WHAT IT READS IS OF BULK AT MOST 1048576: true; the input reads as it did. -/
def transferCutsUptoRow : OpenClaim := { program := "ytoocnmfodhnpbaa", sum := "7cead7c97ed61d323f437dbbd101fa2e13962e176195aa77ed46f9393ca03f76", func := "evergreen/evergreenlaw33.TransferCuts", spec := "transferCuts", plainKeys := false, apart := false, narrowed := true }
def TransferCutsUptoSaid : Prop := transferCutsUptoRow.holds Try.pinned (OpenSpec.upto transferCutsSpec)

/-- 'evergreenlaw33.TransferRules', WHERE WHAT IT READS IS OF BULK AT MOST 1048576: true; the input reads as it did. -/
def transferRulesUptoRow : OpenClaim := { program := "ytoocnmfodhnpbaa", sum := "7cead7c97ed61d323f437dbbd101fa2e13962e176195aa77ed46f9393ca03f76", func := "evergreen/evergreenlaw33.TransferRules", spec := "transferRules", plainKeys := false, apart := false, narrowed := true }
def TransferRulesUptoSaid : Prop := transferRulesUptoRow.holds Try.pinned (OpenSpec.upto transferRulesSpec)

/-- 'evergreenlaw33.TransferForms', WHERE WHAT IT READS IS OF BULK AT MOST 1048576: true; the input reads as it did. -/
def transferFormsUptoRow : OpenClaim := { program := "ytoocnmfodhnpbaa", sum := "7cead7c97ed61d323f437dbbd101fa2e13962e176195aa77ed46f9393ca03f76", func := "evergreen/evergreenlaw33.TransferForms", spec := "transferForms", plainKeys := false, apart := false, narrowed := true }
def TransferFormsUptoSaid : Prop := transferFormsUptoRow.holds Try.pinned (OpenSpec.upto transferFormsSpec)

/-- 'evergreenlaw33.TransferKeeps', WHERE WHAT IT READS IS OF BULK AT MOST 1048576: true; the input reads as it did. -/
def transferKeepsUptoRow : OpenClaim := { program := "ytoocnmfodhnpbaa", sum := "7cead7c97ed61d323f437dbbd101fa2e13962e176195aa77ed46f9393ca03f76", func := "evergreen/evergreenlaw33.TransferKeeps", spec := "transferKeeps", unfollowed := true, recurses := true, plainKeys := false, apart := false, narrowed := true }
def TransferKeepsUptoSaid : Prop := transferKeepsUptoRow.holds Try.pinned (OpenSpec.upto transferKeepsSpec)

/-- 'evergreenlaw33.TransferLetters', WHERE WHAT IT READS IS OF BULK AT MOST 1048576: true; the input reads as it did. -/
def transferLettersUptoRow : OpenClaim := { program := "ytoocnmfodhnpbaa", sum := "7cead7c97ed61d323f437dbbd101fa2e13962e176195aa77ed46f9393ca03f76", func := "evergreen/evergreenlaw33.TransferLetters", spec := "transferLetters", recurses := true, plainKeys := false, apart := false, narrowed := true }
def TransferLettersUptoSaid : Prop := transferLettersUptoRow.holds Try.pinned (OpenSpec.upto transferLettersSpec)

end Rows
end Go.Proofs.Ytoocnmfodhnpbaa
