/-
  No cell of these rows narrows 'for every input' (looked for: loops, veiled, ifaces, maps, wideKeys, modest, calm, conditions, laid).
  DERIVED. THE GIVEN ROWS OF THIS SEAT. 9 by the template 'for every input the law returns true; each argument reads behind the call as it read before'; 0 by the template 'total and deterministic' (their statements: YtagoedllflalpaaTotals.lean).
  GIVEN WITH THE SEED: the statements are not yours to turn. If you find one false, say at which input.
  Laid BY PROGRAM, IN A SANDBOX (cutbox-rows.mjs): the forced cells as the released guide's own fill.sh prints them over the translation 5ba529b97f3ac681… (all of the seat's roots in one cut). By AI agents, Wed Nov 11 2026. No macro, syntax, notation, axiom, sorry.
-/
import Derived.Test.YtagoedllflalpaaChecked
import GoSem.Claim
import GoSem.ClaimJoined
import GoSem.ClaimMapViews
import Derived.JoinedTies
import Derived.KernelRfl
namespace Go.Proofs.Ytagoedllflalpaa
/- THE CELL 'sum', in the pinned program and in every row, IS THE sha256 OF THE DUMP (.gsa) THAT YtagoedllflalpaaProg.lean LOADS. Nothing in Lean hashes anything: it is a label: what it is worth is what the hold of that sum in a sandbox is worth. -/
noncomputable def Try.pinned : Pinned := { name := "ytagoedllflalpaa", sum := "5ba529b97f3ac681551c129ce0675054864b47919cbd05b138cc62ba5eb90075", checked := Try.checked }
namespace Rows
def none {H : Type} : Left H := { results := [], args := [] }

/-- 'evergreenlaw16.AccessReads': WHATEVER THE INPUT: true; the input reads as it did. -/
def accessReadsSpec : ChangeSpec := { name := "accessReads", fn := fun _ => fun
  | [d1, d2, d3, d4] => { results := [.lit (.bool true)], args := [d1, d2, d3, d4] }
  | _ => none }
def accessReadsRow : OpenClaim := { program := "ytagoedllflalpaa", sum := "5ba529b97f3ac681551c129ce0675054864b47919cbd05b138cc62ba5eb90075", func := "evergreen/evergreenlaw16.AccessReads", spec := "accessReads", unfollowed := true, recurses := true, plainKeys := false, apart := false }
def AccessReadsSaid : Prop := accessReadsRow.holds Try.pinned (OpenSpec.ofChange accessReadsSpec)

/-- ITS FALSE NEIGHBOUR: 'it returns false'. Refute it at one input. -/
def accessReadsWrong : ChangeSpec := { name := "accessReads", fn := fun _ => fun
  | [d1, d2, d3, d4] => { results := [.lit (.bool false)], args := [d1, d2, d3, d4] }
  | _ => none }
def AccessReadsWrongFalsely : Prop := accessReadsRow.holds Try.pinned (OpenSpec.ofChange accessReadsWrong)

/-- 'evergreenlaw19.LinesTexts': WHATEVER THE INPUT: true; the input reads as it did. -/
def linesTextsSpec : ChangeSpec := { name := "linesTexts", fn := fun _ => fun
  | [d1, d2, d3] => { results := [.lit (.bool true)], args := [d1, d2, d3] }
  | _ => none }
def linesTextsRow : OpenClaim := { program := "ytagoedllflalpaa", sum := "5ba529b97f3ac681551c129ce0675054864b47919cbd05b138cc62ba5eb90075", func := "evergreen/evergreenlaw19.LinesTexts", spec := "linesTexts", unfollowed := true, recurses := true, plainKeys := false, apart := false }
def LinesTextsSaid : Prop := linesTextsRow.holds Try.pinned (OpenSpec.ofChange linesTextsSpec)

/-- ITS FALSE NEIGHBOUR: 'it returns false'. Refute it at one input. -/
def linesTextsWrong : ChangeSpec := { name := "linesTexts", fn := fun _ => fun
  | [d1, d2, d3] => { results := [.lit (.bool false)], args := [d1, d2, d3] }
  | _ => none }
def LinesTextsWrongFalsely : Prop := linesTextsRow.holds Try.pinned (OpenSpec.ofChange linesTextsWrong)

/-- 'evergreenlaw16.AccessPaths': WHATEVER THE INPUT: true; the input reads as it did. -/
def accessPathsSpec : ChangeSpec := { name := "accessPaths", fn := fun _ => fun
  | [d1, d2, d3] => { results := [.lit (.bool true)], args := [d1, d2, d3] }
  | _ => none }
def accessPathsRow : OpenClaim := { program := "ytagoedllflalpaa", sum := "5ba529b97f3ac681551c129ce0675054864b47919cbd05b138cc62ba5eb90075", func := "evergreen/evergreenlaw16.AccessPaths", spec := "accessPaths", unfollowed := true, recurses := true, plainKeys := false, apart := false }
def AccessPathsSaid : Prop := accessPathsRow.holds Try.pinned (OpenSpec.ofChange accessPathsSpec)

/-- ITS FALSE NEIGHBOUR: 'it returns false'. Refute it at one input. -/
def accessPathsWrong : ChangeSpec := { name := "accessPaths", fn := fun _ => fun
  | [d1, d2, d3] => { results := [.lit (.bool false)], args := [d1, d2, d3] }
  | _ => none }
def AccessPathsWrongFalsely : Prop := accessPathsRow.holds Try.pinned (OpenSpec.ofChange accessPathsWrong)

/-- 'evergreenlaw16.AccessGreat': WHATEVER THE INPUT: true; the input reads as it did. -/
def accessGreatSpec : ChangeSpec := { name := "accessGreat", fn := fun _ => fun
  | [d1, d2, d3, d4, d5] => { results := [.lit (.bool true)], args := [d1, d2, d3, d4, d5] }
  | _ => none }
def accessGreatRow : OpenClaim := { program := "ytagoedllflalpaa", sum := "5ba529b97f3ac681551c129ce0675054864b47919cbd05b138cc62ba5eb90075", func := "evergreen/evergreenlaw16.AccessGreat", spec := "accessGreat", unfollowed := true, recurses := true, plainKeys := false, apart := false }
def AccessGreatSaid : Prop := accessGreatRow.holds Try.pinned (OpenSpec.ofChange accessGreatSpec)

/-- ITS FALSE NEIGHBOUR: 'it returns false'. Refute it at one input. -/
def accessGreatWrong : ChangeSpec := { name := "accessGreat", fn := fun _ => fun
  | [d1, d2, d3, d4, d5] => { results := [.lit (.bool false)], args := [d1, d2, d3, d4, d5] }
  | _ => none }
def AccessGreatWrongFalsely : Prop := accessGreatRow.holds Try.pinned (OpenSpec.ofChange accessGreatWrong)

/-- 'evergreenlaw19.LinesFeeds': WHATEVER THE INPUT: true; the input reads as it did. -/
def linesFeedsSpec : ChangeSpec := { name := "linesFeeds", fn := fun _ => fun
  | [d1, d2, d3, d4] => { results := [.lit (.bool true)], args := [d1, d2, d3, d4] }
  | _ => none }
def linesFeedsRow : OpenClaim := { program := "ytagoedllflalpaa", sum := "5ba529b97f3ac681551c129ce0675054864b47919cbd05b138cc62ba5eb90075", func := "evergreen/evergreenlaw19.LinesFeeds", spec := "linesFeeds", unfollowed := true, recurses := true, plainKeys := false, apart := false }
def LinesFeedsSaid : Prop := linesFeedsRow.holds Try.pinned (OpenSpec.ofChange linesFeedsSpec)

/-- ITS FALSE NEIGHBOUR: 'it returns false'. Refute it at one input. -/
def linesFeedsWrong : ChangeSpec := { name := "linesFeeds", fn := fun _ => fun
  | [d1, d2, d3, d4] => { results := [.lit (.bool false)], args := [d1, d2, d3, d4] }
  | _ => none }
def LinesFeedsWrongFalsely : Prop := linesFeedsRow.holds Try.pinned (OpenSpec.ofChange linesFeedsWrong)

/-- 'evergreenlaw19.LinesPositions': WHATEVER THE INPUT: true; the input reads as it did. -/
def linesPositionsSpec : ChangeSpec := { name := "linesPositions", fn := fun _ => fun
  | [d1, d2, d3, d4, d5] => { results := [.lit (.bool true)], args := [d1, d2, d3, d4, d5] }
  | _ => none }
def linesPositionsRow : OpenClaim := { program := "ytagoedllflalpaa", sum := "5ba529b97f3ac681551c129ce0675054864b47919cbd05b138cc62ba5eb90075", func := "evergreen/evergreenlaw19.LinesPositions", spec := "linesPositions", unfollowed := true, recurses := true, plainKeys := false, apart := false }
def LinesPositionsSaid : Prop := linesPositionsRow.holds Try.pinned (OpenSpec.ofChange linesPositionsSpec)

/-- ITS FALSE NEIGHBOUR: 'it returns false'. Refute it at one input. -/
def linesPositionsWrong : ChangeSpec := { name := "linesPositions", fn := fun _ => fun
  | [d1, d2, d3, d4, d5] => { results := [.lit (.bool false)], args := [d1, d2, d3, d4, d5] }
  | _ => none }
def LinesPositionsWrongFalsely : Prop := linesPositionsRow.holds Try.pinned (OpenSpec.ofChange linesPositionsWrong)

/-- 'evergreenlaw19.LinesBack': WHATEVER THE INPUT: true; the input reads as it did. -/
def linesBackSpec : ChangeSpec := { name := "linesBack", fn := fun _ => fun
  | [d1, d2, d3] => { results := [.lit (.bool true)], args := [d1, d2, d3] }
  | _ => none }
def linesBackRow : OpenClaim := { program := "ytagoedllflalpaa", sum := "5ba529b97f3ac681551c129ce0675054864b47919cbd05b138cc62ba5eb90075", func := "evergreen/evergreenlaw19.LinesBack", spec := "linesBack", unfollowed := true, recurses := true, plainKeys := false, apart := false }
def LinesBackSaid : Prop := linesBackRow.holds Try.pinned (OpenSpec.ofChange linesBackSpec)

/-- ITS FALSE NEIGHBOUR: 'it returns false'. Refute it at one input. -/
def linesBackWrong : ChangeSpec := { name := "linesBack", fn := fun _ => fun
  | [d1, d2, d3] => { results := [.lit (.bool false)], args := [d1, d2, d3] }
  | _ => none }
def LinesBackWrongFalsely : Prop := linesBackRow.holds Try.pinned (OpenSpec.ofChange linesBackWrong)

/-- 'evergreenlaw16.AccessWeights': WHATEVER THE INPUT: true; the input reads as it did. -/
def accessWeightsSpec : ChangeSpec := { name := "accessWeights", fn := fun _ => fun
  | [d1, d2, d3, d4] => { results := [.lit (.bool true)], args := [d1, d2, d3, d4] }
  | _ => none }
def accessWeightsRow : OpenClaim := { program := "ytagoedllflalpaa", sum := "5ba529b97f3ac681551c129ce0675054864b47919cbd05b138cc62ba5eb90075", func := "evergreen/evergreenlaw16.AccessWeights", spec := "accessWeights", unfollowed := true, recurses := true, plainKeys := false, apart := false }
def AccessWeightsSaid : Prop := accessWeightsRow.holds Try.pinned (OpenSpec.ofChange accessWeightsSpec)

/-- ITS FALSE NEIGHBOUR: 'it returns false'. Refute it at one input. -/
def accessWeightsWrong : ChangeSpec := { name := "accessWeights", fn := fun _ => fun
  | [d1, d2, d3, d4] => { results := [.lit (.bool false)], args := [d1, d2, d3, d4] }
  | _ => none }
def AccessWeightsWrongFalsely : Prop := accessWeightsRow.holds Try.pinned (OpenSpec.ofChange accessWeightsWrong)

/-- 'evergreenlaw19.LinesNone': WHATEVER THE INPUT: true; the input reads as it did. -/
def linesNoneSpec : ChangeSpec := { name := "linesNone", fn := fun _ => fun
  | [d1, d2] => { results := [.lit (.bool true)], args := [d1, d2] }
  | _ => none }
def linesNoneRow : OpenClaim := { program := "ytagoedllflalpaa", sum := "5ba529b97f3ac681551c129ce0675054864b47919cbd05b138cc62ba5eb90075", func := "evergreen/evergreenlaw19.LinesNone", spec := "linesNone", unfollowed := true, recurses := true, plainKeys := false, apart := false }
def LinesNoneSaid : Prop := linesNoneRow.holds Try.pinned (OpenSpec.ofChange linesNoneSpec)

/-- ITS FALSE NEIGHBOUR: 'it returns false'. Refute it at one input. -/
def linesNoneWrong : ChangeSpec := { name := "linesNone", fn := fun _ => fun
  | [d1, d2] => { results := [.lit (.bool false)], args := [d1, d2] }
  | _ => none }
def LinesNoneWrongFalsely : Prop := linesNoneRow.holds Try.pinned (OpenSpec.ofChange linesNoneWrong)

/- THE SECOND FORM. 'bulk': how many values and letters a reading holds, each counted each time it is reached (what is shared counts as often as it is met; a slice's spare places count too). A statement '..UptoSaid' is the law's where the arguments, and the package variables that the reading takes, are together of bulk at most 1048576: NARROWER than '..Said'. Prove '..Said' where nothing that the law and all that it calls make is longer than what came in: it says more and counts as full. Else prove '..UptoSaid'. A law counts once. -/
mutual
def uptoBulk {H : Type} : DataW H → Nat
  | .lit (.string bytes) => bytes.length + 1
  | .lit _ => 1
  | .nil => 1
  | .ptr d => uptoBulk d + 1
  | .slice elems spare => uptoBulkAll elems + uptoBulkAll spare + 1
  | .agg parts => uptoBulkAll parts + 1
  | .iface _ d => uptoBulk d + 1
  | .map entries => uptoBulkEntries entries + 1
  | .held _ => 1
def uptoBulkAll {H : Type} : List (DataW H) → Nat
  | [] => 0
  | d :: r => uptoBulk d + uptoBulkAll r
def uptoBulkEntries {H : Type} : List (Lit × DataW H) → Nat
  | [] => 0
  | x :: r => uptoBulkEntry x + uptoBulkEntries r
def uptoBulkEntry {H : Type} : Lit × DataW H → Nat
  | (.string bytes, d) => bytes.length + uptoBulk d + 1
  | (_, d) => uptoBulk d + 1
 end
def uptoSmall : (H : Type) → List (DataW H) → Bool := fun _ ds => decide (uptoBulkAll ds ≤ 1048576)
def OpenSpec.upto (s : _root_.Go.ChangeSpec) : _root_.Go.OpenSpec := { _root_.Go.OpenSpec.ofChange s with cond := some uptoSmall }

/-- 'evergreenlaw16.AccessReads', WHERE WHAT IT READS IS OF BULK AT MOST 1048576: true; the input reads as it did. -/
def accessReadsUptoRow : OpenClaim := { program := "ytagoedllflalpaa", sum := "5ba529b97f3ac681551c129ce0675054864b47919cbd05b138cc62ba5eb90075", func := "evergreen/evergreenlaw16.AccessReads", spec := "accessReads", unfollowed := true, recurses := true, plainKeys := false, apart := false, narrowed := true }
def AccessReadsUptoSaid : Prop := accessReadsUptoRow.holds Try.pinned (OpenSpec.upto accessReadsSpec)

/-- 'evergreenlaw19.LinesTexts', WHERE WHAT IT READS IS OF BULK AT MOST 1048576: true; the input reads as it did. -/
def linesTextsUptoRow : OpenClaim := { program := "ytagoedllflalpaa", sum := "5ba529b97f3ac681551c129ce0675054864b47919cbd05b138cc62ba5eb90075", func := "evergreen/evergreenlaw19.LinesTexts", spec := "linesTexts", unfollowed := true, recurses := true, plainKeys := false, apart := false, narrowed := true }
def LinesTextsUptoSaid : Prop := linesTextsUptoRow.holds Try.pinned (OpenSpec.upto linesTextsSpec)

/-- 'evergreenlaw16.AccessPaths', WHERE WHAT IT READS IS OF BULK AT MOST 1048576: true; the input reads as it did. -/
def accessPathsUptoRow : OpenClaim := { program := "ytagoedllflalpaa", sum := "5ba529b97f3ac681551c129ce0675054864b47919cbd05b138cc62ba5eb90075", func := "evergreen/evergreenlaw16.AccessPaths", spec := "accessPaths", unfollowed := true, recurses := true, plainKeys := false, apart := false, narrowed := true }
def AccessPathsUptoSaid : Prop := accessPathsUptoRow.holds Try.pinned (OpenSpec.upto accessPathsSpec)

/-- 'evergreenlaw16.AccessGreat', WHERE WHAT IT READS IS OF BULK AT MOST 1048576: true; the input reads as it did. -/
def accessGreatUptoRow : OpenClaim := { program := "ytagoedllflalpaa", sum := "5ba529b97f3ac681551c129ce0675054864b47919cbd05b138cc62ba5eb90075", func := "evergreen/evergreenlaw16.AccessGreat", spec := "accessGreat", unfollowed := true, recurses := true, plainKeys := false, apart := false, narrowed := true }
def AccessGreatUptoSaid : Prop := accessGreatUptoRow.holds Try.pinned (OpenSpec.upto accessGreatSpec)

/-- 'evergreenlaw19.LinesFeeds', WHERE WHAT IT READS IS OF BULK AT MOST 1048576: true; the input reads as it did. -/
def linesFeedsUptoRow : OpenClaim := { program := "ytagoedllflalpaa", sum := "5ba529b97f3ac681551c129ce0675054864b47919cbd05b138cc62ba5eb90075", func := "evergreen/evergreenlaw19.LinesFeeds", spec := "linesFeeds", unfollowed := true, recurses := true, plainKeys := false, apart := false, narrowed := true }
def LinesFeedsUptoSaid : Prop := linesFeedsUptoRow.holds Try.pinned (OpenSpec.upto linesFeedsSpec)

/-- 'evergreenlaw19.LinesPositions', WHERE WHAT IT READS IS OF BULK AT MOST 1048576: true; the input reads as it did. -/
def linesPositionsUptoRow : OpenClaim := { program := "ytagoedllflalpaa", sum := "5ba529b97f3ac681551c129ce0675054864b47919cbd05b138cc62ba5eb90075", func := "evergreen/evergreenlaw19.LinesPositions", spec := "linesPositions", unfollowed := true, recurses := true, plainKeys := false, apart := false, narrowed := true }
def LinesPositionsUptoSaid : Prop := linesPositionsUptoRow.holds Try.pinned (OpenSpec.upto linesPositionsSpec)

/-- 'evergreenlaw19.LinesBack', WHERE WHAT IT READS IS OF BULK AT MOST 1048576: true; the input reads as it did. -/
def linesBackUptoRow : OpenClaim := { program := "ytagoedllflalpaa", sum := "5ba529b97f3ac681551c129ce0675054864b47919cbd05b138cc62ba5eb90075", func := "evergreen/evergreenlaw19.LinesBack", spec := "linesBack", unfollowed := true, recurses := true, plainKeys := false, apart := false, narrowed := true }
def LinesBackUptoSaid : Prop := linesBackUptoRow.holds Try.pinned (OpenSpec.upto linesBackSpec)

/-- 'evergreenlaw16.AccessWeights', WHERE WHAT IT READS IS OF BULK AT MOST 1048576: true; the input reads as it did. -/
def accessWeightsUptoRow : OpenClaim := { program := "ytagoedllflalpaa", sum := "5ba529b97f3ac681551c129ce0675054864b47919cbd05b138cc62ba5eb90075", func := "evergreen/evergreenlaw16.AccessWeights", spec := "accessWeights", unfollowed := true, recurses := true, plainKeys := false, apart := false, narrowed := true }
def AccessWeightsUptoSaid : Prop := accessWeightsUptoRow.holds Try.pinned (OpenSpec.upto accessWeightsSpec)

/-- 'evergreenlaw19.LinesNone', WHERE WHAT IT READS IS OF BULK AT MOST 1048576: true; the input reads as it did. -/
def linesNoneUptoRow : OpenClaim := { program := "ytagoedllflalpaa", sum := "5ba529b97f3ac681551c129ce0675054864b47919cbd05b138cc62ba5eb90075", func := "evergreen/evergreenlaw19.LinesNone", spec := "linesNone", unfollowed := true, recurses := true, plainKeys := false, apart := false, narrowed := true }
def LinesNoneUptoSaid : Prop := linesNoneUptoRow.holds Try.pinned (OpenSpec.upto linesNoneSpec)

end Rows
end Go.Proofs.Ytagoedllflalpaa
