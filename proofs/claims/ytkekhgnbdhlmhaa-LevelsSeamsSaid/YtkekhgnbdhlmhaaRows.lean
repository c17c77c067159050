/-
  No cell of these rows narrows 'for every input' (looked for: loops, veiled, ifaces, maps, wideKeys, modest, calm, conditions, laid).
  DERIVED. THE GIVEN ROWS OF THIS SEAT. 8 by the template 'for every input the law returns true; each argument reads behind the call as it read before'; 0 by the template 'total and deterministic' (their statements: YtkekhgnbdhlmhaaTotals.lean).
  GIVEN WITH THE SEED: the statements are not yours to turn. If you find one false, say at which input.
  Laid BY PROGRAM, IN A SANDBOX (cutbox-rows.mjs): the forced cells as the released guide's own fill.sh prints them over the translation 298ece9e67b3de2a… (all of the seat's roots in one cut). By AI agents, Wed Nov 11 2026. No macro, syntax, notation, axiom, sorry.
-/
import Derived.Test.YtkekhgnbdhlmhaaChecked
import GoSem.Claim
import GoSem.ClaimJoined
import GoSem.ClaimMapViews
import Derived.JoinedTies
import Derived.KernelRfl
namespace Go.Proofs.Ytkekhgnbdhlmhaa
/- THE CELL 'sum', in the pinned program and in every row, IS THE sha256 OF THE DUMP (.gsa) THAT YtkekhgnbdhlmhaaProg.lean LOADS. Nothing in Lean hashes anything: it is a label: what it is worth is what the hold of that sum in a sandbox is worth. -/
noncomputable def Try.pinned : Pinned := { name := "ytkekhgnbdhlmhaa", sum := "298ece9e67b3de2ac2a3efbd0005d43148f8e1d905a417e7101955a6ecdb1908", checked := Try.checked }
namespace Rows
def none {H : Type} : Left H := { results := [], args := [] }

/-- 'evergreenlaw21.LevelsRuns': WHATEVER THE INPUT: true; the input reads as it did. -/
def levelsRunsSpec : ChangeSpec := { name := "levelsRuns", fn := fun _ => fun
  | [d] => { results := [.lit (.bool true)], args := [d] }
  | _ => none }
def levelsRunsRow : OpenClaim := { program := "ytkekhgnbdhlmhaa", sum := "298ece9e67b3de2ac2a3efbd0005d43148f8e1d905a417e7101955a6ecdb1908", func := "evergreen/evergreenlaw21.LevelsRuns", spec := "levelsRuns", apart := false }
def LevelsRunsSaid : Prop := levelsRunsRow.holds Try.pinned (OpenSpec.ofChange levelsRunsSpec)

/-- ITS FALSE NEIGHBOUR: 'it returns false'. Refute it at one input. -/
def levelsRunsWrong : ChangeSpec := { name := "levelsRuns", fn := fun _ => fun
  | [d] => { results := [.lit (.bool false)], args := [d] }
  | _ => none }
def LevelsRunsWrongFalsely : Prop := levelsRunsRow.holds Try.pinned (OpenSpec.ofChange levelsRunsWrong)

/-- 'evergreenlaw21.LevelsStretches': WHATEVER THE INPUT: true; the input reads as it did. -/
def levelsStretchesSpec : ChangeSpec := { name := "levelsStretches", fn := fun _ => fun
  | [d] => { results := [.lit (.bool true)], args := [d] }
  | _ => none }
def levelsStretchesRow : OpenClaim := { program := "ytkekhgnbdhlmhaa", sum := "298ece9e67b3de2ac2a3efbd0005d43148f8e1d905a417e7101955a6ecdb1908", func := "evergreen/evergreenlaw21.LevelsStretches", spec := "levelsStretches", apart := false }
def LevelsStretchesSaid : Prop := levelsStretchesRow.holds Try.pinned (OpenSpec.ofChange levelsStretchesSpec)

/-- ITS FALSE NEIGHBOUR: 'it returns false'. Refute it at one input. -/
def levelsStretchesWrong : ChangeSpec := { name := "levelsStretches", fn := fun _ => fun
  | [d] => { results := [.lit (.bool false)], args := [d] }
  | _ => none }
def LevelsStretchesWrongFalsely : Prop := levelsStretchesRow.holds Try.pinned (OpenSpec.ofChange levelsStretchesWrong)

/-- 'evergreenlaw21.LevelsPairs': WHATEVER THE INPUT: true; the input reads as it did. -/
def levelsPairsSpec : ChangeSpec := { name := "levelsPairs", fn := fun _ => fun
  | [d1, d2] => { results := [.lit (.bool true)], args := [d1, d2] }
  | _ => none }
def levelsPairsRow : OpenClaim := { program := "ytkekhgnbdhlmhaa", sum := "298ece9e67b3de2ac2a3efbd0005d43148f8e1d905a417e7101955a6ecdb1908", func := "evergreen/evergreenlaw21.LevelsPairs", spec := "levelsPairs", apart := false }
def LevelsPairsSaid : Prop := levelsPairsRow.holds Try.pinned (OpenSpec.ofChange levelsPairsSpec)

/-- ITS FALSE NEIGHBOUR: 'it returns false'. Refute it at one input. -/
def levelsPairsWrong : ChangeSpec := { name := "levelsPairs", fn := fun _ => fun
  | [d1, d2] => { results := [.lit (.bool false)], args := [d1, d2] }
  | _ => none }
def LevelsPairsWrongFalsely : Prop := levelsPairsRow.holds Try.pinned (OpenSpec.ofChange levelsPairsWrong)

/-- 'evergreenlaw21.LevelsRounds': WHATEVER THE INPUT: true; the input reads as it did. -/
def levelsRoundsSpec : ChangeSpec := { name := "levelsRounds", fn := fun _ => fun
  | [d1, d2] => { results := [.lit (.bool true)], args := [d1, d2] }
  | _ => none }
def levelsRoundsRow : OpenClaim := { program := "ytkekhgnbdhlmhaa", sum := "298ece9e67b3de2ac2a3efbd0005d43148f8e1d905a417e7101955a6ecdb1908", func := "evergreen/evergreenlaw21.LevelsRounds", spec := "levelsRounds", apart := false }
def LevelsRoundsSaid : Prop := levelsRoundsRow.holds Try.pinned (OpenSpec.ofChange levelsRoundsSpec)

/-- ITS FALSE NEIGHBOUR: 'it returns false'. Refute it at one input. -/
def levelsRoundsWrong : ChangeSpec := { name := "levelsRounds", fn := fun _ => fun
  | [d1, d2] => { results := [.lit (.bool false)], args := [d1, d2] }
  | _ => none }
def LevelsRoundsWrongFalsely : Prop := levelsRoundsRow.holds Try.pinned (OpenSpec.ofChange levelsRoundsWrong)

/-- 'evergreenlaw21.LevelsTies': WHATEVER THE INPUT: true; the input reads as it did. -/
def levelsTiesSpec : ChangeSpec := { name := "levelsTies", fn := fun _ => fun
  | [d1, d2] => { results := [.lit (.bool true)], args := [d1, d2] }
  | _ => none }
def levelsTiesRow : OpenClaim := { program := "ytkekhgnbdhlmhaa", sum := "298ece9e67b3de2ac2a3efbd0005d43148f8e1d905a417e7101955a6ecdb1908", func := "evergreen/evergreenlaw21.LevelsTies", spec := "levelsTies", apart := false }
def LevelsTiesSaid : Prop := levelsTiesRow.holds Try.pinned (OpenSpec.ofChange levelsTiesSpec)

/-- ITS FALSE NEIGHBOUR: 'it returns false'. Refute it at one input. -/
def levelsTiesWrong : ChangeSpec := { name := "levelsTies", fn := fun _ => fun
  | [d1, d2] => { results := [.lit (.bool false)], args := [d1, d2] }
  | _ => none }
def LevelsTiesWrongFalsely : Prop := levelsTiesRow.holds Try.pinned (OpenSpec.ofChange levelsTiesWrong)

/-- 'evergreenlaw21.LevelsAgain': WHATEVER THE INPUT: true; the input reads as it did. -/
def levelsAgainSpec : ChangeSpec := { name := "levelsAgain", fn := fun _ => fun
  | [d1, d2, d3] => { results := [.lit (.bool true)], args := [d1, d2, d3] }
  | _ => none }
def levelsAgainRow : OpenClaim := { program := "ytkekhgnbdhlmhaa", sum := "298ece9e67b3de2ac2a3efbd0005d43148f8e1d905a417e7101955a6ecdb1908", func := "evergreen/evergreenlaw21.LevelsAgain", spec := "levelsAgain", apart := false }
def LevelsAgainSaid : Prop := levelsAgainRow.holds Try.pinned (OpenSpec.ofChange levelsAgainSpec)

/-- ITS FALSE NEIGHBOUR: 'it returns false'. Refute it at one input. -/
def levelsAgainWrong : ChangeSpec := { name := "levelsAgain", fn := fun _ => fun
  | [d1, d2, d3] => { results := [.lit (.bool false)], args := [d1, d2, d3] }
  | _ => none }
def LevelsAgainWrongFalsely : Prop := levelsAgainRow.holds Try.pinned (OpenSpec.ofChange levelsAgainWrong)

/-- 'evergreenlaw21.LevelsApart': WHATEVER THE INPUT: true; the input reads as it did. -/
def levelsApartSpec : ChangeSpec := { name := "levelsApart", fn := fun _ => fun
  | [d1, d2] => { results := [.lit (.bool true)], args := [d1, d2] }
  | _ => none }
def levelsApartRow : OpenClaim := { program := "ytkekhgnbdhlmhaa", sum := "298ece9e67b3de2ac2a3efbd0005d43148f8e1d905a417e7101955a6ecdb1908", func := "evergreen/evergreenlaw21.LevelsApart", spec := "levelsApart", apart := false }
def LevelsApartSaid : Prop := levelsApartRow.holds Try.pinned (OpenSpec.ofChange levelsApartSpec)

/-- ITS FALSE NEIGHBOUR: 'it returns false'. Refute it at one input. -/
def levelsApartWrong : ChangeSpec := { name := "levelsApart", fn := fun _ => fun
  | [d1, d2] => { results := [.lit (.bool false)], args := [d1, d2] }
  | _ => none }
def LevelsApartWrongFalsely : Prop := levelsApartRow.holds Try.pinned (OpenSpec.ofChange levelsApartWrong)

/-- 'evergreenlaw21.LevelsSeams': WHATEVER THE INPUT: true; the input reads as it did. -/
def levelsSeamsSpec : ChangeSpec := { name := "levelsSeams", fn := fun _ => fun
  | [d1, d2, d3] => { results := [.lit (.bool true)], args := [d1, d2, d3] }
  | _ => none }
def levelsSeamsRow : OpenClaim := { program := "ytkekhgnbdhlmhaa", sum := "298ece9e67b3de2ac2a3efbd0005d43148f8e1d905a417e7101955a6ecdb1908", func := "evergreen/evergreenlaw21.LevelsSeams", spec := "levelsSeams", apart := false }
def LevelsSeamsSaid : Prop := levelsSeamsRow.holds Try.pinned (OpenSpec.ofChange levelsSeamsSpec)

/-- ITS FALSE NEIGHBOUR: 'it returns false'. Refute it at one input. -/
def levelsSeamsWrong : ChangeSpec := { name := "levelsSeams", fn := fun _ => fun
  | [d1, d2, d3] => { results := [.lit (.bool false)], args := [d1, d2, d3] }
  | _ => none }
def LevelsSeamsWrongFalsely : Prop := levelsSeamsRow.holds Try.pinned (OpenSpec.ofChange levelsSeamsWrong)

/- THE SECOND FORM. 'bulk': how many values and letters a reading holds, each counted each time it is reached (what is shared counts as often as it is met; a slice's spare places count too). A statement '..UptoSaid' is the law's where the arguments, and the package variables that the reading takes, are together of bulk at most 1048576: NARROWER than '..Said'. Prove '..Said' where nothing that the law and all that it calls make is longer than what came in: it says more and counts as full. Else prove '..UptoSaid'. A law counts once. -/
mutual
def uptoBulk {H : Type} : DataW H → Nat
  | .lit (.string bytes) => bytes.length + 1
  | .lit _ => 1
  | .nil => 1
  | .ptr d => uptoBulk d + 1
  | .slice elems spare => uptoBulkAll elems + uptoBulkAll spare + 1
  | .agg parts => uptoBulkAll parts + 1
  | .iface _ d => uptoBulk d + 1
  | .map entries => uptoBulkEntries entries + 1
  | .held _ => 1
def uptoBulkAll {H : Type} : List (DataW H) → Nat
  | [] => 0
  | d :: r => uptoBulk d + uptoBulkAll r
def uptoBulkEntries {H : Type} : List (Lit × DataW H) → Nat
  | [] => 0
  | x :: r => uptoBulkEntry x + uptoBulkEntries r
def uptoBulkEntry {H : Type} : Lit × DataW H → Nat
  | (.string bytes, d) => bytes.length + uptoBulk d + 1
  | (_, d) => uptoBulk d + 1
 end
def uptoSmall : (H : Type) → List (DataW H) → Bool := fun _ ds => decide (uptoBulkAll ds ≤ 1048576)
def OpenSpec.upto (s : _root_.Go.ChangeSpec) : _root_.Go.OpenSpec := { _root_.Go.OpenSpec.ofChange s with cond := some uptoSmall }

/-- 'evergreenlaw21.LevelsRuns', WHERE WHAT IT READS IS OF BULK AT MOST 1048576: true; the input reads as it did. -/
def levelsRunsUptoRow : OpenClaim := { program := "ytkekhgnbdhlmhaa", sum := "298ece9e67b3de2ac2a3efbd0005d43148f8e1d905a417e7101955a6ecdb1908", func := "evergreen/evergreenlaw21.LevelsRuns", spec := "levelsRuns", apart := false, narrowed := true }
def LevelsRunsUptoSaid : Prop := levelsRunsUptoRow.holds Try.pinned (OpenSpec.upto levelsRunsSpec)

/-- 'evergreenlaw21.LevelsStretches', WHERE WHAT IT READS IS OF BULK AT MOST 1048576: true; the input reads as it did. -/
def levelsStretchesUptoRow : OpenClaim := { program := "ytkekhgnbdhlmhaa", sum := "298ece9e67b3de2ac2a3efbd0005d43148f8e1d905a417e7101955a6ecdb1908", func := "evergreen/evergreenlaw21.LevelsStretches", spec := "levelsStretches", apart := false, narrowed := true }
def LevelsStretchesUptoSaid : Prop := levelsStretchesUptoRow.holds Try.pinned (OpenSpec.upto levelsStretchesSpec)

/-- 'evergreenlaw21.LevelsPairs', WHERE WHAT IT READS IS OF BULK AT MOST 1048576: true; the input reads as it did. -/
def levelsPairsUptoRow : OpenClaim := { program := "ytkekhgnbdhlmhaa", sum := "298ece9e67b3de2ac2a3efbd0005d43148f8e1d905a417e7101955a6ecdb1908", func := "evergreen/evergreenlaw21.LevelsPairs", spec := "levelsPairs", apart := false, narrowed := true }
def LevelsPairsUptoSaid : Prop := levelsPairsUptoRow.holds Try.pinned (OpenSpec.upto levelsPairsSpec)

/-- 'evergreenlaw21.LevelsRounds', WHERE WHAT IT READS IS OF BULK AT MOST 1048576: true; the input reads as it did. -/
def levelsRoundsUptoRow : OpenClaim := { program := "ytkekhgnbdhlmhaa", sum := "298ece9e67b3de2ac2a3efbd0005d43148f8e1d905a417e7101955a6ecdb1908", func := "evergreen/evergreenlaw21.LevelsRounds", spec := "levelsRounds", apart := false, narrowed := true }
def LevelsRoundsUptoSaid : Prop := levelsRoundsUptoRow.holds Try.pinned (OpenSpec.upto levelsRoundsSpec)

/-- 'evergreenlaw21.LevelsTies', WHERE WHAT IT READS IS OF BULK AT MOST 1048576: true; the input reads as it did. -/
def levelsTiesUptoRow : OpenClaim := { program := "ytkekhgnbdhlmhaa", sum := "298ece9e67b3de2ac2a3efbd0005d43148f8e1d905a417e7101955a6ecdb1908", func := "evergreen/evergreenlaw21.LevelsTies", spec := "levelsTies", apart := false, narrowed := true }
def LevelsTiesUptoSaid : Prop := levelsTiesUptoRow.holds Try.pinned (OpenSpec.upto levelsTiesSpec)

/-- 'evergreenlaw21.LevelsAgain', WHERE WHAT IT READS IS OF BULK AT MOST 1048576: true; the input reads as it did. -/
def levelsAgainUptoRow : OpenClaim := { program := "ytkekhgnbdhlmhaa", sum := "298ece9e67b3de2ac2a3efbd0005d43148f8e1d905a417e7101955a6ecdb1908", func := "evergreen/evergreenlaw21.LevelsAgain", spec := "levelsAgain", apart := false, narrowed := true }
def LevelsAgainUptoSaid : Prop := levelsAgainUptoRow.holds Try.pinned (OpenSpec.upto levelsAgainSpec)

/-- 'evergreenlaw21.LevelsApart', WHERE WHAT IT READS IS OF BULK AT MOST 1048576: true; the input reads as it did. -/
def levelsApartUptoRow : OpenClaim := { program := "ytkekhgnbdhlmhaa", sum := "298ece9e67b3de2ac2a3efbd0005d43148f8e1d905a417e7101955a6ecdb1908", func := "evergreen/evergreenlaw21.LevelsApart", spec := "levelsApart", apart := false, narrowed := true }
def LevelsApartUptoSaid : Prop := levelsApartUptoRow.holds Try.pinned (OpenSpec.upto levelsApartSpec)

/-- 'evergreenlaw21.LevelsSeams', WHERE WHAT IT READS IS OF BULK AT MOST 1048576: true; the input reads as it did. -/
def levelsSeamsUptoRow : OpenClaim := { program := "ytkekhgnbdhlmhaa", sum := "298ece9e67b3de2ac2a3efbd0005d43148f8e1d905a417e7101955a6ecdb1908", func := "evergreen/evergreenlaw21.LevelsSeams", spec := "levelsSeams", apart := false, narrowed := true }
def LevelsSeamsUptoSaid : Prop := levelsSeamsUptoRow.holds Try.pinned (OpenSpec.upto levelsSeamsSpec)

end Rows
end Go.Proofs.Ytkekhgnbdhlmhaa
