/-
  No cell of these rows narrows 'for every input' (looked for: loops, veiled, ifaces, maps, wideKeys, modest, calm, conditions, laid).
  DERIVED. THE GIVEN ROWS OF THIS SEAT. 6 by the template 'for every input the law returns true; each argument reads behind the call as it read before'; 0 by the template 'total and deterministic' (their statements: YtohlphngnhcbfaaTotals.lean).
  GIVEN WITH THE SEED: the statements are not yours to turn. If you find one false, say at which input.
  Laid BY PROGRAM, IN A SANDBOX (cutbox-rows.mjs): the forced cells as the released guide's own fill.sh prints them over the translation 19abd149204592a7… (all of the seat's roots in one cut). By AI agents, Wed Nov 11 2026. No macro, syntax, notation, axiom, sorry.
-/
import Derived.Test.YtohlphngnhcbfaaChecked
import GoSem.Claim
import GoSem.ClaimJoined
import GoSem.ClaimMapViews
import Derived.JoinedTies
import Derived.KernelRfl
namespace Go.Proofs.Ytohlphngnhcbfaa
/- THE CELL 'sum', in the pinned program and in every row, IS THE sha256 OF THE DUMP (.gsa) THAT YtohlphngnhcbfaaProg.lean LOADS. Nothing in Lean hashes anything: it is a label: what it is worth is what the hold of that sum in a sandbox is worth. -/
noncomputable def Try.pinned : Pinned := { name := "ytohlphngnhcbfaa", sum := "19abd149204592a76d2fb1e33af53351d0ea8b47814c5687147b5fae22748237", checked := Try.checked }
namespace Rows
def none {H : Type} : Left H := { results := [], args := [] }

/-- 'evergreenlaw16.AccessCounts': WHATEVER THE INPUT: true; the input reads as it did. -/
def accessCountsSpec : ChangeSpec := { name := "accessCounts", fn := fun _ => fun
  | [d1, d2, d3, d4, d5] => { results := [.lit (.bool true)], args := [d1, d2, d3, d4, d5] }
  | _ => none }
def accessCountsRow : OpenClaim := { program := "ytohlphngnhcbfaa", sum := "19abd149204592a76d2fb1e33af53351d0ea8b47814c5687147b5fae22748237", func := "evergreen/evergreenlaw16.AccessCounts", spec := "accessCounts", unfollowed := true, recurses := true, plainKeys := false, apart := false }
def AccessCountsSaid : Prop := accessCountsRow.holds Try.pinned (OpenSpec.ofChange accessCountsSpec)

/-- ITS FALSE NEIGHBOUR: 'it returns false'. Refute it at one input. -/
def accessCountsWrong : ChangeSpec := { name := "accessCounts", fn := fun _ => fun
  | [d1, d2, d3, d4, d5] => { results := [.lit (.bool false)], args := [d1, d2, d3, d4, d5] }
  | _ => none }
def AccessCountsWrongFalsely : Prop := accessCountsRow.holds Try.pinned (OpenSpec.ofChange accessCountsWrong)

/-- 'evergreenlaw16.AccessFinds': WHATEVER THE INPUT: true; the input reads as it did. -/
def accessFindsSpec : ChangeSpec := { name := "accessFinds", fn := fun _ => fun
  | [d1, d2, d3, d4] => { results := [.lit (.bool true)], args := [d1, d2, d3, d4] }
  | _ => none }
def accessFindsRow : OpenClaim := { program := "ytohlphngnhcbfaa", sum := "19abd149204592a76d2fb1e33af53351d0ea8b47814c5687147b5fae22748237", func := "evergreen/evergreenlaw16.AccessFinds", spec := "accessFinds", unfollowed := true, recurses := true, plainKeys := false, apart := false }
def AccessFindsSaid : Prop := accessFindsRow.holds Try.pinned (OpenSpec.ofChange accessFindsSpec)

/-- ITS FALSE NEIGHBOUR: 'it returns false'. Refute it at one input. -/
def accessFindsWrong : ChangeSpec := { name := "accessFinds", fn := fun _ => fun
  | [d1, d2, d3, d4] => { results := [.lit (.bool false)], args := [d1, d2, d3, d4] }
  | _ => none }
def AccessFindsWrongFalsely : Prop := accessFindsRow.holds Try.pinned (OpenSpec.ofChange accessFindsWrong)

/-- 'evergreenlaw19.LinesSums': WHATEVER THE INPUT: true; the input reads as it did. -/
def linesSumsSpec : ChangeSpec := { name := "linesSums", fn := fun _ => fun
  | [d1, d2, d3, d4, d5] => { results := [.lit (.bool true)], args := [d1, d2, d3, d4, d5] }
  | _ => none }
def linesSumsRow : OpenClaim := { program := "ytohlphngnhcbfaa", sum := "19abd149204592a76d2fb1e33af53351d0ea8b47814c5687147b5fae22748237", func := "evergreen/evergreenlaw19.LinesSums", spec := "linesSums", unfollowed := true, recurses := true, plainKeys := false, apart := false }
def LinesSumsSaid : Prop := linesSumsRow.holds Try.pinned (OpenSpec.ofChange linesSumsSpec)

/-- ITS FALSE NEIGHBOUR: 'it returns false'. Refute it at one input. -/
def linesSumsWrong : ChangeSpec := { name := "linesSums", fn := fun _ => fun
  | [d1, d2, d3, d4, d5] => { results := [.lit (.bool false)], args := [d1, d2, d3, d4, d5] }
  | _ => none }
def LinesSumsWrongFalsely : Prop := linesSumsRow.holds Try.pinned (OpenSpec.ofChange linesSumsWrong)

/-- 'evergreenlaw16.AccessSums': WHATEVER THE INPUT: true; the input reads as it did. -/
def accessSumsSpec : ChangeSpec := { name := "accessSums", fn := fun _ => fun
  | [d1, d2, d3, d4, d5, d6] => { results := [.lit (.bool true)], args := [d1, d2, d3, d4, d5, d6] }
  | _ => none }
def accessSumsRow : OpenClaim := { program := "ytohlphngnhcbfaa", sum := "19abd149204592a76d2fb1e33af53351d0ea8b47814c5687147b5fae22748237", func := "evergreen/evergreenlaw16.AccessSums", spec := "accessSums", unfollowed := true, recurses := true, plainKeys := false, apart := false }
def AccessSumsSaid : Prop := accessSumsRow.holds Try.pinned (OpenSpec.ofChange accessSumsSpec)

/-- ITS FALSE NEIGHBOUR: 'it returns false'. Refute it at one input. -/
def accessSumsWrong : ChangeSpec := { name := "accessSums", fn := fun _ => fun
  | [d1, d2, d3, d4, d5, d6] => { results := [.lit (.bool false)], args := [d1, d2, d3, d4, d5, d6] }
  | _ => none }
def AccessSumsWrongFalsely : Prop := accessSumsRow.holds Try.pinned (OpenSpec.ofChange accessSumsWrong)

/-- 'evergreenlaw16.AccessNext': WHATEVER THE INPUT: true; the input reads as it did. -/
def accessNextSpec : ChangeSpec := { name := "accessNext", fn := fun _ => fun
  | [d1, d2, d3, d4] => { results := [.lit (.bool true)], args := [d1, d2, d3, d4] }
  | _ => none }
def accessNextRow : OpenClaim := { program := "ytohlphngnhcbfaa", sum := "19abd149204592a76d2fb1e33af53351d0ea8b47814c5687147b5fae22748237", func := "evergreen/evergreenlaw16.AccessNext", spec := "accessNext", unfollowed := true, recurses := true, plainKeys := false, apart := false }
def AccessNextSaid : Prop := accessNextRow.holds Try.pinned (OpenSpec.ofChange accessNextSpec)

/-- ITS FALSE NEIGHBOUR: 'it returns false'. Refute it at one input. -/
def accessNextWrong : ChangeSpec := { name := "accessNext", fn := fun _ => fun
  | [d1, d2, d3, d4] => { results := [.lit (.bool false)], args := [d1, d2, d3, d4] }
  | _ => none }
def AccessNextWrongFalsely : Prop := accessNextRow.holds Try.pinned (OpenSpec.ofChange accessNextWrong)

/-- 'evergreenlaw16.AccessLimits': WHATEVER THE INPUT: true; the input reads as it did. -/
def accessLimitsSpec : ChangeSpec := { name := "accessLimits", fn := fun _ => fun
  | [d1, d2, d3] => { results := [.lit (.bool true)], args := [d1, d2, d3] }
  | _ => none }
def accessLimitsRow : OpenClaim := { program := "ytohlphngnhcbfaa", sum := "19abd149204592a76d2fb1e33af53351d0ea8b47814c5687147b5fae22748237", func := "evergreen/evergreenlaw16.AccessLimits", spec := "accessLimits", unfollowed := true, recurses := true, plainKeys := false, apart := false }
def AccessLimitsSaid : Prop := accessLimitsRow.holds Try.pinned (OpenSpec.ofChange accessLimitsSpec)

/-- ITS FALSE NEIGHBOUR: 'it returns false'. Refute it at one input. -/
def accessLimitsWrong : ChangeSpec := { name := "accessLimits", fn := fun _ => fun
  | [d1, d2, d3] => { results := [.lit (.bool false)], args := [d1, d2, d3] }
  | _ => none }
def AccessLimitsWrongFalsely : Prop := accessLimitsRow.holds Try.pinned (OpenSpec.ofChange accessLimitsWrong)

/- THE SECOND FORM. 'bulk': how many values and letters a reading holds, each counted each time it is reached (what is shared counts as often as it is met; a slice's spare places count too). A statement '..UptoSaid' is the law's where the arguments, and the package variables that the reading takes, are together of bulk at most 1048576: NARROWER than '..Said'. Prove '..Said' where nothing that the law and all that it calls make is longer than what came in: it says more and counts as full. Else prove '..UptoSaid'. A law counts once. -/
mutual
def uptoBulk {H : Type} : DataW H → Nat
  | .lit (.string bytes) => bytes.length + 1
  | .lit _ => 1
  | .nil => 1
  | .ptr d => uptoBulk d + 1
  | .slice elems spare => uptoBulkAll elems + uptoBulkAll spare + 1
  | .agg parts => uptoBulkAll parts + 1
  | .iface _ d => uptoBulk d + 1
  | .map entries => uptoBulkEntries entries + 1
  | .held _ => 1
def uptoBulkAll {H : Type} : List (DataW H) → Nat
  | [] => 0
  | d :: r => uptoBulk d + uptoBulkAll r
def uptoBulkEntries {H : Type} : List (Lit × DataW H) → Nat
  | [] => 0
  | x :: r => uptoBulkEntry x + uptoBulkEntries r
def uptoBulkEntry {H : Type} : Lit × DataW H → Nat
  | (.string bytes, d) => bytes.length + uptoBulk d + 1
  | (_, d) => uptoBulk d + 1
 end
def uptoSmall : (H : Type) → List (DataW H) → Bool := fun _ ds => decide (uptoBulkAll ds ≤ 1048576)
def OpenSpec.upto (s : _root_.Go.ChangeSpec) : _root_.Go.OpenSpec := { _root_.Go.OpenSpec.ofChange s with cond := some uptoSmall }

/-- 'evergreenlaw16.AccessCounts', WHERE WHAT IT READS IS OF BULK AT MOST 1048576: true; the input reads as it did. -/
def accessCountsUptoRow : OpenClaim := { program := "ytohlphngnhcbfaa", sum := "19abd149204592a76d2fb1e33af53351d0ea8b47814c5687147b5fae22748237", func := "evergreen/evergreenlaw16.AccessCounts", spec := "accessCounts", unfollowed := true, recurses := true, plainKeys := false, apart := false, narrowed := true }
def AccessCountsUptoSaid : Prop := accessCountsUptoRow.holds Try.pinned (OpenSpec.upto accessCountsSpec)

/-- 'evergreenlaw16.AccessFinds', WHERE WHAT IT READS IS OF BULK AT MOST 1048576: true; the input reads as it did. -/
def accessFindsUptoRow : OpenClaim := { program := "ytohlphngnhcbfaa", sum := "19abd149204592a76d2fb1e33af53351d0ea8b47814c5687147b5fae22748237", func := "evergreen/evergreenlaw16.AccessFinds", spec := "accessFinds", unfollowed := true, recurses := true, plainKeys := false, apart := false, narrowed := true }
def AccessFindsUptoSaid : Prop := accessFindsUptoRow.holds Try.pinned (OpenSpec.upto accessFindsSpec)

/-- 'evergreenlaw19.LinesSums', WHERE WHAT IT READS IS OF BULK AT MOST 1048576: true; the input reads as it did. -/
def linesSumsUptoRow : OpenClaim := { program := "ytohlphngnhcbfaa", sum := "19abd149204592a76d2fb1e33af53351d0ea8b47814c5687147b5fae22748237", func := "evergreen/evergreenlaw19.LinesSums", spec := "linesSums", unfollowed := true, recurses := true, plainKeys := false, apart := false, narrowed := true }
def LinesSumsUptoSaid : Prop := linesSumsUptoRow.holds Try.pinned (OpenSpec.upto linesSumsSpec)

/-- 'evergreenlaw16.AccessSums', WHERE WHAT IT READS IS OF BULK AT MOST 1048576: true; the input reads as it did. -/
def accessSumsUptoRow : OpenClaim := { program := "ytohlphngnhcbfaa", sum := "19abd149204592a76d2fb1e33af53351d0ea8b47814c5687147b5fae22748237", func := "evergreen/evergreenlaw16.AccessSums", spec := "accessSums", unfollowed := true, recurses := true, plainKeys := false, apart := false, narrowed := true }
def AccessSumsUptoSaid : Prop := accessSumsUptoRow.holds Try.pinned (OpenSpec.upto accessSumsSpec)

/-- 'evergreenlaw16.AccessNext', WHERE WHAT IT READS IS OF BULK AT MOST 1048576: true; the input reads as it did. -/
def accessNextUptoRow : OpenClaim := { program := "ytohlphngnhcbfaa", sum := "19abd149204592a76d2fb1e33af53351d0ea8b47814c5687147b5fae22748237", func := "evergreen/evergreenlaw16.AccessNext", spec := "accessNext", unfollowed := true, recurses := true, plainKeys := false, apart := false, narrowed := true }
def AccessNextUptoSaid : Prop := accessNextUptoRow.holds Try.pinned (OpenSpec.upto accessNextSpec)

/-- 'evergreenlaw16.AccessLimits', WHERE WHAT IT READS IS OF BULK AT MOST 1048576: true; the input reads as it did. -/
def accessLimitsUptoRow : OpenClaim := { program := "ytohlphngnhcbfaa", sum := "19abd149204592a76d2fb1e33af53351d0ea8b47814c5687147b5fae22748237", func := "evergreen/evergreenlaw16.AccessLimits", spec := "accessLimits", unfollowed := true, recurses := true, plainKeys := false, apart := false, narrowed := true }
def AccessLimitsUptoSaid : Prop := accessLimitsUptoRow.holds Try.pinned (OpenSpec.upto accessLimitsSpec)

end Rows
end Go.Proofs.Ytohlphngnhcbfaa
