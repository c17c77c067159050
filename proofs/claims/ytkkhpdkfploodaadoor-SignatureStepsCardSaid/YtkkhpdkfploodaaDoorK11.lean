/- What a rule reaches, and Export: the program. -/
import Derived.Test.YtkkhpdkfploodaaDoorK10
import Derived.Test.YtkkhpdkfploodaaDoorK5
import Derived.Test.YtkkhpdkfploodaaDoorK4
namespace Go.Proofs.YtkkhpdkfploodaaDoor
open Go.EG
attribute [local irreducible] CallK QCall Go.Calls
set_option linter.unusedSimpArgs false
set_option linter.unusedVariables false
set_option maxRecDepth 20000
set_option maxHeartbeats 4000000

/-! ### Maps of numbers -/

theorem keyEq_int {x y : Int} : keyEq (.int .i64 x) (.int .i64 y) = true ↔ x = y := by simp [keyEq]
/-! ### reach -/

structure RchG where
  i : Nat
  L : List Int
  a : Option Addr
  c : Nat
structure RchJ where
  j : Nat
  L : List Int
  a : Option Addr
  c : Nat

/-! ### Export -/

structure XpG where
  i : Nat
  a : Option Addr
  c : Nat
end Go.Proofs.YtkkhpdkfploodaaDoor
