/- The level of a signature, and sequences around it: the program. -/
import Derived.Test.YtkkhpdkfploodaaDoorK15
import Derived.Test.YtkkhpdkfploodaaDoorK16
import Derived.Test.YtkkhpdkfploodaaDoorK5
namespace Go.Proofs.YtkkhpdkfploodaaDoor
open Go.EG
attribute [local irreducible] CallK QCall Go.Calls
set_option linter.unusedSimpArgs false
set_option linter.unusedVariables false
set_option maxRecDepth 20000
set_option maxHeartbeats 4000000

end Go.Proofs.YtkkhpdkfploodaaDoor
/- Groups 246 levels on: the program. -/
namespace Go.Proofs.YtkkhpdkfploodaaDoor
open Go.EG
attribute [local irreducible] CallK QCall Go.Calls
set_option linter.unusedSimpArgs false
set_option linter.unusedVariables false
set_option maxRecDepth 20000
set_option maxHeartbeats 4000000

end Go.Proofs.YtkkhpdkfploodaaDoor
/- Rules that are there. Plain Lean: no program in sight. -/
namespace Go.Proofs.YtkkhpdkfploodaaDoor
open Go.EG
set_option linter.unusedSimpArgs false
set_option linter.unusedVariables false

end Go.Proofs.YtkkhpdkfploodaaDoor
/- One level after the other: the program. -/
namespace Go.Proofs.YtkkhpdkfploodaaDoor
open Go.EG
attribute [local irreducible] CallK QCall Go.Calls
set_option linter.unusedSimpArgs false
set_option linter.unusedVariables false
set_option maxRecDepth 20000
set_option maxHeartbeats 4000000

/-! ### A pair level -/

structure PdG where
  i : Nat
  at_ : Nat
  f1 : List Nat
  f2 : List Nat
end Go.Proofs.YtkkhpdkfploodaaDoor
/- Each sequence follows from the one below: the program. -/
namespace Go.Proofs.YtkkhpdkfploodaaDoor
open Go.EG
attribute [local irreducible] CallK QCall Go.Calls
set_option linter.unusedSimpArgs false
set_option linter.unusedVariables false
set_option maxRecDepth 20000
set_option maxHeartbeats 4000000

structure StO where
  i : Nat
  a : Option Addr
  c : Nat
structure StK where
  k : Nat
  a : Option Addr
  c : Nat
end Go.Proofs.YtkkhpdkfploodaaDoor
/- A pair of letters, many times. Plain Lean: no program in sight. -/
namespace Go.Proofs.YtkkhpdkfploodaaDoor
open Go.EG
set_option linter.unusedSimpArgs false
set_option linter.unusedVariables false

end Go.Proofs.YtkkhpdkfploodaaDoor
/- The sequences of a power of a pair of letters: the program. -/
namespace Go.Proofs.YtkkhpdkfploodaaDoor
open Go.EG
attribute [local irreducible] CallK QCall Go.Calls
set_option linter.unusedSimpArgs false
set_option linter.unusedVariables false
set_option maxRecDepth 20000
set_option maxHeartbeats 4000000

end Go.Proofs.YtkkhpdkfploodaaDoor
