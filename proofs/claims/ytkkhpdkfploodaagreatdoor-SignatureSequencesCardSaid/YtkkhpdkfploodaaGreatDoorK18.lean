/- The level of a signature, and sequences around it: the program. -/
import Derived.Test.YtkkhpdkfploodaaGreatDoorK16
import Derived.Test.YtkkhpdkfploodaaGreatDoorK17
import Derived.Test.YtkkhpdkfploodaaGreatDoorK5
namespace Go.Proofs.YtkkhpdkfploodaaGreatDoor
open Go.EG
attribute [local irreducible] CallK QCall Go.Calls
set_option linter.unusedSimpArgs false
set_option linter.unusedVariables false
set_option maxRecDepth 20000
set_option maxHeartbeats 4000000
end Go.Proofs.YtkkhpdkfploodaaGreatDoor
/- Groups 246 levels on: the program. -/
namespace Go.Proofs.YtkkhpdkfploodaaGreatDoor
open Go.EG
attribute [local irreducible] CallK QCall Go.Calls
set_option linter.unusedSimpArgs false
set_option linter.unusedVariables false
set_option maxRecDepth 20000
set_option maxHeartbeats 4000000
end Go.Proofs.YtkkhpdkfploodaaGreatDoor
/- Rules that are there. Plain Lean: no program in sight. -/
namespace Go.Proofs.YtkkhpdkfploodaaGreatDoor
open Go.EG
set_option linter.unusedSimpArgs false
set_option linter.unusedVariables false
end Go.Proofs.YtkkhpdkfploodaaGreatDoor
/- One level after the other: the program. -/
namespace Go.Proofs.YtkkhpdkfploodaaGreatDoor
open Go.EG
attribute [local irreducible] CallK QCall Go.Calls
set_option linter.unusedSimpArgs false
set_option linter.unusedVariables false
set_option maxRecDepth 20000
set_option maxHeartbeats 4000000
structure PdG where
  i : Nat
  at_ : Nat
  f1 : List Nat
  f2 : List Nat
end Go.Proofs.YtkkhpdkfploodaaGreatDoor
/- Each sequence follows from the one below: the program. -/
namespace Go.Proofs.YtkkhpdkfploodaaGreatDoor
open Go.EG
attribute [local irreducible] CallK QCall Go.Calls
set_option linter.unusedSimpArgs false
set_option linter.unusedVariables false
set_option maxRecDepth 20000
set_option maxHeartbeats 4000000
structure StO where
  i : Nat
  a : Option Addr
  c : Nat
structure StK where
  k : Nat
  a : Option Addr
  c : Nat
end Go.Proofs.YtkkhpdkfploodaaGreatDoor
/- A pair of letters,many times. Plain Lean: no program in sight. -/
namespace Go.Proofs.YtkkhpdkfploodaaGreatDoor
open Go.EG
set_option linter.unusedSimpArgs false
set_option linter.unusedVariables false
end Go.Proofs.YtkkhpdkfploodaaGreatDoor
/- The sequences of a power of a pair of letters: the program. -/
namespace Go.Proofs.YtkkhpdkfploodaaGreatDoor
open Go.EG
attribute [local irreducible] CallK QCall Go.Calls
set_option linter.unusedSimpArgs false
set_option linter.unusedVariables false
set_option maxRecDepth 20000
set_option maxHeartbeats 4000000
end Go.Proofs.YtkkhpdkfploodaaGreatDoor
