/- What a parser refuses: the program. -/
import Derived.Test.YtkkhpdkfploodaaDoorK7
import Derived.Test.YtkkhpdkfploodaaDoorK8
namespace Go.Proofs.YtkkhpdkfploodaaDoor
open Go.EG
attribute [local irreducible] CallK QCall Go.Calls
set_option linter.unusedSimpArgs false
set_option linter.unusedVariables false
set_option maxRecDepth 20000
set_option maxHeartbeats 4000000

end Go.Proofs.YtkkhpdkfploodaaDoor
