/- The small forms of functions of the program, with the equations that say so: written by a program (irtool.py). No condition. -/
import Derived.Test.YtoocnmfodhnpbaaK6
import Derived.Test.YtoocnmfodhnpbaaProg
namespace Go.Proofs.Ytoocnmfodhnpbaa
open Go.EG
abbrev fn_slices_Sort_Sl_api_ID_api_ID : Nat := 67
end Go.Proofs.Ytoocnmfodhnpbaa
