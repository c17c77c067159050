/- The small forms of functions of the program, with the equations that say so: written by a program (irtool.py). No condition. -/
import Derived.Test.YtkkhpdkfploodaaDoorK3
import Derived.Test.YtkkhpdkfploodaaDoorProg
namespace Go.Proofs.YtkkhpdkfploodaaDoor
open Go.EG
abbrev fn_evergreenlaw22_SignatureUnique : Nat := 3
def ir_evergreenlaw22_SignatureUnique : C :=
 (.seq
 (.reg
 [⟨(some 4), none, (.mv (.c (.bool false)))⟩])
 (.seq
 (.seq
 (.reg
 [⟨(some 10), none, (.mv (.t 0))⟩, ⟨(some 11), none, (.lens (.t 10))⟩, ⟨(some 12), none, (.cmp .gtr .i64 (.t 11) (.c (.int .i64 1000)))⟩, ⟨(some 13), none, (.mv (.t 12))⟩, ⟨(some 14), (some (13, false)), (.mv (.t 1))⟩, ⟨(some 15), (some (13, false)), (.lens (.t 14))⟩, ⟨(some 16), (some (13, false)), (.cmp .gtr .i64 (.t 15) (.c (.int .i64 1000)))⟩, ⟨(some 17), none, (.pick (.t 13) (.c (.bool true)) (.t 16))⟩])
 (.cond
 (.t 17)
 (.seq
 (.reg
 [⟨(some 4), none, (.mv (.c (.bool true)))⟩])
 .ret)
 .skip))
 (.seq
 (.reg
 [⟨(some 18), none, (.call fn_intern_New [(.c (.int .i64 20000))])⟩, ⟨(some 19), none, (.call fn_signature_New [(.t 18)])⟩, ⟨(some 5), none, (.mv (.t 19))⟩])
 (.seq
 (.reg
 [⟨(some 21), none, (.mv (.t 5))⟩, ⟨(some 22), none, (.mv (.t 0))⟩, ⟨(some 23), none, (.call fn_evergreenlaw22_copied [(.t 22)])⟩, ⟨(some 24), none, (.call fn_P_signature_Parser_Of [(.t 21), (.t 23)])⟩, ⟨(some 20), none, (.mv (.t 24))⟩, ⟨(some 25), none, (.ext (.t 20) 0)⟩, ⟨(some 26), none, (.ext (.t 20) 1)⟩, ⟨(some 6), none, (.mv (.t 25))⟩, ⟨(some 7), none, (.mv (.t 26))⟩])
 (.seq
 (.reg
 [⟨(some 28), none, (.mv (.t 5))⟩, ⟨(some 29), none, (.mv (.t 1))⟩, ⟨(some 30), none, (.call fn_evergreenlaw22_copied [(.t 29)])⟩, ⟨(some 31), none, (.call fn_P_signature_Parser_Of [(.t 28), (.t 30)])⟩, ⟨(some 27), none, (.mv (.t 31))⟩, ⟨(some 32), none, (.ext (.t 27) 0)⟩, ⟨(some 33), none, (.ext (.t 27) 1)⟩, ⟨(some 8), none, (.mv (.t 32))⟩, ⟨(some 9), none, (.mv (.t 33))⟩])
 (.seq
 (.reg
 [⟨(some 34), none, (.call fn_evergreenlaw22_awake [])⟩, ⟨(some 35), none, (.mv (.t 34))⟩, ⟨(some 36), (some (35, true)), (.mv (.t 7))⟩, ⟨(some 37), (some (35, true)), (.eqn .ifc false (.t 36))⟩, ⟨(some 38), none, (.pick (.t 35) (.t 37) (.c (.bool false)))⟩, ⟨(some 39), none, (.mv (.t 38))⟩, ⟨(some 40), (some (39, true)), (.mv (.t 9))⟩, ⟨(some 41), (some (39, true)), (.eqn .ifc false (.t 40))⟩, ⟨(some 42), none, (.pick (.t 39) (.t 41) (.c (.bool false)))⟩, ⟨(some 43), none, (.mv (.t 42))⟩, ⟨(some 44), (some (43, true)), (.mv (.t 6))⟩, ⟨(some 45), (some (43, true)), (.mv (.t 8))⟩, ⟨(some 46), (some (43, true)), (.cmp .eql .i64 (.t 44) (.t 45))⟩, ⟨(some 47), (some (43, true)), (.mv (.t 0))⟩, ⟨(some 48), (some (43, true)), (.cvs (.t 47))⟩, ⟨(some 49), (some (43, true)), (.mv (.t 1))⟩, ⟨(some 50), (some (43, true)), (.cvs (.t 49))⟩, ⟨(some 51), (some (43, true)), (.eqs false (.t 48) (.t 50))⟩, ⟨(some 52), (some (43, true)), (.eqb false (.t 46) (.t 51))⟩, ⟨(some 53), none, (.pick (.t 43) (.t 52) (.c (.bool false)))⟩, ⟨(some 54), none, (.mv (.t 53))⟩, ⟨(some 55), (some (54, true)), (.mv (.t 6))⟩, ⟨(some 56), (some (54, true)), (.cmp .eql .i64 (.t 55) (.c (.int .i64 0)))⟩, ⟨(some 57), (some (54, true)), (.mv (.t 0))⟩, ⟨(some 58), (some (54, true)), (.lens (.t 57))⟩, ⟨(some 59), (some (54, true)), (.cmp .eql .i64 (.t 58) (.c (.int .i64 0)))⟩, ⟨(some 60), (some (54, true)), (.eqb false (.t 56) (.t 59))⟩, ⟨(some 61), none, (.pick (.t 54) (.t 60) (.c (.bool false)))⟩, ⟨(some 4), none, (.mv (.t 61))⟩])
 .ret))))))
def ts_evergreenlaw22_SignatureUnique : List (Nat × Tr) := []
set_option maxRecDepth 100000 in
set_option maxHeartbeats 4000000 in
theorem ok_evergreenlaw22_SignatureUnique : irOf Tryd.prog fn_evergreenlaw22_SignatureUnique [] ts_evergreenlaw22_SignatureUnique = some (62, [(.t 4)], ir_evergreenlaw22_SignatureUnique) := by kernel_rfl
end Go.Proofs.YtkkhpdkfploodaaDoor
