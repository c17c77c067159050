/- The small forms of functions of the program, with the equations that say so: written by a program (irtool.py). No condition. -/
import Derived.Test.YtohlphngnhcbfaaK3
import Derived.Test.YtohlphngnhcbfaaProg
namespace Go.Proofs.Ytohlphngnhcbfaa
open Go.EG
abbrev fn_evergreenlaw16_AccessFinds : Nat := 4
def ir_evergreenlaw16_AccessFinds : C :=
 (.seq
 (.reg
 [⟨(some 8), none, (.mv (.c (.bool false)))⟩])
 (.seq
 (.seq
 (.reg
 [⟨(some 18), none, (.call fn_evergreenlaw16_awake [])⟩, ⟨(some 19), none, (.not (.t 18))⟩, ⟨(some 20), none, (.mv (.t 19))⟩, ⟨(some 21), (some (20, false)), (.mv (.t 0))⟩, ⟨(some 22), (some (20, false)), (.lens (.t 21))⟩, ⟨(some 23), (some (20, false)), (.cmp .gtr .i64 (.t 22) (.c (.int .i64 40)))⟩, ⟨(some 24), none, (.pick (.t 20) (.c (.bool true)) (.t 23))⟩])
 (.cond
 (.t 24)
 (.seq
 (.reg
 [⟨(some 25), none, (.call fn_evergreenlaw16_awake [])⟩, ⟨(some 8), none, (.mv (.t 25))⟩])
 .ret)
 .skip))
 (.seq
 (.reg
 [⟨(some 27), none, (.mv (.t 0))⟩, ⟨(some 28), none, (.mv (.t 1))⟩, ⟨(some 29), none, (.call fn_evergreenlaw16_plain [(.t 27), (.t 28)])⟩, ⟨(some 26), none, (.mv (.t 29))⟩, ⟨(some 30), none, (.ext (.t 26) 0)⟩, ⟨(some 31), none, (.ext (.t 26) 1)⟩, ⟨(some 32), none, (.ext (.t 26) 2)⟩, ⟨(some 33), none, (.ext (.t 26) 3)⟩, ⟨(some 34), none, (.ext (.t 26) 4)⟩, ⟨(some 9), none, (.mv (.t 30))⟩, ⟨(some 10), none, (.mv (.t 31))⟩, ⟨(some 11), none, (.mv (.t 32))⟩, ⟨(some 12), none, (.mv (.t 33))⟩, ⟨(some 13), none, (.mv (.t 34))⟩])
 (.seq
 (.seq
 (.reg
 [⟨(some 35), none, (.mv (.t 12))⟩, ⟨(some 36), none, (.not (.t 35))⟩, ⟨(some 37), none, (.mv (.t 36))⟩, ⟨(some 38), (some (37, false)), (.mv (.t 13))⟩, ⟨(some 39), (some (37, false)), (.not (.t 38))⟩, ⟨(some 40), none, (.pick (.t 37) (.c (.bool true)) (.t 39))⟩])
 (.cond
 (.t 40)
 (.seq
 (.reg
 [⟨(some 41), none, (.mv (.t 12))⟩, ⟨(some 8), none, (.mv (.t 41))⟩])
 .ret)
 .skip))
 (.seq
 (.reg
 [⟨(some 42), none, (.mv (.t 9))⟩, ⟨(some 43), none, (.call fn_P_intern_Store_Len [(.t 42)])⟩, ⟨(some 14), none, (.mv (.t 43))⟩])
 (.seq
 (.reg
 [⟨(some 45), none, (.mv (.t 9))⟩, ⟨(some 46), none, (.mv (.t 10))⟩, ⟨(some 47), none, (.mv (.t 2))⟩, ⟨(some 48), none, (.mv (.t 3))⟩, ⟨(some 49), none, (.call fn_access_Find [(.t 45), (.t 46), (.t 47), (.t 48)])⟩, ⟨(some 44), none, (.mv (.t 49))⟩, ⟨(some 50), none, (.ext (.t 44) 0)⟩, ⟨(some 51), none, (.ext (.t 44) 1)⟩, ⟨(some 15), none, (.mv (.t 50))⟩, ⟨(some 16), none, (.mv (.t 51))⟩])
 (.seq
 (.seq
 (.reg
 [⟨(some 52), none, (.mv (.t 9))⟩, ⟨(some 53), none, (.call fn_P_intern_Store_Len [(.t 52)])⟩, ⟨(some 54), none, (.mv (.t 14))⟩, ⟨(some 55), none, (.cmp .neq .i64 (.t 53) (.t 54))⟩])
 (.cond
 (.t 55)
 (.seq
 (.reg
 [⟨(some 8), none, (.mv (.c (.bool false)))⟩])
 .ret)
 .skip))
 (.seq
 (.seq
 (.reg
 [⟨(some 56), none, (.mv (.t 3))⟩, ⟨(some 57), none, (.cmp .lss .i64 (.t 56) (.c (.int .i64 0)))⟩, ⟨(some 58), none, (.mv (.t 57))⟩, ⟨(some 59), (some (58, false)), (.mv (.t 3))⟩, ⟨(some 60), (some (58, false)), (.mv (.t 11))⟩, ⟨(some 61), (some (58, false)), (.lens (.t 60))⟩, ⟨(some 62), (some (58, false)), (.cmp .gtr .i64 (.t 59) (.t 61))⟩, ⟨(some 63), none, (.pick (.t 58) (.c (.bool true)) (.t 62))⟩])
 (.cond
 (.t 63)
 (.seq
 (.reg
 [⟨(some 64), none, (.mv (.t 16))⟩, ⟨(some 65), none, (.call fn_evergreenbase_Is [(.t 64), (.c (.int .i64 1))])⟩, ⟨(some 66), none, (.mv (.t 65))⟩, ⟨(some 67), (some (66, true)), (.mv (.t 15))⟩, ⟨(some 68), (some (66, true)), (.cmp .eql .i64 (.t 67) (.c (.int .i64 0)))⟩, ⟨(some 69), none, (.pick (.t 66) (.t 68) (.c (.bool false)))⟩, ⟨(some 8), none, (.mv (.t 69))⟩])
 .ret)
 .skip))
 (.seq
 (.reg
 [⟨(some 70), none, (.mv (.t 11))⟩, ⟨(some 71), none, (.mv (.t 2))⟩, ⟨(some 72), none, (.mv (.t 3))⟩, ⟨(some 73), none, (.call fn_evergreenref16_Find [(.t 70), (.t 71), (.t 72)])⟩, ⟨(some 17), none, (.mv (.t 73))⟩])
 (.seq
 (.seq
 (.reg
 [⟨(some 74), none, (.mv (.t 17))⟩, ⟨(some 75), none, (.cmp .lss .i64 (.t 74) (.c (.int .i64 0)))⟩])
 (.cond
 (.t 75)
 (.seq
 (.reg
 [⟨(some 76), none, (.mv (.t 16))⟩, ⟨(some 77), none, (.call fn_evergreenbase_Is [(.t 76), (.c (.int .i64 5))])⟩, ⟨(some 78), none, (.mv (.t 77))⟩, ⟨(some 79), (some (78, true)), (.mv (.t 15))⟩, ⟨(some 80), (some (78, true)), (.cmp .eql .i64 (.t 79) (.c (.int .i64 0)))⟩, ⟨(some 81), none, (.pick (.t 78) (.t 80) (.c (.bool false)))⟩, ⟨(some 8), none, (.mv (.t 81))⟩])
 .ret)
 .skip))
 (.seq
 (.reg
 [⟨(some 82), none, (.mv (.t 16))⟩, ⟨(some 83), none, (.eqn .ifc false (.t 82))⟩, ⟨(some 84), none, (.mv (.t 83))⟩, ⟨(some 85), (some (84, true)), (.mv (.t 15))⟩, ⟨(some 86), (some (84, true)), (.mv (.t 17))⟩, ⟨(some 87), (some (84, true)), (.cmp .eql .i64 (.t 85) (.t 86))⟩, ⟨(some 88), none, (.pick (.t 84) (.t 87) (.c (.bool false)))⟩, ⟨(some 8), none, (.mv (.t 88))⟩])
 .ret)))))))))))
def ts_evergreenlaw16_AccessFinds : List (Nat × Tr) := []
set_option maxRecDepth 100000 in
set_option maxHeartbeats 4000000 in
theorem ok_evergreenlaw16_AccessFinds : irOf Try.prog fn_evergreenlaw16_AccessFinds [] ts_evergreenlaw16_AccessFinds = some (89, [(.t 8)], ir_evergreenlaw16_AccessFinds) := by kernel_rfl
end Go.Proofs.Ytohlphngnhcbfaa
