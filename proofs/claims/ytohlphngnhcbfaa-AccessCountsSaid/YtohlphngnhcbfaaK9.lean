/- The small forms of functions of the program, with the equations that say so: written by a program (irtool.py). No condition. -/
import Derived.Test.YtohlphngnhcbfaaK3
import Derived.Test.YtohlphngnhcbfaaProg
namespace Go.Proofs.Ytohlphngnhcbfaa
open Go.EG
abbrev fn_evergreenlaw16_AccessCounts : Nat := 3
def ir_evergreenlaw16_AccessCounts : C :=
 (.seq
 (.reg
 [⟨(some 7), none, (.box 7 ty_api_Letters (.t 2))⟩, ⟨(some 10), none, (.mv (.c (.bool false)))⟩])
 (.seq
 (.seq
 (.reg
 [⟨(some 19), none, (.call fn_evergreenlaw16_awake [])⟩, ⟨(some 20), none, (.not (.t 19))⟩, ⟨(some 21), none, (.mv (.t 20))⟩, ⟨(some 22), (some (21, false)), (.mv (.t 0))⟩, ⟨(some 23), (some (21, false)), (.lens (.t 22))⟩, ⟨(some 24), (some (21, false)), (.cmp .gtr .i64 (.t 23) (.c (.int .i64 40)))⟩, ⟨(some 25), none, (.pick (.t 21) (.c (.bool true)) (.t 24))⟩])
 (.cond
 (.t 25)
 (.seq
 (.reg
 [⟨(some 26), none, (.call fn_evergreenlaw16_awake [])⟩, ⟨(some 10), none, (.mv (.t 26))⟩])
 .ret)
 .skip))
 (.seq
 (.reg
 [⟨(some 28), none, (.mv (.t 0))⟩, ⟨(some 29), none, (.mv (.t 1))⟩, ⟨(some 30), none, (.call fn_evergreenlaw16_plain [(.t 28), (.t 29)])⟩, ⟨(some 27), none, (.mv (.t 30))⟩, ⟨(some 31), none, (.ext (.t 27) 0)⟩, ⟨(some 32), none, (.ext (.t 27) 1)⟩, ⟨(some 33), none, (.ext (.t 27) 2)⟩, ⟨(some 34), none, (.ext (.t 27) 3)⟩, ⟨(some 35), none, (.ext (.t 27) 4)⟩, ⟨(some 11), none, (.mv (.t 31))⟩, ⟨(some 12), none, (.mv (.t 32))⟩, ⟨(some 13), none, (.mv (.t 33))⟩, ⟨(some 14), none, (.mv (.t 34))⟩, ⟨(some 15), none, (.mv (.t 35))⟩])
 (.seq
 (.seq
 (.reg
 [⟨(some 36), none, (.mv (.t 14))⟩, ⟨(some 37), none, (.not (.t 36))⟩, ⟨(some 38), none, (.mv (.t 37))⟩, ⟨(some 39), (some (38, false)), (.mv (.t 15))⟩, ⟨(some 40), (some (38, false)), (.not (.t 39))⟩, ⟨(some 41), none, (.pick (.t 38) (.c (.bool true)) (.t 40))⟩])
 (.cond
 (.t 41)
 (.seq
 (.reg
 [⟨(some 42), none, (.mv (.t 14))⟩, ⟨(some 10), none, (.mv (.t 42))⟩])
 .ret)
 .skip))
 (.seq
 (.reg
 [⟨(some 43), none, (.mv (.t 11))⟩, ⟨(some 44), none, (.call fn_P_intern_Store_Len [(.t 43)])⟩, ⟨(some 16), none, (.mv (.t 44))⟩])
 (.seq
 (.reg
 [⟨(some 46), none, (.mv (.t 11))⟩, ⟨(some 47), none, (.mv (.t 12))⟩, ⟨(some 48), none, (.lda 4 [(.int .u64), (.int .u64), (.int .u64), (.int .u64)] (.t 7))⟩, ⟨(some 49), none, (.mv (.t 3))⟩, ⟨(some 50), none, (.mv (.t 4))⟩, ⟨(some 51), none, (.call fn_access_Count [(.t 46), (.t 47), (.t 48), (.t 49), (.t 50)])⟩, ⟨(some 45), none, (.mv (.t 51))⟩, ⟨(some 52), none, (.ext (.t 45) 0)⟩, ⟨(some 53), none, (.ext (.t 45) 1)⟩, ⟨(some 17), none, (.mv (.t 52))⟩, ⟨(some 18), none, (.mv (.t 53))⟩])
 (.seq
 (.seq
 (.reg
 [⟨(some 54), none, (.mv (.t 3))⟩, ⟨(some 55), none, (.mv (.t 4))⟩, ⟨(some 56), none, (.mv (.t 13))⟩, ⟨(some 57), none, (.lens (.t 56))⟩, ⟨(some 58), none, (.call fn_evergreenref16_Valid [(.t 54), (.t 55), (.t 57)])⟩, ⟨(some 59), none, (.not (.t 58))⟩])
 (.cond
 (.t 59)
 (.seq
 (.reg
 [⟨(some 60), none, (.mv (.t 18))⟩, ⟨(some 61), none, (.call fn_evergreenbase_Is [(.t 60), (.c (.int .i64 1))])⟩, ⟨(some 62), none, (.mv (.t 61))⟩, ⟨(some 63), (some (62, true)), (.mv (.t 17))⟩, ⟨(some 64), (some (62, true)), (.cmp .eql .i64 (.t 63) (.c (.int .i64 0)))⟩, ⟨(some 65), none, (.pick (.t 62) (.t 64) (.c (.bool false)))⟩, ⟨(some 66), none, (.mv (.t 65))⟩, ⟨(some 67), (some (66, true)), (.mv (.t 11))⟩, ⟨(some 68), (some (66, true)), (.call fn_P_intern_Store_Len [(.t 67)])⟩, ⟨(some 69), (some (66, true)), (.mv (.t 16))⟩, ⟨(some 70), (some (66, true)), (.cmp .eql .i64 (.t 68) (.t 69))⟩, ⟨(some 71), none, (.pick (.t 66) (.t 70) (.c (.bool false)))⟩, ⟨(some 10), none, (.mv (.t 71))⟩])
 .ret)
 .skip))
 (.seq
 (.drw
 [⟨(some 72), none, (.mv (.t 18))⟩, ⟨(some 73), none, (.eqn .ifc false (.t 72))⟩, ⟨(some 74), none, (.mv (.t 73))⟩, ⟨(some 75), (some (74, true)), (.mv (.t 17))⟩, ⟨(some 76), (some (74, true)), (.mv (.t 13))⟩, ⟨(some 77), (some (74, true)), (.mv (.t 3))⟩, ⟨(some 78), (some (74, true)), (.mv (.t 3))⟩, ⟨(some 79), (some (74, true)), (.mv (.t 4))⟩, ⟨(some 80), (some (74, true)), (.ar .add .i64 (.t 78) (.t 79))⟩, ⟨(some 81), (some (74, true)), (.slc 1 (.t 76) (some (.t 77)) (some (.t 80)))⟩, ⟨(some 82), (some (74, true)), (.lda 4 [(.int .u64), (.int .u64), (.int .u64), (.int .u64)] (.t 7))⟩, ⟨(some 83), (some (74, true)), (.call fn_evergreenref16_Count [(.t 81), (.t 82)])⟩, ⟨(some 84), (some (74, true)), (.cmp .eql .i64 (.t 75) (.t 83))⟩, ⟨(some 85), none, (.pick (.t 74) (.t 84) (.c (.bool false)))⟩, ⟨(some 86), none, (.mv (.t 85))⟩, ⟨(some 87), (some (86, true)), (.mv (.t 11))⟩, ⟨(some 88), (some (86, true)), (.call fn_P_intern_Store_Len [(.t 87)])⟩, ⟨(some 89), (some (86, true)), (.mv (.t 16))⟩, ⟨(some 90), (some (86, true)), (.cmp .eql .i64 (.t 88) (.t 89))⟩, ⟨(some 91), none, (.pick (.t 86) (.t 90) (.c (.bool false)))⟩, ⟨(some 10), none, (.mv (.t 91))⟩]
 (.mov 0 (.take 1 (.mov 2 (.mov 3 (.mov 4 (.mov 5 (.mov 6 (.mov 7 (.take 8 (.take 9 (.take 10 (.bar 11 (.take 12 (.take 13 (.mov 14 (.mov 15 (.mov 17 (.bar 16 (.take 18 (.take 19 (.mov 20 .done))))))))))))))))))))))
 .ret))))))))
def ts_evergreenlaw16_AccessCounts : List (Nat × Tr) := [(10, (.mov 0 (.take 1 (.mov 2 (.mov 3 (.mov 4 (.mov 5 (.mov 6 (.mov 7 (.take 8 (.take 9 (.take 10 (.bar 11 (.take 12 (.take 13 (.mov 14 (.mov 15 (.mov 17 (.bar 16 (.take 18 (.take 19 (.mov 20 .done))))))))))))))))))))))]
set_option maxRecDepth 100000 in
set_option maxHeartbeats 4000000 in
theorem ok_evergreenlaw16_AccessCounts : irOf Try.prog fn_evergreenlaw16_AccessCounts [] ts_evergreenlaw16_AccessCounts = some (92, [(.t 10)], ir_evergreenlaw16_AccessCounts) := by kernel_rfl
end Go.Proofs.Ytohlphngnhcbfaa
