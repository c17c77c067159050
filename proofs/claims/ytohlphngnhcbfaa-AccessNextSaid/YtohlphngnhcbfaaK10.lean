/- The small forms of functions of the program, with the equations that say so: written by a program (irtool.py). No condition. -/
import Derived.Test.YtohlphngnhcbfaaK3
import Derived.Test.YtohlphngnhcbfaaProg
namespace Go.Proofs.Ytohlphngnhcbfaa
open Go.EG
abbrev fn_evergreenlaw16_AccessNext : Nat := 7
def ir_evergreenlaw16_AccessNext : C :=
 (.seq
 (.reg
 [⟨(some 8), none, (.mv (.c (.bool false)))⟩])
 (.seq
 (.seq
 (.reg
 [⟨(some 23), none, (.call fn_evergreenlaw16_awake [])⟩, ⟨(some 24), none, (.not (.t 23))⟩, ⟨(some 25), none, (.mv (.t 24))⟩, ⟨(some 26), (some (25, false)), (.mv (.t 0))⟩, ⟨(some 27), (some (25, false)), (.lens (.t 26))⟩, ⟨(some 28), (some (25, false)), (.cmp .gtr .i64 (.t 27) (.c (.int .i64 40)))⟩, ⟨(some 29), none, (.pick (.t 25) (.c (.bool true)) (.t 28))⟩])
 (.cond
 (.t 29)
 (.seq
 (.reg
 [⟨(some 30), none, (.call fn_evergreenlaw16_awake [])⟩, ⟨(some 8), none, (.mv (.t 30))⟩])
 .ret)
 .skip))
 (.seq
 (.reg
 [⟨(some 32), none, (.mv (.t 0))⟩, ⟨(some 33), none, (.mv (.t 1))⟩, ⟨(some 34), none, (.call fn_evergreenlaw16_begun [(.t 32), (.t 33)])⟩, ⟨(some 31), none, (.mv (.t 34))⟩, ⟨(some 35), none, (.ext (.t 31) 0)⟩, ⟨(some 36), none, (.ext (.t 31) 1)⟩, ⟨(some 37), none, (.ext (.t 31) 2)⟩, ⟨(some 38), none, (.ext (.t 31) 3)⟩, ⟨(some 10), none, (.alc 10 ty_evergreenref12_Store [(.slice none 0 0), (.slice none 0 0)])⟩, ⟨(some 9), none, (.mv (.t 35))⟩, ⟨none, none, (.st 2 (.t 10) (.t 36))⟩, ⟨(some 11), none, (.mv (.t 37))⟩, ⟨(some 12), none, (.mv (.t 38))⟩])
 (.seq
 (.seq
 (.reg
 [⟨(some 39), none, (.mv (.t 12))⟩, ⟨(some 40), none, (.not (.t 39))⟩])
 (.cond
 (.t 40)
 (.seq
 (.reg
 [⟨(some 8), none, (.mv (.c (.bool false)))⟩])
 .ret)
 .skip))
 (.seq
 (.reg
 [⟨(some 41), none, (.lda 2 [.slc, .slc] (.t 10))⟩, ⟨(some 42), none, (.mv (.t 11))⟩, ⟨(some 43), none, (.call fn_evergreenref12_Length [(.t 41), (.t 42)])⟩, ⟨(some 13), none, (.mv (.t 43))⟩])
 (.seq
 (.reg
 [⟨(some 45), none, (.mv (.t 13))⟩, ⟨(some 46), none, (.mv (.t 3))⟩, ⟨(some 47), none, (.call fn_evergreenlaw16_inside [(.t 45), (.t 46), (.c (.int .i64 0))])⟩, ⟨(some 44), none, (.mv (.t 47))⟩, ⟨(some 48), none, (.ext (.t 44) 0)⟩, ⟨(some 49), none, (.ext (.t 44) 1)⟩, ⟨(some 3), none, (.mv (.t 48))⟩])
 (.seq
 (.reg
 [⟨(some 14), none, (.alc 14 ty_api_Letters [(.int .u64 0), (.int .u64 0), (.int .u64 0), (.int .u64 0)])⟩])
 (.seq
 (.reg
 [⟨(some 50), none, (.mv (.t 2))⟩, ⟨(some 51), none, (.dv false .u8 (.t 50) (.c (.int .u8 64)))⟩, ⟨(some 52), none, (.mv (.t 2))⟩, ⟨(some 53), none, (.dv true .u8 (.t 52) (.c (.int .u8 64)))⟩, ⟨(some 54), none, (.sh true .u64 (.c (.int .u64 1)) (.t 53))⟩, ⟨(some 55), none, (.iaa 1 4 (.t 14) (.t 51))⟩, ⟨none, none, (.st 1 (.t 55) (.t 54))⟩])
 (.seq
 (.reg
 [⟨(some 57), none, (.mv (.t 9))⟩, ⟨(some 58), none, (.mv (.t 11))⟩, ⟨(some 59), none, (.mv (.t 2))⟩, ⟨(some 60), none, (.mv (.t 3))⟩, ⟨(some 61), none, (.call fn_access_Find [(.t 57), (.t 58), (.t 59), (.t 60)])⟩, ⟨(some 56), none, (.mv (.t 61))⟩, ⟨(some 62), none, (.ext (.t 56) 0)⟩, ⟨(some 63), none, (.ext (.t 56) 1)⟩, ⟨(some 15), none, (.mv (.t 62))⟩, ⟨(some 16), none, (.mv (.t 63))⟩])
 (.seq
 (.seq
 (.reg
 [⟨(some 64), none, (.mv (.t 16))⟩, ⟨(some 65), none, (.call fn_evergreenbase_Is [(.t 64), (.c (.int .i64 5))])⟩])
 (.cond
 (.t 65)
 (.seq
 (.reg
 [⟨(some 67), none, (.mv (.t 9))⟩, ⟨(some 68), none, (.mv (.t 11))⟩, ⟨(some 69), none, (.lda 4 [(.int .u64), (.int .u64), (.int .u64), (.int .u64)] (.t 14))⟩, ⟨(some 70), none, (.mv (.t 3))⟩, ⟨(some 71), none, (.mv (.t 13))⟩, ⟨(some 72), none, (.mv (.t 3))⟩, ⟨(some 73), none, (.ar .sub .i64 (.t 71) (.t 72))⟩, ⟨(some 74), none, (.call fn_access_Count [(.t 67), (.t 68), (.t 69), (.t 70), (.t 73)])⟩, ⟨(some 66), none, (.mv (.t 74))⟩, ⟨(some 75), none, (.ext (.t 66) 0)⟩, ⟨(some 76), none, (.ext (.t 66) 1)⟩, ⟨(some 17), none, (.mv (.t 75))⟩, ⟨(some 18), none, (.mv (.t 76))⟩])
 (.seq
 (.reg
 [⟨(some 77), none, (.mv (.t 18))⟩, ⟨(some 78), none, (.eqn .ifc false (.t 77))⟩, ⟨(some 79), none, (.mv (.t 78))⟩, ⟨(some 80), (some (79, true)), (.mv (.t 17))⟩, ⟨(some 81), (some (79, true)), (.cmp .eql .i64 (.t 80) (.c (.int .i64 0)))⟩, ⟨(some 82), none, (.pick (.t 79) (.t 81) (.c (.bool false)))⟩, ⟨(some 8), none, (.mv (.t 82))⟩])
 .ret))
 .skip))
 (.seq
 (.reg
 [⟨(some 84), none, (.mv (.t 9))⟩, ⟨(some 85), none, (.mv (.t 11))⟩, ⟨(some 86), none, (.lda 4 [(.int .u64), (.int .u64), (.int .u64), (.int .u64)] (.t 14))⟩, ⟨(some 87), none, (.mv (.t 3))⟩, ⟨(some 88), none, (.mv (.t 15))⟩, ⟨(some 89), none, (.mv (.t 3))⟩, ⟨(some 90), none, (.ar .sub .i64 (.t 88) (.t 89))⟩, ⟨(some 91), none, (.call fn_access_Count [(.t 84), (.t 85), (.t 86), (.t 87), (.t 90)])⟩, ⟨(some 83), none, (.mv (.t 91))⟩, ⟨(some 92), none, (.ext (.t 83) 0)⟩, ⟨(some 93), none, (.ext (.t 83) 1)⟩, ⟨(some 19), none, (.mv (.t 92))⟩, ⟨(some 20), none, (.mv (.t 93))⟩])
 (.seq
 (.reg
 [⟨(some 95), none, (.mv (.t 9))⟩, ⟨(some 96), none, (.mv (.t 11))⟩, ⟨(some 97), none, (.mv (.t 15))⟩, ⟨(some 98), none, (.call fn_access_At [(.t 95), (.t 96), (.t 97)])⟩, ⟨(some 94), none, (.mv (.t 98))⟩, ⟨(some 99), none, (.ext (.t 94) 0)⟩, ⟨(some 100), none, (.ext (.t 94) 1)⟩, ⟨(some 21), none, (.mv (.t 99))⟩, ⟨(some 22), none, (.mv (.t 100))⟩])
 (.seq
 (.reg
 [⟨(some 101), none, (.mv (.t 16))⟩, ⟨(some 102), none, (.eqn .ifc false (.t 101))⟩, ⟨(some 103), none, (.mv (.t 102))⟩, ⟨(some 104), (some (103, true)), (.mv (.t 20))⟩, ⟨(some 105), (some (103, true)), (.eqn .ifc false (.t 104))⟩, ⟨(some 106), none, (.pick (.t 103) (.t 105) (.c (.bool false)))⟩, ⟨(some 107), none, (.mv (.t 106))⟩, ⟨(some 108), (some (107, true)), (.mv (.t 22))⟩, ⟨(some 109), (some (107, true)), (.eqn .ifc false (.t 108))⟩, ⟨(some 110), none, (.pick (.t 107) (.t 109) (.c (.bool false)))⟩, ⟨(some 111), none, (.mv (.t 110))⟩, ⟨(some 112), (some (111, true)), (.mv (.t 15))⟩, ⟨(some 113), (some (111, true)), (.mv (.t 3))⟩, ⟨(some 114), (some (111, true)), (.cmp .geq .i64 (.t 112) (.t 113))⟩, ⟨(some 115), none, (.pick (.t 111) (.t 114) (.c (.bool false)))⟩, ⟨(some 116), none, (.mv (.t 115))⟩, ⟨(some 117), (some (116, true)), (.mv (.t 15))⟩, ⟨(some 118), (some (116, true)), (.mv (.t 13))⟩, ⟨(some 119), (some (116, true)), (.cmp .lss .i64 (.t 117) (.t 118))⟩, ⟨(some 120), none, (.pick (.t 116) (.t 119) (.c (.bool false)))⟩, ⟨(some 121), none, (.mv (.t 120))⟩, ⟨(some 122), (some (121, true)), (.mv (.t 19))⟩, ⟨(some 123), (some (121, true)), (.cmp .eql .i64 (.t 122) (.c (.int .i64 0)))⟩, ⟨(some 124), none, (.pick (.t 121) (.t 123) (.c (.bool false)))⟩, ⟨(some 125), none, (.mv (.t 124))⟩, ⟨(some 126), (some (125, true)), (.mv (.t 21))⟩, ⟨(some 127), (some (125, true)), (.mv (.t 2))⟩, ⟨(some 128), (some (125, true)), (.cmp .eql .u8 (.t 126) (.t 127))⟩, ⟨(some 129), none, (.pick (.t 125) (.t 128) (.c (.bool false)))⟩, ⟨(some 8), none, (.mv (.t 129))⟩])
 .ret)))))))))))))
def ts_evergreenlaw16_AccessNext : List (Nat × Tr) := []
set_option maxRecDepth 100000 in
set_option maxHeartbeats 4000000 in
theorem ok_evergreenlaw16_AccessNext : irOf Try.prog fn_evergreenlaw16_AccessNext [] ts_evergreenlaw16_AccessNext = some (130, [(.t 8)], ir_evergreenlaw16_AccessNext) := by kernel_rfl
end Go.Proofs.Ytohlphngnhcbfaa
