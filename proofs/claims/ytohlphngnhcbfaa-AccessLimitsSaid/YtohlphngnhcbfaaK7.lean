/- The small forms of functions of the program, with the equations that say so: written by a program (irtool.py). No condition. -/
import Derived.Test.YtohlphngnhcbfaaK3
import Derived.Test.YtohlphngnhcbfaaProg
namespace Go.Proofs.Ytohlphngnhcbfaa
open Go.EG
abbrev fn_evergreenlaw16_AccessLimits : Nat := 8
def ir_evergreenlaw16_AccessLimits : C :=
 (.seq
 (.reg
 [⟨(some 6), none, (.mv (.c (.bool false)))⟩])
 (.seq
 (.seq
 (.reg
 [⟨(some 29), none, (.call fn_evergreenlaw16_awake [])⟩, ⟨(some 30), none, (.not (.t 29))⟩])
 (.cond
 (.t 30)
 (.seq
 (.reg
 [⟨(some 6), none, (.mv (.c (.bool false)))⟩])
 .ret)
 .skip))
 (.seq
 (.reg
 [⟨(some 31), none, (.call fn_intern_New [(.c (.int .i64 5))])⟩, ⟨(some 7), none, (.mv (.t 31))⟩])
 (.seq
 (.reg
 [⟨(some 33), none, (.mv (.t 7))⟩, ⟨(some 34), none, (.call fn_P_intern_Store_Letter [(.t 33), (.c (.int .u8 97))])⟩, ⟨(some 32), none, (.mv (.t 34))⟩, ⟨(some 35), none, (.ext (.t 32) 0)⟩, ⟨(some 36), none, (.ext (.t 32) 1)⟩, ⟨(some 8), none, (.mv (.t 35))⟩, ⟨(some 9), none, (.mv (.t 36))⟩])
 (.seq
 (.reg
 [⟨(some 38), none, (.mv (.t 7))⟩, ⟨(some 39), none, (.mv (.t 8))⟩, ⟨(some 40), none, (.call fn_P_intern_Store_Power [(.t 38), (.t 39), (.c (.int .i64 1152921504606846976))])⟩, ⟨(some 37), none, (.mv (.t 40))⟩, ⟨(some 41), none, (.ext (.t 37) 0)⟩, ⟨(some 42), none, (.ext (.t 37) 1)⟩, ⟨(some 10), none, (.mv (.t 41))⟩, ⟨(some 11), none, (.mv (.t 42))⟩])
 (.seq
 (.reg
 [⟨(some 43), none, (.mv (.t 2))⟩, ⟨(some 44), none, (.cv .u64 (.t 43))⟩, ⟨(some 45), none, (.dv true .u64 (.t 44) (.c (.int .u64 5)))⟩, ⟨(some 46), none, (.cv .i64 (.t 45))⟩, ⟨(some 47), none, (.ar .add .i64 (.c (.int .i64 65534)) (.t 46))⟩, ⟨(some 2), none, (.mv (.t 47))⟩])
 (.seq
 (.reg
 [⟨(some 48), none, (.mv (.t 1))⟩, ⟨(some 49), none, (.cv .u64 (.t 48))⟩, ⟨(some 50), none, (.dv true .u64 (.t 49) (.c (.int .u64 1152921504606781431)))⟩, ⟨(some 51), none, (.cv .i64 (.t 50))⟩, ⟨(some 1), none, (.mv (.t 51))⟩])
 (.seq
 (.reg
 [⟨(some 53), none, (.mv (.t 7))⟩, ⟨(some 54), none, (.mv (.t 10))⟩, ⟨(some 55), none, (.mv (.t 1))⟩, ⟨(some 56), none, (.mv (.t 2))⟩, ⟨(some 57), none, (.call fn_access_Extract [(.t 53), (.t 54), (.t 55), (.t 56)])⟩, ⟨(some 52), none, (.mv (.t 57))⟩, ⟨(some 58), none, (.ext (.t 52) 0)⟩, ⟨(some 59), none, (.ext (.t 52) 1)⟩, ⟨(some 12), none, (.mv (.t 58))⟩, ⟨(some 13), none, (.mv (.t 59))⟩])
 (.seq
 (.seq
 (.reg
 [⟨(some 60), none, (.mv (.t 11))⟩, ⟨(some 61), none, (.eqn .ifc true (.t 60))⟩, ⟨(some 62), none, (.mv (.t 61))⟩, ⟨(some 63), (some (62, false)), (.mv (.t 2))⟩, ⟨(some 64), (some (62, false)), (.cmp .gtr .i64 (.t 63) (.c (.int .i64 65536)))⟩, ⟨(some 65), (some (62, false)), (.mv (.t 64))⟩, ⟨(some 66), (some (65, true)), (.mv (.t 13))⟩, ⟨(some 67), (some (65, true)), (.call fn_evergreenbase_Is [(.t 66), (.c (.int .i64 9))])⟩, ⟨(some 68), (some (65, true)), (.not (.t 67))⟩, ⟨(some 69), (some (65, true)), (.mv (.t 68))⟩, ⟨(some 70), (some (69, false)), (.mv (.t 12))⟩, ⟨(some 71), (some (69, false)), (.lens (.t 70))⟩, ⟨(some 72), (some (69, false)), (.cmp .neq .i64 (.t 71) (.c (.int .i64 0)))⟩, ⟨(some 73), (some (65, true)), (.pick (.t 69) (.c (.bool true)) (.t 72))⟩, ⟨(some 74), (some (62, false)), (.pick (.t 65) (.t 73) (.c (.bool false)))⟩, ⟨(some 75), none, (.pick (.t 62) (.c (.bool true)) (.t 74))⟩, ⟨(some 76), none, (.mv (.t 75))⟩, ⟨(some 77), (some (76, false)), (.mv (.t 2))⟩, ⟨(some 78), (some (76, false)), (.cmp .leq .i64 (.t 77) (.c (.int .i64 65536)))⟩, ⟨(some 79), (some (76, false)), (.mv (.t 78))⟩, ⟨(some 80), (some (79, true)), (.mv (.t 13))⟩, ⟨(some 81), (some (79, true)), (.eqn .ifc true (.t 80))⟩, ⟨(some 82), (some (79, true)), (.mv (.t 81))⟩, ⟨(some 83), (some (82, false)), (.mv (.t 12))⟩, ⟨(some 84), (some (82, false)), (.lens (.t 83))⟩, ⟨(some 85), (some (82, false)), (.mv (.t 2))⟩, ⟨(some 86), (some (82, false)), (.cmp .neq .i64 (.t 84) (.t 85))⟩, ⟨(some 87), (some (79, true)), (.pick (.t 82) (.c (.bool true)) (.t 86))⟩, ⟨(some 88), (some (79, true)), (.mv (.t 87))⟩, ⟨(some 89), (some (88, false)), (.mv (.t 12))⟩, ⟨(some 90), (some (88, false)), (.ia 1 (.t 89) (.c (.int .i64 0)))⟩, ⟨(some 91), (some (88, false)), (.ld (.int .u8) (.t 90))⟩, ⟨(some 92), (some (88, false)), (.cmp .neq .u8 (.t 91) (.c (.int .u8 97)))⟩, ⟨(some 93), (some (79, true)), (.pick (.t 88) (.c (.bool true)) (.t 92))⟩, ⟨(some 94), (some (79, true)), (.mv (.t 93))⟩, ⟨(some 95), (some (94, false)), (.mv (.t 12))⟩, ⟨(some 96), (some (94, false)), (.mv (.t 2))⟩, ⟨(some 97), (some (94, false)), (.ar .sub .i64 (.t 96) (.c (.int .i64 1)))⟩, ⟨(some 98), (some (94, false)), (.ia 1 (.t 95) (.t 97))⟩, ⟨(some 99), (some (94, false)), (.ld (.int .u8) (.t 98))⟩, ⟨(some 100), (some (94, false)), (.cmp .neq .u8 (.t 99) (.c (.int .u8 97)))⟩, ⟨(some 101), (some (79, true)), (.pick (.t 94) (.c (.bool true)) (.t 100))⟩, ⟨(some 102), (some (76, false)), (.pick (.t 79) (.t 101) (.c (.bool false)))⟩, ⟨(some 103), none, (.pick (.t 76) (.c (.bool true)) (.t 102))⟩])
 (.cond
 (.t 103)
 (.seq
 (.reg
 [⟨(some 6), none, (.mv (.c (.bool false)))⟩])
 .ret)
 .skip))
 (.seq
 (.reg
 [⟨(some 14), none, (.mv (.c (.pointer none)))⟩])
 (.seq
 (.reg
 [⟨(some 104), none, (.mv (.t 0))⟩, ⟨(some 105), none, (.cv .u64 (.t 104))⟩, ⟨(some 106), none, (.dv true .u64 (.t 105) (.c (.int .u64 9)))⟩, ⟨(some 107), none, (.cv .i64 (.t 106))⟩, ⟨(some 108), none, (.ar .add .i64 (.c (.int .i64 3)) (.t 107))⟩, ⟨(some 15), none, (.mv (.t 108))⟩, ⟨(some 16), none, (.mv (.c (.int .i64 1)))⟩])
 (.seq
 (.seq
 (.reg
 [⟨(some 109), none, (.mv (.t 0))⟩, ⟨(some 110), none, (.cmp .lss .i64 (.t 109) (.c (.int .i64 0)))⟩])
 (.cond
 (.t 110)
 (.reg
 [⟨(some 111), none, (.mv (.t 0))⟩, ⟨(some 15), none, (.mv (.t 111))⟩, ⟨(some 16), none, (.mv (.c (.int .i64 1)))⟩])
 .skip))
 (.seq
 (.seq
 (.reg
 [⟨(some 112), none, (.mv (.t 0))⟩, ⟨(some 113), none, (.dvr true .i64 (.t 112) (.c (.int .i64 2)))⟩, ⟨(some 114), none, (.cmp .eql .i64 (.t 113) (.c (.int .i64 0)))⟩])
 (.cond
 (.t 114)
 (.reg
 [⟨(some 115), none, (.mv (.t 14))⟩, ⟨(some 7), none, (.mv (.t 115))⟩, ⟨(some 16), none, (.mv (.c (.int .i64 5)))⟩])
 .skip))
 (.seq
 (.reg
 [⟨(some 117), none, (.mv (.t 7))⟩, ⟨(some 118), none, (.mv (.t 15))⟩, ⟨(some 119), none, (.call fn_access_At [(.t 117), (.t 118), (.c (.int .i64 0))])⟩, ⟨(some 116), none, (.mv (.t 119))⟩, ⟨(some 120), none, (.ext (.t 116) 0)⟩, ⟨(some 121), none, (.ext (.t 116) 1)⟩, ⟨(some 17), none, (.mv (.t 120))⟩, ⟨(some 18), none, (.mv (.t 121))⟩])
 (.seq
 (.reg
 [⟨(some 123), none, (.mv (.t 7))⟩, ⟨(some 124), none, (.mv (.t 15))⟩, ⟨(some 125), none, (.call fn_access_Extract [(.t 123), (.t 124), (.c (.int .i64 0)), (.c (.int .i64 0))])⟩, ⟨(some 122), none, (.mv (.t 125))⟩, ⟨(some 126), none, (.ext (.t 122) 0)⟩, ⟨(some 127), none, (.ext (.t 122) 1)⟩, ⟨(some 19), none, (.mv (.t 126))⟩, ⟨(some 20), none, (.mv (.t 127))⟩])
 (.seq
 (.reg
 [⟨(some 129), none, (.mv (.t 7))⟩, ⟨(some 130), none, (.mv (.t 15))⟩, ⟨(some 131), none, (.call fn_access_Weight [(.t 129), (.t 130), (.c (.int .i64 0)), (.c (.int .i64 0))])⟩, ⟨(some 128), none, (.mv (.t 131))⟩, ⟨(some 132), none, (.ext (.t 128) 0)⟩, ⟨(some 133), none, (.ext (.t 128) 1)⟩, ⟨(some 21), none, (.alc 21 ty_api_Weight [(.int .i64 0), (.int .i64 0), (.int .i64 0), (.int .i64 0), (.int .u64 0), (.int .u64 0)])⟩, ⟨none, none, (.st 6 (.t 21) (.t 132))⟩, ⟨(some 22), none, (.mv (.t 133))⟩])
 (.seq
 (.reg
 [⟨(some 135), none, (.mv (.t 7))⟩, ⟨(some 136), none, (.mv (.t 15))⟩, ⟨(some 137), none, (.call fn_access_Path [(.t 135), (.t 136), (.c (.int .i64 0))])⟩, ⟨(some 134), none, (.mv (.t 137))⟩, ⟨(some 138), none, (.ext (.t 134) 0)⟩, ⟨(some 139), none, (.ext (.t 134) 1)⟩, ⟨(some 23), none, (.mv (.t 138))⟩, ⟨(some 24), none, (.mv (.t 139))⟩])
 (.seq
 (.reg
 [⟨(some 141), none, (.mv (.t 7))⟩, ⟨(some 142), none, (.mv (.t 15))⟩, ⟨(some 143), none, (.call fn_access_Find [(.t 141), (.t 142), (.c (.int .u8 97)), (.c (.int .i64 0))])⟩, ⟨(some 140), none, (.mv (.t 143))⟩, ⟨(some 144), none, (.ext (.t 140) 0)⟩, ⟨(some 145), none, (.ext (.t 140) 1)⟩, ⟨(some 25), none, (.mv (.t 144))⟩, ⟨(some 26), none, (.mv (.t 145))⟩])
 (.seq
 (.reg
 [⟨(some 147), none, (.mv (.t 7))⟩, ⟨(some 148), none, (.mv (.t 15))⟩, ⟨(some 149), none, (.bld [(.int .u64 0), (.int .u64 0), (.int .u64 0), (.int .u64 0)] [])⟩, ⟨(some 150), none, (.call fn_access_Count [(.t 147), (.t 148), (.t 149), (.c (.int .i64 0)), (.c (.int .i64 0))])⟩, ⟨(some 146), none, (.mv (.t 150))⟩, ⟨(some 151), none, (.ext (.t 146) 0)⟩, ⟨(some 152), none, (.ext (.t 146) 1)⟩, ⟨(some 27), none, (.mv (.t 151))⟩, ⟨(some 28), none, (.mv (.t 152))⟩])
 (.seq
 (.reg
 [⟨(some 153), none, (.mv (.t 18))⟩, ⟨(some 154), none, (.mv (.t 16))⟩, ⟨(some 155), none, (.call fn_evergreenbase_Is [(.t 153), (.t 154)])⟩, ⟨(some 156), none, (.mv (.t 155))⟩, ⟨(some 157), (some (156, true)), (.mv (.t 20))⟩, ⟨(some 158), (some (156, true)), (.mv (.t 16))⟩, ⟨(some 159), (some (156, true)), (.call fn_evergreenbase_Is [(.t 157), (.t 158)])⟩, ⟨(some 160), none, (.pick (.t 156) (.t 159) (.c (.bool false)))⟩, ⟨(some 161), none, (.mv (.t 160))⟩, ⟨(some 162), (some (161, true)), (.mv (.t 22))⟩, ⟨(some 163), (some (161, true)), (.mv (.t 16))⟩, ⟨(some 164), (some (161, true)), (.call fn_evergreenbase_Is [(.t 162), (.t 163)])⟩, ⟨(some 165), none, (.pick (.t 161) (.t 164) (.c (.bool false)))⟩, ⟨(some 166), none, (.mv (.t 165))⟩, ⟨(some 167), (some (166, true)), (.mv (.t 24))⟩, ⟨(some 168), (some (166, true)), (.mv (.t 16))⟩, ⟨(some 169), (some (166, true)), (.call fn_evergreenbase_Is [(.t 167), (.t 168)])⟩, ⟨(some 170), none, (.pick (.t 166) (.t 169) (.c (.bool false)))⟩, ⟨(some 171), none, (.mv (.t 170))⟩, ⟨(some 172), (some (171, true)), (.mv (.t 26))⟩, ⟨(some 173), (some (171, true)), (.mv (.t 16))⟩, ⟨(some 174), (some (171, true)), (.call fn_evergreenbase_Is [(.t 172), (.t 173)])⟩, ⟨(some 175), none, (.pick (.t 171) (.t 174) (.c (.bool false)))⟩, ⟨(some 176), none, (.mv (.t 175))⟩, ⟨(some 177), (some (176, true)), (.mv (.t 28))⟩, ⟨(some 178), (some (176, true)), (.mv (.t 16))⟩, ⟨(some 179), (some (176, true)), (.call fn_evergreenbase_Is [(.t 177), (.t 178)])⟩, ⟨(some 180), none, (.pick (.t 176) (.t 179) (.c (.bool false)))⟩, ⟨(some 6), none, (.mv (.t 180))⟩])
 .ret))))))))))))))))))))
def ts_evergreenlaw16_AccessLimits : List (Nat × Tr) := []
set_option maxRecDepth 100000 in
set_option maxHeartbeats 4000000 in
theorem ok_evergreenlaw16_AccessLimits : irOf Try.prog fn_evergreenlaw16_AccessLimits [113] ts_evergreenlaw16_AccessLimits = some (181, [(.t 6)], ir_evergreenlaw16_AccessLimits) := by kernel_rfl
end Go.Proofs.Ytohlphngnhcbfaa
