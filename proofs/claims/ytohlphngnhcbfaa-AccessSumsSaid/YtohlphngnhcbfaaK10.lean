/- The small forms of functions of the program, with the equations that say so: written by a program (irtool.py). No condition. -/
import Derived.Test.YtohlphngnhcbfaaK3
import Derived.Test.YtohlphngnhcbfaaProg
namespace Go.Proofs.Ytohlphngnhcbfaa
open Go.EG
abbrev fn_evergreenlaw16_AccessSums : Nat := 6
def ir_evergreenlaw16_AccessSums : C :=
 (.seq
 (.reg
 [⟨(some 8), none, (.box 8 ty_api_Letters (.t 2))⟩, ⟨(some 12), none, (.mv (.c (.bool false)))⟩])
 (.seq
 (.seq
 (.reg
 [⟨(some 31), none, (.call fn_evergreenlaw16_awake [])⟩, ⟨(some 32), none, (.not (.t 31))⟩, ⟨(some 33), none, (.mv (.t 32))⟩, ⟨(some 34), (some (33, false)), (.mv (.t 0))⟩, ⟨(some 35), (some (33, false)), (.lens (.t 34))⟩, ⟨(some 36), (some (33, false)), (.cmp .gtr .i64 (.t 35) (.c (.int .i64 40)))⟩, ⟨(some 37), none, (.pick (.t 33) (.c (.bool true)) (.t 36))⟩])
 (.cond
 (.t 37)
 (.seq
 (.reg
 [⟨(some 38), none, (.call fn_evergreenlaw16_awake [])⟩, ⟨(some 12), none, (.mv (.t 38))⟩])
 .ret)
 .skip))
 (.seq
 (.reg
 [⟨(some 40), none, (.mv (.t 0))⟩, ⟨(some 41), none, (.mv (.t 1))⟩, ⟨(some 42), none, (.call fn_evergreenlaw16_begun [(.t 40), (.t 41)])⟩, ⟨(some 39), none, (.mv (.t 42))⟩, ⟨(some 43), none, (.ext (.t 39) 0)⟩, ⟨(some 44), none, (.ext (.t 39) 1)⟩, ⟨(some 45), none, (.ext (.t 39) 2)⟩, ⟨(some 46), none, (.ext (.t 39) 3)⟩, ⟨(some 14), none, (.alc 14 ty_evergreenref12_Store [(.slice none 0 0), (.slice none 0 0)])⟩, ⟨(some 13), none, (.mv (.t 43))⟩, ⟨none, none, (.st 2 (.t 14) (.t 44))⟩, ⟨(some 15), none, (.mv (.t 45))⟩, ⟨(some 16), none, (.mv (.t 46))⟩])
 (.seq
 (.seq
 (.reg
 [⟨(some 47), none, (.mv (.t 16))⟩, ⟨(some 48), none, (.not (.t 47))⟩])
 (.cond
 (.t 48)
 (.seq
 (.reg
 [⟨(some 12), none, (.mv (.c (.bool false)))⟩])
 .ret)
 .skip))
 (.seq
 (.reg
 [⟨(some 50), none, (.lda 2 [.slc, .slc] (.t 14))⟩, ⟨(some 51), none, (.mv (.t 15))⟩, ⟨(some 52), none, (.call fn_evergreenref12_Length [(.t 50), (.t 51)])⟩, ⟨(some 53), none, (.mv (.t 3))⟩, ⟨(some 54), none, (.mv (.t 4))⟩, ⟨(some 55), none, (.call fn_evergreenlaw16_inside [(.t 52), (.t 53), (.t 54)])⟩, ⟨(some 49), none, (.mv (.t 55))⟩, ⟨(some 56), none, (.ext (.t 49) 0)⟩, ⟨(some 57), none, (.ext (.t 49) 1)⟩, ⟨(some 3), none, (.mv (.t 56))⟩, ⟨(some 4), none, (.mv (.t 57))⟩])
 (.seq
 (.reg
 [⟨(some 58), none, (.mv (.t 5))⟩, ⟨(some 59), none, (.cv .u64 (.t 58))⟩, ⟨(some 60), none, (.mv (.t 4))⟩, ⟨(some 61), none, (.ar .add .i64 (.t 60) (.c (.int .i64 1)))⟩, ⟨(some 62), none, (.cv .u64 (.t 61))⟩, ⟨(some 63), none, (.dv true .u64 (.t 59) (.t 62))⟩, ⟨(some 64), none, (.cv .i64 (.t 63))⟩, ⟨(some 5), none, (.mv (.t 64))⟩])
 (.seq
 (.reg
 [⟨(some 17), none, (.alc 17 ty_api_Letters [(.int .u64 0), (.int .u64 0), (.int .u64 0), (.int .u64 0)])⟩])
 (.seq
 (.seq
 (.reg
 [⟨(some 65), none, (.mv (.c (.int .i64 0)))⟩])
 (.blk
 0
 (.loop
 (.seq
 (.reg
 [⟨(some 66), none, (.cmp .lss .i64 (.t 65) (.c (.int .i64 4)))⟩])
 (.seq
 (.cond
 (.t 66)
 .skip
 (.exit 0))
 (.seq
 (.blk
 1
 (.seq
 (.reg
 [⟨(some 67), none, (.mv (.t 65))⟩, ⟨(some 18), none, (.mv (.t 67))⟩])
 (.reg
 [⟨(some 68), none, (.mv (.t 18))⟩, ⟨(some 69), none, (.mv (.t 18))⟩, ⟨(some 70), none, (.iaa 1 4 (.t 8) (.t 69))⟩, ⟨(some 71), none, (.ld (.int .u64) (.t 70))⟩, ⟨(some 72), none, (.bit .xor .u64 (.c (.int .u64 18446744073709551615)) (.t 71))⟩, ⟨(some 73), none, (.iaa 1 4 (.t 17) (.t 68))⟩, ⟨none, none, (.st 1 (.t 73) (.t 72))⟩])))
 (.reg
 [⟨(some 74), none, (.ar .add .i64 (.t 65) (.c (.int .i64 1)))⟩, ⟨(some 65), none, (.mv (.t 74))⟩])))))))
 (.seq
 (.reg
 [⟨(some 76), none, (.mv (.t 13))⟩, ⟨(some 77), none, (.mv (.t 15))⟩, ⟨(some 78), none, (.lda 4 [(.int .u64), (.int .u64), (.int .u64), (.int .u64)] (.t 8))⟩, ⟨(some 79), none, (.mv (.t 3))⟩, ⟨(some 80), none, (.mv (.t 4))⟩, ⟨(some 81), none, (.call fn_access_Count [(.t 76), (.t 77), (.t 78), (.t 79), (.t 80)])⟩, ⟨(some 75), none, (.mv (.t 81))⟩, ⟨(some 82), none, (.ext (.t 75) 0)⟩, ⟨(some 83), none, (.ext (.t 75) 1)⟩, ⟨(some 19), none, (.mv (.t 82))⟩, ⟨(some 20), none, (.mv (.t 83))⟩])
 (.seq
 (.reg
 [⟨(some 85), none, (.mv (.t 13))⟩, ⟨(some 86), none, (.mv (.t 15))⟩, ⟨(some 87), none, (.lda 4 [(.int .u64), (.int .u64), (.int .u64), (.int .u64)] (.t 8))⟩, ⟨(some 88), none, (.mv (.t 3))⟩, ⟨(some 89), none, (.mv (.t 5))⟩, ⟨(some 90), none, (.call fn_access_Count [(.t 85), (.t 86), (.t 87), (.t 88), (.t 89)])⟩, ⟨(some 84), none, (.mv (.t 90))⟩, ⟨(some 91), none, (.ext (.t 84) 0)⟩, ⟨(some 92), none, (.ext (.t 84) 1)⟩, ⟨(some 21), none, (.mv (.t 91))⟩, ⟨(some 22), none, (.mv (.t 92))⟩])
 (.seq
 (.reg
 [⟨(some 94), none, (.mv (.t 13))⟩, ⟨(some 95), none, (.mv (.t 15))⟩, ⟨(some 96), none, (.lda 4 [(.int .u64), (.int .u64), (.int .u64), (.int .u64)] (.t 8))⟩, ⟨(some 97), none, (.mv (.t 3))⟩, ⟨(some 98), none, (.mv (.t 5))⟩, ⟨(some 99), none, (.ar .add .i64 (.t 97) (.t 98))⟩, ⟨(some 100), none, (.mv (.t 4))⟩, ⟨(some 101), none, (.mv (.t 5))⟩, ⟨(some 102), none, (.ar .sub .i64 (.t 100) (.t 101))⟩, ⟨(some 103), none, (.call fn_access_Count [(.t 94), (.t 95), (.t 96), (.t 99), (.t 102)])⟩, ⟨(some 93), none, (.mv (.t 103))⟩, ⟨(some 104), none, (.ext (.t 93) 0)⟩, ⟨(some 105), none, (.ext (.t 93) 1)⟩, ⟨(some 23), none, (.mv (.t 104))⟩, ⟨(some 24), none, (.mv (.t 105))⟩])
 (.seq
 (.reg
 [⟨(some 107), none, (.mv (.t 13))⟩, ⟨(some 108), none, (.mv (.t 15))⟩, ⟨(some 109), none, (.lda 4 [(.int .u64), (.int .u64), (.int .u64), (.int .u64)] (.t 17))⟩, ⟨(some 110), none, (.mv (.t 3))⟩, ⟨(some 111), none, (.mv (.t 4))⟩, ⟨(some 112), none, (.call fn_access_Count [(.t 107), (.t 108), (.t 109), (.t 110), (.t 111)])⟩, ⟨(some 106), none, (.mv (.t 112))⟩, ⟨(some 113), none, (.ext (.t 106) 0)⟩, ⟨(some 114), none, (.ext (.t 106) 1)⟩, ⟨(some 25), none, (.mv (.t 113))⟩, ⟨(some 26), none, (.mv (.t 114))⟩])
 (.seq
 (.reg
 [⟨(some 116), none, (.mv (.t 13))⟩, ⟨(some 117), none, (.mv (.t 15))⟩, ⟨(some 118), none, (.bld [(.int .u64 0), (.int .u64 0), (.int .u64 0), (.int .u64 0)] [(0, (1, (.c (.int .u64 1024))))])⟩, ⟨(some 119), none, (.mv (.t 3))⟩, ⟨(some 120), none, (.mv (.t 4))⟩, ⟨(some 121), none, (.call fn_access_Count [(.t 116), (.t 117), (.t 118), (.t 119), (.t 120)])⟩, ⟨(some 115), none, (.mv (.t 121))⟩, ⟨(some 122), none, (.ext (.t 115) 0)⟩, ⟨(some 123), none, (.ext (.t 115) 1)⟩, ⟨(some 27), none, (.mv (.t 122))⟩, ⟨(some 28), none, (.mv (.t 123))⟩])
 (.seq
 (.reg
 [⟨(some 125), none, (.mv (.t 13))⟩, ⟨(some 126), none, (.mv (.t 15))⟩, ⟨(some 127), none, (.mv (.t 3))⟩, ⟨(some 128), none, (.mv (.t 4))⟩, ⟨(some 129), none, (.call fn_access_Weight [(.t 125), (.t 126), (.t 127), (.t 128)])⟩, ⟨(some 124), none, (.mv (.t 129))⟩, ⟨(some 130), none, (.ext (.t 124) 0)⟩, ⟨(some 131), none, (.ext (.t 124) 1)⟩, ⟨(some 29), none, (.alc 29 ty_api_Weight [(.int .i64 0), (.int .i64 0), (.int .i64 0), (.int .i64 0), (.int .u64 0), (.int .u64 0)])⟩, ⟨none, none, (.st 6 (.t 29) (.t 130))⟩, ⟨(some 30), none, (.mv (.t 131))⟩])
 (.seq
 (.reg
 [⟨(some 132), none, (.mv (.t 20))⟩, ⟨(some 133), none, (.eqn .ifc false (.t 132))⟩, ⟨(some 134), none, (.mv (.t 133))⟩, ⟨(some 135), (some (134, true)), (.mv (.t 22))⟩, ⟨(some 136), (some (134, true)), (.eqn .ifc false (.t 135))⟩, ⟨(some 137), none, (.pick (.t 134) (.t 136) (.c (.bool false)))⟩, ⟨(some 138), none, (.mv (.t 137))⟩, ⟨(some 139), (some (138, true)), (.mv (.t 24))⟩, ⟨(some 140), (some (138, true)), (.eqn .ifc false (.t 139))⟩, ⟨(some 141), none, (.pick (.t 138) (.t 140) (.c (.bool false)))⟩, ⟨(some 142), none, (.mv (.t 141))⟩, ⟨(some 143), (some (142, true)), (.mv (.t 26))⟩, ⟨(some 144), (some (142, true)), (.eqn .ifc false (.t 143))⟩, ⟨(some 145), none, (.pick (.t 142) (.t 144) (.c (.bool false)))⟩, ⟨(some 146), none, (.mv (.t 145))⟩, ⟨(some 147), (some (146, true)), (.mv (.t 28))⟩, ⟨(some 148), (some (146, true)), (.eqn .ifc false (.t 147))⟩, ⟨(some 149), none, (.pick (.t 146) (.t 148) (.c (.bool false)))⟩, ⟨(some 150), none, (.mv (.t 149))⟩, ⟨(some 151), (some (150, true)), (.mv (.t 30))⟩, ⟨(some 152), (some (150, true)), (.eqn .ifc false (.t 151))⟩, ⟨(some 153), none, (.pick (.t 150) (.t 152) (.c (.bool false)))⟩, ⟨(some 154), none, (.mv (.t 153))⟩, ⟨(some 155), (some (154, true)), (.mv (.t 21))⟩, ⟨(some 156), (some (154, true)), (.mv (.t 23))⟩, ⟨(some 157), (some (154, true)), (.ar .add .i64 (.t 155) (.t 156))⟩, ⟨(some 158), (some (154, true)), (.mv (.t 19))⟩, ⟨(some 159), (some (154, true)), (.cmp .eql .i64 (.t 157) (.t 158))⟩, ⟨(some 160), none, (.pick (.t 154) (.t 159) (.c (.bool false)))⟩, ⟨(some 161), none, (.mv (.t 160))⟩, ⟨(some 162), (some (161, true)), (.mv (.t 19))⟩, ⟨(some 163), (some (161, true)), (.mv (.t 25))⟩, ⟨(some 164), (some (161, true)), (.ar .add .i64 (.t 162) (.t 163))⟩, ⟨(some 165), (some (161, true)), (.mv (.t 4))⟩, ⟨(some 166), (some (161, true)), (.cmp .eql .i64 (.t 164) (.t 165))⟩, ⟨(some 167), none, (.pick (.t 161) (.t 166) (.c (.bool false)))⟩, ⟨(some 168), none, (.mv (.t 167))⟩, ⟨(some 169), (some (168, true)), (.mv (.t 27))⟩, ⟨(some 170), (some (168, true)), (.fa 1 (.t 29))⟩, ⟨(some 171), (some (168, true)), (.ld (.int .i64) (.t 170))⟩, ⟨(some 172), (some (168, true)), (.cmp .eql .i64 (.t 169) (.t 171))⟩, ⟨(some 173), none, (.pick (.t 168) (.t 172) (.c (.bool false)))⟩, ⟨(some 12), none, (.mv (.t 173))⟩])
 .ret)))))))))))))))
def ts_evergreenlaw16_AccessSums : List (Nat × Tr) := []
set_option maxRecDepth 100000 in
set_option maxHeartbeats 4000000 in
theorem ok_evergreenlaw16_AccessSums : irOf Try.prog fn_evergreenlaw16_AccessSums [] ts_evergreenlaw16_AccessSums = some (174, [(.t 12)], ir_evergreenlaw16_AccessSums) := by kernel_rfl
end Go.Proofs.Ytohlphngnhcbfaa
