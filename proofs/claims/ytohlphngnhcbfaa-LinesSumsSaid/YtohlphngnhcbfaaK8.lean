/- The small forms of functions of the program, with the equations that say so: written by a program (irtool.py). No condition. -/
import Derived.Test.YtohlphngnhcbfaaK3
import Derived.Test.YtohlphngnhcbfaaProg
namespace Go.Proofs.Ytohlphngnhcbfaa
open Go.EG
abbrev fn_evergreenlaw19_LinesSums : Nat := 5
def ir_evergreenlaw19_LinesSums : C :=
 (.seq
 (.reg
 [⟨(some 10), none, (.mv (.c (.bool false)))⟩])
 (.seq
 (.seq
 (.reg
 [⟨(some 24), none, (.call fn_evergreenlaw19_awake [])⟩, ⟨(some 25), none, (.not (.t 24))⟩, ⟨(some 26), none, (.mv (.t 25))⟩, ⟨(some 27), (some (26, false)), (.mv (.t 0))⟩, ⟨(some 28), (some (26, false)), (.lens (.t 27))⟩, ⟨(some 29), (some (26, false)), (.cmp .gtr .i64 (.t 28) (.c (.int .i64 40)))⟩, ⟨(some 30), none, (.pick (.t 26) (.c (.bool true)) (.t 29))⟩])
 (.cond
 (.t 30)
 (.seq
 (.reg
 [⟨(some 31), none, (.call fn_evergreenlaw19_awake [])⟩, ⟨(some 10), none, (.mv (.t 31))⟩])
 .ret)
 .skip))
 (.seq
 (.reg
 [⟨(some 33), none, (.mv (.t 0))⟩, ⟨(some 34), none, (.mv (.t 1))⟩, ⟨(some 35), none, (.call fn_evergreenlaw19_begun [(.t 33), (.t 34)])⟩, ⟨(some 32), none, (.mv (.t 35))⟩, ⟨(some 36), none, (.ext (.t 32) 0)⟩, ⟨(some 37), none, (.ext (.t 32) 1)⟩, ⟨(some 38), none, (.ext (.t 32) 2)⟩, ⟨(some 39), none, (.ext (.t 32) 3)⟩, ⟨(some 12), none, (.alc 12 ty_evergreenref12_Store [(.slice none 0 0), (.slice none 0 0)])⟩, ⟨(some 11), none, (.mv (.t 36))⟩, ⟨none, none, (.st 2 (.t 12) (.t 37))⟩, ⟨(some 13), none, (.mv (.t 38))⟩, ⟨(some 14), none, (.mv (.t 39))⟩])
 (.seq
 (.seq
 (.reg
 [⟨(some 40), none, (.mv (.t 14))⟩, ⟨(some 41), none, (.not (.t 40))⟩])
 (.cond
 (.t 41)
 (.seq
 (.reg
 [⟨(some 10), none, (.mv (.c (.bool false)))⟩])
 .ret)
 .skip))
 (.seq
 (.reg
 [⟨(some 42), none, (.lda 2 [.slc, .slc] (.t 12))⟩, ⟨(some 43), none, (.mv (.t 13))⟩, ⟨(some 44), none, (.call fn_evergreenref12_Length [(.t 42), (.t 43)])⟩, ⟨(some 15), none, (.mv (.t 44))⟩])
 (.seq
 (.reg
 [⟨(some 45), none, (.mv (.t 2))⟩, ⟨(some 46), none, (.cv .u64 (.t 45))⟩, ⟨(some 47), none, (.mv (.t 15))⟩, ⟨(some 48), none, (.ar .add .i64 (.t 47) (.c (.int .i64 1)))⟩, ⟨(some 49), none, (.cv .u64 (.t 48))⟩, ⟨(some 50), none, (.dv true .u64 (.t 46) (.t 49))⟩, ⟨(some 51), none, (.cv .i64 (.t 50))⟩, ⟨(some 2), none, (.mv (.t 51))⟩])
 (.seq
 (.reg
 [⟨(some 52), none, (.mv (.t 3))⟩, ⟨(some 53), none, (.cv .u64 (.t 52))⟩, ⟨(some 54), none, (.mv (.t 15))⟩, ⟨(some 55), none, (.mv (.t 2))⟩, ⟨(some 56), none, (.ar .sub .i64 (.t 54) (.t 55))⟩, ⟨(some 57), none, (.ar .add .i64 (.t 56) (.c (.int .i64 1)))⟩, ⟨(some 58), none, (.cv .u64 (.t 57))⟩, ⟨(some 59), none, (.dv true .u64 (.t 53) (.t 58))⟩, ⟨(some 60), none, (.cv .i64 (.t 59))⟩, ⟨(some 3), none, (.mv (.t 60))⟩])
 (.seq
 (.reg
 [⟨(some 61), none, (.mv (.t 4))⟩, ⟨(some 62), none, (.cv .u64 (.t 61))⟩, ⟨(some 63), none, (.mv (.t 3))⟩, ⟨(some 64), none, (.ar .add .i64 (.t 63) (.c (.int .i64 1)))⟩, ⟨(some 65), none, (.cv .u64 (.t 64))⟩, ⟨(some 66), none, (.dv true .u64 (.t 62) (.t 65))⟩, ⟨(some 67), none, (.cv .i64 (.t 66))⟩, ⟨(some 4), none, (.mv (.t 67))⟩])
 (.seq
 (.reg
 [⟨(some 69), none, (.mv (.t 11))⟩, ⟨(some 70), none, (.mv (.t 13))⟩, ⟨(some 71), none, (.mv (.t 2))⟩, ⟨(some 72), none, (.mv (.t 3))⟩, ⟨(some 73), none, (.call fn_lines_Feeds [(.t 69), (.t 70), (.t 71), (.t 72)])⟩, ⟨(some 68), none, (.mv (.t 73))⟩, ⟨(some 74), none, (.ext (.t 68) 0)⟩, ⟨(some 75), none, (.ext (.t 68) 1)⟩, ⟨(some 16), none, (.mv (.t 74))⟩, ⟨(some 17), none, (.mv (.t 75))⟩])
 (.seq
 (.reg
 [⟨(some 77), none, (.mv (.t 11))⟩, ⟨(some 78), none, (.mv (.t 13))⟩, ⟨(some 79), none, (.mv (.t 2))⟩, ⟨(some 80), none, (.mv (.t 4))⟩, ⟨(some 81), none, (.call fn_lines_Feeds [(.t 77), (.t 78), (.t 79), (.t 80)])⟩, ⟨(some 76), none, (.mv (.t 81))⟩, ⟨(some 82), none, (.ext (.t 76) 0)⟩, ⟨(some 83), none, (.ext (.t 76) 1)⟩, ⟨(some 18), none, (.mv (.t 82))⟩, ⟨(some 19), none, (.mv (.t 83))⟩])
 (.seq
 (.reg
 [⟨(some 85), none, (.mv (.t 11))⟩, ⟨(some 86), none, (.mv (.t 13))⟩, ⟨(some 87), none, (.mv (.t 2))⟩, ⟨(some 88), none, (.mv (.t 4))⟩, ⟨(some 89), none, (.ar .add .i64 (.t 87) (.t 88))⟩, ⟨(some 90), none, (.mv (.t 3))⟩, ⟨(some 91), none, (.mv (.t 4))⟩, ⟨(some 92), none, (.ar .sub .i64 (.t 90) (.t 91))⟩, ⟨(some 93), none, (.call fn_lines_Feeds [(.t 85), (.t 86), (.t 89), (.t 92)])⟩, ⟨(some 84), none, (.mv (.t 93))⟩, ⟨(some 94), none, (.ext (.t 84) 0)⟩, ⟨(some 95), none, (.ext (.t 84) 1)⟩, ⟨(some 20), none, (.mv (.t 94))⟩, ⟨(some 21), none, (.mv (.t 95))⟩])
 (.seq
 (.reg
 [⟨(some 97), none, (.mv (.t 11))⟩, ⟨(some 98), none, (.mv (.t 13))⟩, ⟨(some 99), none, (.bld [(.int .u64 0), (.int .u64 0), (.int .u64 0), (.int .u64 0)] [(0, (1, (.c (.int .u64 1024))))])⟩, ⟨(some 100), none, (.mv (.t 2))⟩, ⟨(some 101), none, (.mv (.t 3))⟩, ⟨(some 102), none, (.call fn_access_Count [(.t 97), (.t 98), (.t 99), (.t 100), (.t 101)])⟩, ⟨(some 96), none, (.mv (.t 102))⟩, ⟨(some 103), none, (.ext (.t 96) 0)⟩, ⟨(some 104), none, (.ext (.t 96) 1)⟩, ⟨(some 22), none, (.mv (.t 103))⟩, ⟨(some 23), none, (.mv (.t 104))⟩])
 (.seq
 (.reg
 [⟨(some 105), none, (.mv (.t 17))⟩, ⟨(some 106), none, (.eqn .ifc false (.t 105))⟩, ⟨(some 107), none, (.mv (.t 106))⟩, ⟨(some 108), (some (107, true)), (.mv (.t 19))⟩, ⟨(some 109), (some (107, true)), (.eqn .ifc false (.t 108))⟩, ⟨(some 110), none, (.pick (.t 107) (.t 109) (.c (.bool false)))⟩, ⟨(some 111), none, (.mv (.t 110))⟩, ⟨(some 112), (some (111, true)), (.mv (.t 21))⟩, ⟨(some 113), (some (111, true)), (.eqn .ifc false (.t 112))⟩, ⟨(some 114), none, (.pick (.t 111) (.t 113) (.c (.bool false)))⟩, ⟨(some 115), none, (.mv (.t 114))⟩, ⟨(some 116), (some (115, true)), (.mv (.t 23))⟩, ⟨(some 117), (some (115, true)), (.eqn .ifc false (.t 116))⟩, ⟨(some 118), none, (.pick (.t 115) (.t 117) (.c (.bool false)))⟩, ⟨(some 119), none, (.mv (.t 118))⟩, ⟨(some 120), (some (119, true)), (.mv (.t 18))⟩, ⟨(some 121), (some (119, true)), (.mv (.t 20))⟩, ⟨(some 122), (some (119, true)), (.ar .add .i64 (.t 120) (.t 121))⟩, ⟨(some 123), (some (119, true)), (.mv (.t 16))⟩, ⟨(some 124), (some (119, true)), (.cmp .eql .i64 (.t 122) (.t 123))⟩, ⟨(some 125), none, (.pick (.t 119) (.t 124) (.c (.bool false)))⟩, ⟨(some 126), none, (.mv (.t 125))⟩, ⟨(some 127), (some (126, true)), (.mv (.t 22))⟩, ⟨(some 128), (some (126, true)), (.mv (.t 16))⟩, ⟨(some 129), (some (126, true)), (.cmp .eql .i64 (.t 127) (.t 128))⟩, ⟨(some 130), none, (.pick (.t 126) (.t 129) (.c (.bool false)))⟩, ⟨(some 10), none, (.mv (.t 130))⟩])
 .ret)))))))))))))
def ts_evergreenlaw19_LinesSums : List (Nat × Tr) := []
set_option maxRecDepth 100000 in
set_option maxHeartbeats 4000000 in
theorem ok_evergreenlaw19_LinesSums : irOf Try.prog fn_evergreenlaw19_LinesSums [] ts_evergreenlaw19_LinesSums = some (131, [(.t 10)], ir_evergreenlaw19_LinesSums) := by kernel_rfl
end Go.Proofs.Ytohlphngnhcbfaa
