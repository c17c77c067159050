/- The small forms of functions of the program, with the equations that say so: written by a program (irtool.py). No condition. -/
import Derived.Test.YtagoedllflalpaaK3
import Derived.Test.YtagoedllflalpaaProg
namespace Go.Proofs.Ytagoedllflalpaa
open Go.EG
abbrev fn_evergreenlaw16_AccessGreat : Nat := 6
abbrev fn_evergreenlaw16_AccessWeights : Nat := 10
def ir_evergreenlaw16_AccessGreat : C :=
 (.seq
 (.reg
 [⟨(some 10), none, (.mv (.c (.bool false)))⟩])
 (.seq
 (.seq
 (.reg
 [⟨(some 28), none, (.call fn_evergreenlaw16_awake [])⟩, ⟨(some 29), none, (.not (.t 28))⟩, ⟨(some 30), none, (.mv (.t 29))⟩, ⟨(some 31), (some (30, false)), (.mv (.t 0))⟩, ⟨(some 32), (some (30, false)), (.lens (.t 31))⟩, ⟨(some 33), (some (30, false)), (.cmp .gtr .i64 (.t 32) (.c (.int .i64 40)))⟩, ⟨(some 34), none, (.pick (.t 30) (.c (.bool true)) (.t 33))⟩])
 (.cond
 (.t 34)
 (.seq
 (.reg
 [⟨(some 35), none, (.call fn_evergreenlaw16_awake [])⟩, ⟨(some 10), none, (.mv (.t 35))⟩])
 .ret)
 .skip))
 (.seq
 (.reg
 [⟨(some 37), none, (.mv (.t 0))⟩, ⟨(some 38), none, (.mv (.t 1))⟩, ⟨(some 39), none, (.call fn_evergreenlaw16_begun [(.t 37), (.t 38)])⟩, ⟨(some 36), none, (.mv (.t 39))⟩, ⟨(some 40), none, (.ext (.t 36) 0)⟩, ⟨(some 41), none, (.ext (.t 36) 1)⟩, ⟨(some 42), none, (.ext (.t 36) 2)⟩, ⟨(some 43), none, (.ext (.t 36) 3)⟩, ⟨(some 12), none, (.alc 12 ty_evergreenref12_Store [(.slice none 0 0), (.slice none 0 0)])⟩, ⟨(some 11), none, (.mv (.t 40))⟩, ⟨none, none, (.st 2 (.t 12) (.t 41))⟩, ⟨(some 13), none, (.mv (.t 42))⟩, ⟨(some 14), none, (.mv (.t 43))⟩])
 (.seq
 (.seq
 (.reg
 [⟨(some 44), none, (.mv (.t 14))⟩, ⟨(some 45), none, (.not (.t 44))⟩])
 (.cond
 (.t 45)
 (.seq
 (.reg
 [⟨(some 10), none, (.mv (.c (.bool false)))⟩])
 .ret)
 .skip))
 (.seq
 (.reg
 [⟨(some 46), none, (.lda 2 [.slc, .slc] (.t 12))⟩, ⟨(some 47), none, (.mv (.t 13))⟩, ⟨(some 48), none, (.call fn_evergreenref12_Length [(.t 46), (.t 47)])⟩, ⟨(some 15), none, (.mv (.t 48))⟩])
 (.seq
 (.reg
 [⟨(some 50), none, (.mv (.t 15))⟩, ⟨(some 51), none, (.mv (.t 2))⟩, ⟨(some 52), none, (.mv (.t 3))⟩, ⟨(some 53), none, (.call fn_evergreenlaw16_inside [(.t 50), (.t 51), (.t 52)])⟩, ⟨(some 49), none, (.mv (.t 53))⟩, ⟨(some 54), none, (.ext (.t 49) 0)⟩, ⟨(some 55), none, (.ext (.t 49) 1)⟩, ⟨(some 2), none, (.mv (.t 54))⟩, ⟨(some 3), none, (.mv (.t 55))⟩])
 (.seq
 (.reg
 [⟨(some 56), none, (.mv (.t 4))⟩, ⟨(some 57), none, (.cv .u64 (.t 56))⟩, ⟨(some 58), none, (.mv (.t 3))⟩, ⟨(some 59), none, (.ar .add .i64 (.t 58) (.c (.int .i64 1)))⟩, ⟨(some 60), none, (.cv .u64 (.t 59))⟩, ⟨(some 61), none, (.dv true .u64 (.t 57) (.t 60))⟩, ⟨(some 62), none, (.cv .i64 (.t 61))⟩, ⟨(some 4), none, (.mv (.t 62))⟩])
 (.seq
 (.reg
 [⟨(some 64), none, (.mv (.t 11))⟩, ⟨(some 65), none, (.mv (.t 13))⟩, ⟨(some 66), none, (.mv (.t 2))⟩, ⟨(some 67), none, (.mv (.t 3))⟩, ⟨(some 68), none, (.call fn_access_Weight [(.t 64), (.t 65), (.t 66), (.t 67)])⟩, ⟨(some 63), none, (.mv (.t 68))⟩, ⟨(some 69), none, (.ext (.t 63) 0)⟩, ⟨(some 70), none, (.ext (.t 63) 1)⟩, ⟨(some 16), none, (.alc 16 ty_api_Weight [(.int .i64 0), (.int .i64 0), (.int .i64 0), (.int .i64 0), (.int .u64 0), (.int .u64 0)])⟩, ⟨none, none, (.st 6 (.t 16) (.t 69))⟩, ⟨(some 17), none, (.mv (.t 70))⟩])
 (.seq
 (.reg
 [⟨(some 72), none, (.mv (.t 11))⟩, ⟨(some 73), none, (.mv (.t 13))⟩, ⟨(some 74), none, (.mv (.t 2))⟩, ⟨(some 75), none, (.mv (.t 4))⟩, ⟨(some 76), none, (.call fn_access_Weight [(.t 72), (.t 73), (.t 74), (.t 75)])⟩, ⟨(some 71), none, (.mv (.t 76))⟩, ⟨(some 77), none, (.ext (.t 71) 0)⟩, ⟨(some 78), none, (.ext (.t 71) 1)⟩, ⟨(some 18), none, (.alc 18 ty_api_Weight [(.int .i64 0), (.int .i64 0), (.int .i64 0), (.int .i64 0), (.int .u64 0), (.int .u64 0)])⟩, ⟨none, none, (.st 6 (.t 18) (.t 77))⟩, ⟨(some 19), none, (.mv (.t 78))⟩])
 (.seq
 (.reg
 [⟨(some 80), none, (.mv (.t 11))⟩, ⟨(some 81), none, (.mv (.t 13))⟩, ⟨(some 82), none, (.mv (.t 2))⟩, ⟨(some 83), none, (.mv (.t 4))⟩, ⟨(some 84), none, (.ar .add .i64 (.t 82) (.t 83))⟩, ⟨(some 85), none, (.mv (.t 3))⟩, ⟨(some 86), none, (.mv (.t 4))⟩, ⟨(some 87), none, (.ar .sub .i64 (.t 85) (.t 86))⟩, ⟨(some 88), none, (.call fn_access_Weight [(.t 80), (.t 81), (.t 84), (.t 87)])⟩, ⟨(some 79), none, (.mv (.t 88))⟩, ⟨(some 89), none, (.ext (.t 79) 0)⟩, ⟨(some 90), none, (.ext (.t 79) 1)⟩, ⟨(some 20), none, (.alc 20 ty_api_Weight [(.int .i64 0), (.int .i64 0), (.int .i64 0), (.int .i64 0), (.int .u64 0), (.int .u64 0)])⟩, ⟨none, none, (.st 6 (.t 20) (.t 89))⟩, ⟨(some 21), none, (.mv (.t 90))⟩])
 (.seq
 (.reg
 [⟨(some 92), none, (.lda 6 [(.int .i64), (.int .i64), (.int .i64), (.int .i64), (.int .u64), (.int .u64)] (.t 18))⟩, ⟨(some 93), none, (.lda 6 [(.int .i64), (.int .i64), (.int .i64), (.int .i64), (.int .u64), (.int .u64)] (.t 20))⟩, ⟨(some 94), none, (.call fn_weight_Join [(.t 92), (.t 93)])⟩, ⟨(some 91), none, (.mv (.t 94))⟩, ⟨(some 95), none, (.ext (.t 91) 0)⟩, ⟨(some 96), none, (.ext (.t 91) 1)⟩, ⟨(some 22), none, (.alc 22 ty_api_Weight [(.int .i64 0), (.int .i64 0), (.int .i64 0), (.int .i64 0), (.int .u64 0), (.int .u64 0)])⟩, ⟨none, none, (.st 6 (.t 22) (.t 95))⟩, ⟨(some 23), none, (.mv (.t 96))⟩])
 (.seq
 (.reg
 [⟨(some 98), none, (.mv (.t 11))⟩, ⟨(some 99), none, (.mv (.t 13))⟩, ⟨(some 100), none, (.mv (.t 15))⟩, ⟨(some 101), none, (.call fn_access_Weight [(.t 98), (.t 99), (.c (.int .i64 0)), (.t 100)])⟩, ⟨(some 97), none, (.mv (.t 101))⟩, ⟨(some 102), none, (.ext (.t 97) 0)⟩, ⟨(some 103), none, (.ext (.t 97) 1)⟩, ⟨(some 24), none, (.alc 24 ty_api_Weight [(.int .i64 0), (.int .i64 0), (.int .i64 0), (.int .i64 0), (.int .u64 0), (.int .u64 0)])⟩, ⟨none, none, (.st 6 (.t 24) (.t 102))⟩, ⟨(some 25), none, (.mv (.t 103))⟩])
 (.seq
 (.reg
 [⟨(some 105), none, (.mv (.t 11))⟩, ⟨(some 106), none, (.mv (.t 13))⟩, ⟨(some 107), none, (.call fn_P_intern_Store_Weight [(.t 105), (.t 106)])⟩, ⟨(some 104), none, (.mv (.t 107))⟩, ⟨(some 108), none, (.ext (.t 104) 0)⟩, ⟨(some 109), none, (.ext (.t 104) 1)⟩, ⟨(some 26), none, (.alc 26 ty_api_Weight [(.int .i64 0), (.int .i64 0), (.int .i64 0), (.int .i64 0), (.int .u64 0), (.int .u64 0)])⟩, ⟨none, none, (.st 6 (.t 26) (.t 108))⟩, ⟨(some 27), none, (.mv (.t 109))⟩])
 (.seq
 (.reg
 [⟨(some 110), none, (.mv (.t 17))⟩, ⟨(some 111), none, (.eqn .ifc false (.t 110))⟩, ⟨(some 112), none, (.mv (.t 111))⟩, ⟨(some 113), (some (112, true)), (.mv (.t 19))⟩, ⟨(some 114), (some (112, true)), (.eqn .ifc false (.t 113))⟩, ⟨(some 115), none, (.pick (.t 112) (.t 114) (.c (.bool false)))⟩, ⟨(some 116), none, (.mv (.t 115))⟩, ⟨(some 117), (some (116, true)), (.mv (.t 21))⟩, ⟨(some 118), (some (116, true)), (.eqn .ifc false (.t 117))⟩, ⟨(some 119), none, (.pick (.t 116) (.t 118) (.c (.bool false)))⟩, ⟨(some 120), none, (.mv (.t 119))⟩, ⟨(some 121), (some (120, true)), (.mv (.t 23))⟩, ⟨(some 122), (some (120, true)), (.eqn .ifc false (.t 121))⟩, ⟨(some 123), none, (.pick (.t 120) (.t 122) (.c (.bool false)))⟩, ⟨(some 124), none, (.mv (.t 123))⟩, ⟨(some 125), (some (124, true)), (.mv (.t 25))⟩, ⟨(some 126), (some (124, true)), (.eqn .ifc false (.t 125))⟩, ⟨(some 127), none, (.pick (.t 124) (.t 126) (.c (.bool false)))⟩, ⟨(some 128), none, (.mv (.t 127))⟩, ⟨(some 129), (some (128, true)), (.mv (.t 27))⟩, ⟨(some 130), (some (128, true)), (.eqn .ifc false (.t 129))⟩, ⟨(some 131), none, (.pick (.t 128) (.t 130) (.c (.bool false)))⟩, ⟨(some 132), none, (.mv (.t 131))⟩, ⟨(some 133), (some (132, true)), (.lda 6 [(.int .i64), (.int .i64), (.int .i64), (.int .i64), (.int .u64), (.int .u64)] (.t 16))⟩, ⟨(some 134), (some (132, true)), (.lda 6 [(.int .i64), (.int .i64), (.int .i64), (.int .i64), (.int .u64), (.int .u64)] (.t 22))⟩, ⟨(some 135), (some (132, true)), (.eqa false [(.int .i64), (.int .i64), (.int .i64), (.int .i64), (.int .u64), (.int .u64)] (.t 133) (.t 134))⟩, ⟨(some 136), none, (.pick (.t 132) (.t 135) (.c (.bool false)))⟩, ⟨(some 137), none, (.mv (.t 136))⟩, ⟨(some 138), (some (137, true)), (.lda 6 [(.int .i64), (.int .i64), (.int .i64), (.int .i64), (.int .u64), (.int .u64)] (.t 24))⟩, ⟨(some 139), (some (137, true)), (.lda 6 [(.int .i64), (.int .i64), (.int .i64), (.int .i64), (.int .u64), (.int .u64)] (.t 26))⟩, ⟨(some 140), (some (137, true)), (.eqa false [(.int .i64), (.int .i64), (.int .i64), (.int .i64), (.int .u64), (.int .u64)] (.t 138) (.t 139))⟩, ⟨(some 141), none, (.pick (.t 137) (.t 140) (.c (.bool false)))⟩, ⟨(some 10), none, (.mv (.t 141))⟩])
 .ret))))))))))))))
def ts_evergreenlaw16_AccessGreat : List (Nat × Tr) := []
set_option maxRecDepth 100000 in
set_option maxHeartbeats 4000000 in
theorem ok_evergreenlaw16_AccessGreat : irOf Try.prog fn_evergreenlaw16_AccessGreat [] ts_evergreenlaw16_AccessGreat = some (142, [(.t 10)], ir_evergreenlaw16_AccessGreat) := by kernel_rfl
def ir_evergreenlaw16_AccessWeights : C :=
 (.seq
 (.reg
 [⟨(some 8), none, (.mv (.c (.bool false)))⟩])
 (.seq
 (.seq
 (.reg
 [⟨(some 18), none, (.call fn_evergreenlaw16_awake [])⟩, ⟨(some 19), none, (.not (.t 18))⟩, ⟨(some 20), none, (.mv (.t 19))⟩, ⟨(some 21), (some (20, false)), (.mv (.t 0))⟩, ⟨(some 22), (some (20, false)), (.lens (.t 21))⟩, ⟨(some 23), (some (20, false)), (.cmp .gtr .i64 (.t 22) (.c (.int .i64 40)))⟩, ⟨(some 24), none, (.pick (.t 20) (.c (.bool true)) (.t 23))⟩])
 (.cond
 (.t 24)
 (.seq
 (.reg
 [⟨(some 25), none, (.call fn_evergreenlaw16_awake [])⟩, ⟨(some 8), none, (.mv (.t 25))⟩])
 .ret)
 .skip))
 (.seq
 (.reg
 [⟨(some 27), none, (.mv (.t 0))⟩, ⟨(some 28), none, (.mv (.t 1))⟩, ⟨(some 29), none, (.call fn_evergreenlaw16_plain [(.t 27), (.t 28)])⟩, ⟨(some 26), none, (.mv (.t 29))⟩, ⟨(some 30), none, (.ext (.t 26) 0)⟩, ⟨(some 31), none, (.ext (.t 26) 1)⟩, ⟨(some 32), none, (.ext (.t 26) 2)⟩, ⟨(some 33), none, (.ext (.t 26) 3)⟩, ⟨(some 34), none, (.ext (.t 26) 4)⟩, ⟨(some 9), none, (.mv (.t 30))⟩, ⟨(some 10), none, (.mv (.t 31))⟩, ⟨(some 11), none, (.mv (.t 32))⟩, ⟨(some 12), none, (.mv (.t 33))⟩, ⟨(some 13), none, (.mv (.t 34))⟩])
 (.seq
 (.seq
 (.reg
 [⟨(some 35), none, (.mv (.t 12))⟩, ⟨(some 36), none, (.not (.t 35))⟩, ⟨(some 37), none, (.mv (.t 36))⟩, ⟨(some 38), (some (37, false)), (.mv (.t 13))⟩, ⟨(some 39), (some (37, false)), (.not (.t 38))⟩, ⟨(some 40), none, (.pick (.t 37) (.c (.bool true)) (.t 39))⟩])
 (.cond
 (.t 40)
 (.seq
 (.reg
 [⟨(some 41), none, (.mv (.t 12))⟩, ⟨(some 8), none, (.mv (.t 41))⟩])
 .ret)
 .skip))
 (.seq
 (.reg
 [⟨(some 42), none, (.mv (.t 9))⟩, ⟨(some 43), none, (.call fn_P_intern_Store_Len [(.t 42)])⟩, ⟨(some 14), none, (.mv (.t 43))⟩])
 (.seq
 (.reg
 [⟨(some 45), none, (.mv (.t 9))⟩, ⟨(some 46), none, (.mv (.t 10))⟩, ⟨(some 47), none, (.mv (.t 2))⟩, ⟨(some 48), none, (.mv (.t 3))⟩, ⟨(some 49), none, (.call fn_access_Weight [(.t 45), (.t 46), (.t 47), (.t 48)])⟩, ⟨(some 44), none, (.mv (.t 49))⟩, ⟨(some 50), none, (.ext (.t 44) 0)⟩, ⟨(some 51), none, (.ext (.t 44) 1)⟩, ⟨(some 15), none, (.alc 15 ty_api_Weight [(.int .i64 0), (.int .i64 0), (.int .i64 0), (.int .i64 0), (.int .u64 0), (.int .u64 0)])⟩, ⟨none, none, (.st 6 (.t 15) (.t 50))⟩, ⟨(some 16), none, (.mv (.t 51))⟩])
 (.seq
 (.seq
 (.reg
 [⟨(some 52), none, (.mv (.t 2))⟩, ⟨(some 53), none, (.mv (.t 3))⟩, ⟨(some 54), none, (.mv (.t 11))⟩, ⟨(some 55), none, (.lens (.t 54))⟩, ⟨(some 56), none, (.call fn_evergreenref16_Valid [(.t 52), (.t 53), (.t 55)])⟩, ⟨(some 57), none, (.not (.t 56))⟩])
 (.cond
 (.t 57)
 (.seq
 (.reg
 [⟨(some 58), none, (.mv (.t 16))⟩, ⟨(some 59), none, (.call fn_evergreenbase_Is [(.t 58), (.c (.int .i64 1))])⟩, ⟨(some 60), none, (.mv (.t 59))⟩, ⟨(some 61), (some (60, true)), (.lda 6 [(.int .i64), (.int .i64), (.int .i64), (.int .i64), (.int .u64), (.int .u64)] (.t 15))⟩, ⟨(some 62), (some (60, true)), (.bld [(.int .i64 0), (.int .i64 0), (.int .i64 0), (.int .i64 0), (.int .u64 0), (.int .u64 0)] [])⟩, ⟨(some 63), (some (60, true)), (.eqa false [(.int .i64), (.int .i64), (.int .i64), (.int .i64), (.int .u64), (.int .u64)] (.t 61) (.t 62))⟩, ⟨(some 64), none, (.pick (.t 60) (.t 63) (.c (.bool false)))⟩, ⟨(some 65), none, (.mv (.t 64))⟩, ⟨(some 66), (some (65, true)), (.mv (.t 9))⟩, ⟨(some 67), (some (65, true)), (.call fn_P_intern_Store_Len [(.t 66)])⟩, ⟨(some 68), (some (65, true)), (.mv (.t 14))⟩, ⟨(some 69), (some (65, true)), (.cmp .eql .i64 (.t 67) (.t 68))⟩, ⟨(some 70), none, (.pick (.t 65) (.t 69) (.c (.bool false)))⟩, ⟨(some 8), none, (.mv (.t 70))⟩])
 .ret)
 .skip))
 (.seq
 (.reg
 [⟨(some 71), none, (.mv (.t 11))⟩, ⟨(some 72), none, (.mv (.t 2))⟩, ⟨(some 73), none, (.mv (.t 2))⟩, ⟨(some 74), none, (.mv (.t 3))⟩, ⟨(some 75), none, (.ar .add .i64 (.t 73) (.t 74))⟩, ⟨(some 76), none, (.slc 1 (.t 71) (some (.t 72)) (some (.t 75)))⟩, ⟨(some 77), none, (.call fn_evergreenref16_Weight [(.t 76)])⟩, ⟨(some 17), none, (.alc 17 ty_api_Weight [(.int .i64 0), (.int .i64 0), (.int .i64 0), (.int .i64 0), (.int .u64 0), (.int .u64 0)])⟩, ⟨none, none, (.st 6 (.t 17) (.t 77))⟩])
 (.seq
 (.reg
 [⟨(some 78), none, (.mv (.t 11))⟩, ⟨(some 79), none, (.mv (.t 2))⟩, ⟨(some 80), none, (.mv (.t 2))⟩, ⟨(some 81), none, (.mv (.t 3))⟩, ⟨(some 82), none, (.ar .add .i64 (.t 80) (.t 81))⟩, ⟨(some 83), none, (.slc 1 (.t 78) (some (.t 79)) (some (.t 82)))⟩, ⟨(some 84), none, (.call fn_evergreenref05_Of [(.t 83)])⟩, ⟨(some 85), none, (.fa 4 (.t 17))⟩, ⟨none, none, (.st 2 (.t 85) (.t 84))⟩])
 (.seq
 (.reg
 [⟨(some 86), none, (.mv (.t 16))⟩, ⟨(some 87), none, (.eqn .ifc false (.t 86))⟩, ⟨(some 88), none, (.mv (.t 87))⟩, ⟨(some 89), (some (88, true)), (.lda 6 [(.int .i64), (.int .i64), (.int .i64), (.int .i64), (.int .u64), (.int .u64)] (.t 15))⟩, ⟨(some 90), (some (88, true)), (.lda 6 [(.int .i64), (.int .i64), (.int .i64), (.int .i64), (.int .u64), (.int .u64)] (.t 17))⟩, ⟨(some 91), (some (88, true)), (.eqa false [(.int .i64), (.int .i64), (.int .i64), (.int .i64), (.int .u64), (.int .u64)] (.t 89) (.t 90))⟩, ⟨(some 92), none, (.pick (.t 88) (.t 91) (.c (.bool false)))⟩, ⟨(some 93), none, (.mv (.t 92))⟩, ⟨(some 94), (some (93, true)), (.mv (.t 9))⟩, ⟨(some 95), (some (93, true)), (.call fn_P_intern_Store_Len [(.t 94)])⟩, ⟨(some 96), (some (93, true)), (.mv (.t 14))⟩, ⟨(some 97), (some (93, true)), (.cmp .eql .i64 (.t 95) (.t 96))⟩, ⟨(some 98), none, (.pick (.t 93) (.t 97) (.c (.bool false)))⟩, ⟨(some 8), none, (.mv (.t 98))⟩])
 .ret))))))))))
def ts_evergreenlaw16_AccessWeights : List (Nat × Tr) := []
set_option maxRecDepth 100000 in
set_option maxHeartbeats 4000000 in
theorem ok_evergreenlaw16_AccessWeights : irOf Try.prog fn_evergreenlaw16_AccessWeights [] ts_evergreenlaw16_AccessWeights = some (99, [(.t 8)], ir_evergreenlaw16_AccessWeights) := by kernel_rfl
end Go.Proofs.Ytagoedllflalpaa
