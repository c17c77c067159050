/- The small forms of functions of the program, with the equations that say so: written by a program (irtool.py). No condition. -/
import Derived.Test.YtagoedllflalpaaK3
import Derived.Test.YtagoedllflalpaaProg
namespace Go.Proofs.Ytagoedllflalpaa
open Go.EG
abbrev fn_evergreenlaw16_AccessPaths : Nat := 5
def ir_evergreenlaw16_AccessPaths : C :=
 (.seq
 (.reg
 [⟨(some 6), none, (.mv (.c (.bool false)))⟩])
 (.seq
 (.seq
 (.reg
 [⟨(some 20), none, (.call fn_evergreenlaw16_awake [])⟩, ⟨(some 21), none, (.not (.t 20))⟩, ⟨(some 22), none, (.mv (.t 21))⟩, ⟨(some 23), (some (22, false)), (.mv (.t 0))⟩, ⟨(some 24), (some (22, false)), (.lens (.t 23))⟩, ⟨(some 25), (some (22, false)), (.cmp .gtr .i64 (.t 24) (.c (.int .i64 40)))⟩, ⟨(some 26), none, (.pick (.t 22) (.c (.bool true)) (.t 25))⟩])
 (.cond
 (.t 26)
 (.seq
 (.reg
 [⟨(some 27), none, (.call fn_evergreenlaw16_awake [])⟩, ⟨(some 6), none, (.mv (.t 27))⟩])
 .ret)
 .skip))
 (.seq
 (.reg
 [⟨(some 29), none, (.mv (.t 0))⟩, ⟨(some 30), none, (.mv (.t 1))⟩, ⟨(some 31), none, (.call fn_evergreenlaw16_begun [(.t 29), (.t 30)])⟩, ⟨(some 28), none, (.mv (.t 31))⟩, ⟨(some 32), none, (.ext (.t 28) 0)⟩, ⟨(some 33), none, (.ext (.t 28) 1)⟩, ⟨(some 34), none, (.ext (.t 28) 2)⟩, ⟨(some 35), none, (.ext (.t 28) 3)⟩, ⟨(some 8), none, (.alc 8 ty_evergreenref12_Store [(.slice none 0 0), (.slice none 0 0)])⟩, ⟨(some 7), none, (.mv (.t 32))⟩, ⟨none, none, (.st 2 (.t 8) (.t 33))⟩, ⟨(some 9), none, (.mv (.t 34))⟩, ⟨(some 10), none, (.mv (.t 35))⟩])
 (.seq
 (.seq
 (.reg
 [⟨(some 36), none, (.mv (.t 10))⟩, ⟨(some 37), none, (.not (.t 36))⟩])
 (.cond
 (.t 37)
 (.seq
 (.reg
 [⟨(some 6), none, (.mv (.c (.bool false)))⟩])
 .ret)
 .skip))
 (.seq
 (.drb
 [⟨(some 38), none, (.mv (.t 7))⟩, ⟨(some 39), none, (.call fn_P_intern_Store_Len [(.t 38)])⟩, ⟨(some 40), none, (.lda 2 [.slc, .slc] (.t 8))⟩, ⟨(some 41), none, (.mv (.t 9))⟩, ⟨(some 42), none, (.call fn_evergreenref12_Length [(.t 40), (.t 41)])⟩, ⟨(some 11), none, (.mv (.t 39))⟩, ⟨(some 12), none, (.mv (.t 42))⟩]
 (.mov 0 (.take 2 (.mov 3 (.alt 1 true (.take 4 (.mov 5 (.mov 6 .done))) .nil)))))
 (.seq
 (.reg
 [⟨(some 44), none, (.mv (.t 7))⟩, ⟨(some 45), none, (.mv (.t 9))⟩, ⟨(some 46), none, (.mv (.t 2))⟩, ⟨(some 47), none, (.call fn_access_Path [(.t 44), (.t 45), (.t 46)])⟩, ⟨(some 43), none, (.mv (.t 47))⟩, ⟨(some 48), none, (.ext (.t 43) 0)⟩, ⟨(some 49), none, (.ext (.t 43) 1)⟩, ⟨(some 13), none, (.mv (.t 48))⟩, ⟨(some 14), none, (.mv (.t 49))⟩])
 (.seq
 (.reg
 [⟨(some 51), none, (.mv (.t 7))⟩, ⟨(some 52), none, (.mv (.t 9))⟩, ⟨(some 53), none, (.mv (.t 2))⟩, ⟨(some 54), none, (.call fn_access_At [(.t 51), (.t 52), (.t 53)])⟩, ⟨(some 50), none, (.mv (.t 54))⟩, ⟨(some 55), none, (.ext (.t 50) 0)⟩, ⟨(some 56), none, (.ext (.t 50) 1)⟩, ⟨(some 15), none, (.mv (.t 55))⟩, ⟨(some 16), none, (.mv (.t 56))⟩])
 (.seq
 (.seq
 (.reg
 [⟨(some 57), none, (.mv (.t 2))⟩, ⟨(some 58), none, (.cmp .lss .i64 (.t 57) (.c (.int .i64 0)))⟩, ⟨(some 59), none, (.mv (.t 58))⟩, ⟨(some 60), (some (59, false)), (.mv (.t 2))⟩, ⟨(some 61), (some (59, false)), (.mv (.t 12))⟩, ⟨(some 62), (some (59, false)), (.cmp .geq .i64 (.t 60) (.t 61))⟩, ⟨(some 63), none, (.pick (.t 59) (.c (.bool true)) (.t 62))⟩])
 (.cond
 (.t 63)
 (.seq
 (.reg
 [⟨(some 64), none, (.mv (.t 14))⟩, ⟨(some 65), none, (.call fn_evergreenbase_Is [(.t 64), (.c (.int .i64 1))])⟩, ⟨(some 66), none, (.mv (.t 65))⟩, ⟨(some 67), (some (66, true)), (.mv (.t 16))⟩, ⟨(some 68), (some (66, true)), (.call fn_evergreenbase_Is [(.t 67), (.c (.int .i64 1))])⟩, ⟨(some 69), none, (.pick (.t 66) (.t 68) (.c (.bool false)))⟩, ⟨(some 70), none, (.mv (.t 69))⟩, ⟨(some 71), (some (70, true)), (.mv (.t 13))⟩, ⟨(some 72), (some (70, true)), (.lens (.t 71))⟩, ⟨(some 73), (some (70, true)), (.cmp .eql .i64 (.t 72) (.c (.int .i64 0)))⟩, ⟨(some 74), none, (.pick (.t 70) (.t 73) (.c (.bool false)))⟩, ⟨(some 75), none, (.mv (.t 74))⟩, ⟨(some 76), (some (75, true)), (.mv (.t 15))⟩, ⟨(some 77), (some (75, true)), (.cmp .eql .u8 (.t 76) (.c (.int .u8 0)))⟩, ⟨(some 78), none, (.pick (.t 75) (.t 77) (.c (.bool false)))⟩, ⟨(some 6), none, (.mv (.t 78))⟩])
 .ret)
 .skip))
 (.seq
 (.reg
 [⟨(some 80), none, (.mv (.t 7))⟩, ⟨(some 81), none, (.mv (.t 9))⟩, ⟨(some 82), none, (.call fn_P_intern_Store_Depth [(.t 80), (.t 81)])⟩, ⟨(some 79), none, (.mv (.t 82))⟩, ⟨(some 83), none, (.ext (.t 79) 0)⟩, ⟨(some 84), none, (.ext (.t 79) 1)⟩, ⟨(some 17), none, (.mv (.t 83))⟩, ⟨(some 18), none, (.mv (.t 84))⟩])
 (.seq
 (.reg
 [⟨(some 85), none, (.fa 0 (.t 8))⟩, ⟨(some 86), none, (.ld .slc (.t 85))⟩, ⟨(some 87), none, (.fa 1 (.t 8))⟩, ⟨(some 88), none, (.ld .slc (.t 87))⟩, ⟨(some 89), none, (.mv (.t 9))⟩, ⟨(some 90), none, (.mv (.t 2))⟩, ⟨(some 91), none, (.call fn_evergreenref16_Path [(.t 86), (.t 88), (.t 89), (.t 90)])⟩, ⟨(some 19), none, (.mv (.t 91))⟩])
 (.seq
 (.drw
 [⟨(some 92), none, (.mv (.t 14))⟩, ⟨(some 93), none, (.eqn .ifc false (.t 92))⟩, ⟨(some 94), none, (.mv (.t 93))⟩, ⟨(some 95), (some (94, true)), (.mv (.t 16))⟩, ⟨(some 96), (some (94, true)), (.eqn .ifc false (.t 95))⟩, ⟨(some 97), none, (.pick (.t 94) (.t 96) (.c (.bool false)))⟩, ⟨(some 98), none, (.mv (.t 97))⟩, ⟨(some 99), (some (98, true)), (.mv (.t 18))⟩, ⟨(some 100), (some (98, true)), (.eqn .ifc false (.t 99))⟩, ⟨(some 101), none, (.pick (.t 98) (.t 100) (.c (.bool false)))⟩, ⟨(some 102), none, (.mv (.t 101))⟩, ⟨(some 103), (some (102, true)), (.mv (.t 13))⟩, ⟨(some 104), (some (102, true)), (.mv (.t 19))⟩, ⟨(some 105), (some (102, true)), (.call fn_evergreenbase_IDs [(.t 103), (.t 104)])⟩, ⟨(some 106), none, (.pick (.t 102) (.t 105) (.c (.bool false)))⟩, ⟨(some 107), none, (.mv (.t 106))⟩, ⟨(some 108), (some (107, true)), (.mv (.t 13))⟩, ⟨(some 109), (some (107, true)), (.lens (.t 108))⟩, ⟨(some 110), (some (107, true)), (.mv (.t 17))⟩, ⟨(some 111), (some (107, true)), (.ar .add .i64 (.t 110) (.c (.int .i64 1)))⟩, ⟨(some 112), (some (107, true)), (.cmp .leq .i64 (.t 109) (.t 111))⟩, ⟨(some 113), none, (.pick (.t 107) (.t 112) (.c (.bool false)))⟩, ⟨(some 114), none, (.mv (.t 113))⟩, ⟨(some 115), (some (114, true)), (.fa 0 (.t 8))⟩, ⟨(some 116), (some (114, true)), (.ld .slc (.t 115))⟩, ⟨(some 117), (some (114, true)), (.mv (.t 19))⟩, ⟨(some 118), (some (114, true)), (.mv (.t 19))⟩, ⟨(some 119), (some (114, true)), (.lens (.t 118))⟩, ⟨(some 120), (some (114, true)), (.ar .sub .i64 (.t 119) (.c (.int .i64 1)))⟩, ⟨(some 121), (some (114, true)), (.ia 1 (.t 117) (.t 120))⟩, ⟨(some 122), (some (114, true)), (.ld (.int .i64) (.t 121))⟩, ⟨(some 123), (some (114, true)), (.ar .sub .i64 (.t 122) (.c (.int .i64 1)))⟩, ⟨(some 124), (some (114, true)), (.ia 5 (.t 116) (.t 123))⟩, ⟨(some 125), (some (114, true)), (.fa 1 (.t 124))⟩, ⟨(some 126), (some (114, true)), (.ld (.int .u8) (.t 125))⟩, ⟨(some 127), (some (114, true)), (.mv (.t 15))⟩, ⟨(some 128), (some (114, true)), (.cmp .eql .u8 (.t 126) (.t 127))⟩, ⟨(some 129), none, (.pick (.t 114) (.t 128) (.c (.bool false)))⟩, ⟨(some 130), none, (.mv (.t 129))⟩, ⟨(some 131), (some (130, true)), (.mv (.t 7))⟩, ⟨(some 132), (some (130, true)), (.call fn_P_intern_Store_Len [(.t 131)])⟩, ⟨(some 133), (some (130, true)), (.mv (.t 11))⟩, ⟨(some 134), (some (130, true)), (.cmp .eql .i64 (.t 132) (.t 133))⟩, ⟨(some 135), none, (.pick (.t 130) (.t 134) (.c (.bool false)))⟩, ⟨(some 6), none, (.mv (.t 135))⟩]
 (.mov 0 (.take 1 (.mov 2 (.mov 3 (.take 4 (.take 5 (.mov 6 (.mov 7 (.take 8 (.take 9 (.mov 10 (.mov 11 (.mov 12 (.bar 13 (.take 14 (.mov 15 (.mov 16 (.take 17 (.mov 18 (.take 19 (.take 20 (.take 21 (.mov 22 (.take 23 (.take 24 (.mov 25 (.mov 26 (.take 27 (.take 28 (.take 29 (.take 30 (.take 31 (.take 32 (.take 33 (.take 34 (.mov 35 (.take 36 (.take 37 (.mov 38 (.mov 39 (.mov 41 (.bar 40 (.take 42 (.take 43 (.mov 44 .done))))))))))))))))))))))))))))))))))))))))))))))
 .ret)))))))))))
def ts_evergreenlaw16_AccessPaths : List (Nat × Tr) := [(6, (.mov 0 (.take 2 (.mov 3 (.alt 1 true (.take 4 (.mov 5 (.mov 6 .done))) .nil))))), (13, (.mov 0 (.take 1 (.mov 2 (.mov 3 (.take 4 (.take 5 (.mov 6 (.mov 7 (.take 8 (.take 9 (.mov 10 (.mov 11 (.mov 12 (.bar 13 (.take 14 (.mov 15 (.mov 16 (.take 17 (.mov 18 (.take 19 (.take 20 (.take 21 (.mov 22 (.take 23 (.take 24 (.mov 25 (.mov 26 (.take 27 (.take 28 (.take 29 (.take 30 (.take 31 (.take 32 (.take 33 (.take 34 (.mov 35 (.take 36 (.take 37 (.mov 38 (.mov 39 (.mov 41 (.bar 40 (.take 42 (.take 43 (.mov 44 .done))))))))))))))))))))))))))))))))))))))))))))))]
set_option maxRecDepth 100000 in
set_option maxHeartbeats 4000000 in
theorem ok_evergreenlaw16_AccessPaths : irOf Try.prog fn_evergreenlaw16_AccessPaths [2000006] ts_evergreenlaw16_AccessPaths = some (136, [(.t 6)], ir_evergreenlaw16_AccessPaths) := by kernel_rfl
end Go.Proofs.Ytagoedllflalpaa
