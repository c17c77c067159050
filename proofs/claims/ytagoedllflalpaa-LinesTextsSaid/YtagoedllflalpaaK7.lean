/- The small forms of functions of the program, with the equations that say so: written by a program (irtool.py). No condition. -/
import Derived.Test.YtagoedllflalpaaK3
import Derived.Test.YtagoedllflalpaaProg
namespace Go.Proofs.Ytagoedllflalpaa
open Go.EG
abbrev fn_evergreenlaw19_LinesTexts : Nat := 4
def ir_evergreenlaw19_LinesTexts : C :=
 (.seq
 (.reg
 [⟨(some 6), none, (.mv (.c (.bool false)))⟩])
 (.seq
 (.seq
 (.reg
 [⟨(some 25), none, (.call fn_evergreenlaw19_awake [])⟩, ⟨(some 26), none, (.not (.t 25))⟩, ⟨(some 27), none, (.mv (.t 26))⟩, ⟨(some 28), (some (27, false)), (.mv (.t 0))⟩, ⟨(some 29), (some (27, false)), (.lens (.t 28))⟩, ⟨(some 30), (some (27, false)), (.cmp .gtr .i64 (.t 29) (.c (.int .i64 40)))⟩, ⟨(some 31), none, (.pick (.t 27) (.c (.bool true)) (.t 30))⟩])
 (.cond
 (.t 31)
 (.seq
 (.reg
 [⟨(some 32), none, (.call fn_evergreenlaw19_awake [])⟩, ⟨(some 6), none, (.mv (.t 32))⟩])
 .ret)
 .skip))
 (.seq
 (.reg
 [⟨(some 34), none, (.mv (.t 0))⟩, ⟨(some 35), none, (.mv (.t 1))⟩, ⟨(some 36), none, (.call fn_evergreenlaw19_begun [(.t 34), (.t 35)])⟩, ⟨(some 33), none, (.mv (.t 36))⟩, ⟨(some 37), none, (.ext (.t 33) 0)⟩, ⟨(some 38), none, (.ext (.t 33) 1)⟩, ⟨(some 39), none, (.ext (.t 33) 2)⟩, ⟨(some 40), none, (.ext (.t 33) 3)⟩, ⟨(some 8), none, (.alc 8 ty_evergreenref12_Store [(.slice none 0 0), (.slice none 0 0)])⟩, ⟨(some 7), none, (.mv (.t 37))⟩, ⟨none, none, (.st 2 (.t 8) (.t 38))⟩, ⟨(some 9), none, (.mv (.t 39))⟩, ⟨(some 10), none, (.mv (.t 40))⟩])
 (.seq
 (.reg
 [⟨(some 42), none, (.lda 2 [.slc, .slc] (.t 8))⟩, ⟨(some 43), none, (.mv (.t 9))⟩, ⟨(some 44), none, (.call fn_evergreenref12_Text [(.t 42), (.t 43), (.c (.int .i64 4096))])⟩, ⟨(some 41), none, (.mv (.t 44))⟩, ⟨(some 45), none, (.ext (.t 41) 0)⟩, ⟨(some 46), none, (.ext (.t 41) 1)⟩, ⟨(some 11), none, (.mv (.t 45))⟩, ⟨(some 12), none, (.mv (.t 46))⟩])
 (.seq
 (.seq
 (.reg
 [⟨(some 47), none, (.mv (.t 10))⟩, ⟨(some 48), none, (.not (.t 47))⟩, ⟨(some 49), none, (.mv (.t 48))⟩, ⟨(some 50), (some (49, false)), (.mv (.t 12))⟩, ⟨(some 51), (some (49, false)), (.not (.t 50))⟩, ⟨(some 52), none, (.pick (.t 49) (.c (.bool true)) (.t 51))⟩])
 (.cond
 (.t 52)
 (.seq
 (.reg
 [⟨(some 53), none, (.mv (.t 10))⟩, ⟨(some 6), none, (.mv (.t 53))⟩])
 .ret)
 .skip))
 (.seq
 (.reg
 [⟨(some 54), none, (.mv (.t 7))⟩, ⟨(some 55), none, (.call fn_P_intern_Store_Len [(.t 54)])⟩, ⟨(some 56), none, (.mv (.t 11))⟩, ⟨(some 57), none, (.call fn_evergreenref19_Lines [(.t 56)])⟩, ⟨(some 13), none, (.mv (.t 55))⟩, ⟨(some 14), none, (.mv (.t 57))⟩])
 (.seq
 (.reg
 [⟨(some 59), none, (.mv (.t 7))⟩, ⟨(some 60), none, (.mv (.t 9))⟩, ⟨(some 61), none, (.call fn_lines_Count [(.t 59), (.t 60)])⟩, ⟨(some 58), none, (.mv (.t 61))⟩, ⟨(some 62), none, (.ext (.t 58) 0)⟩, ⟨(some 63), none, (.ext (.t 58) 1)⟩, ⟨(some 15), none, (.mv (.t 62))⟩, ⟨(some 16), none, (.mv (.t 63))⟩])
 (.seq
 (.seq
 (.reg
 [⟨(some 64), none, (.mv (.t 16))⟩, ⟨(some 65), none, (.eqn .ifc true (.t 64))⟩, ⟨(some 66), none, (.mv (.t 65))⟩, ⟨(some 67), (some (66, false)), (.mv (.t 15))⟩, ⟨(some 68), (some (66, false)), (.mv (.t 14))⟩, ⟨(some 69), (some (66, false)), (.lens (.t 68))⟩, ⟨(some 70), (some (66, false)), (.cmp .neq .i64 (.t 67) (.t 69))⟩, ⟨(some 71), none, (.pick (.t 66) (.c (.bool true)) (.t 70))⟩])
 (.cond
 (.t 71)
 (.seq
 (.reg
 [⟨(some 6), none, (.mv (.c (.bool false)))⟩])
 .ret)
 .skip))
 (.seq
 (.seq
 (.reg
 [⟨(some 17), none, (.mv (.c (.int .i64 0)))⟩])
 (.blk
 0
 (.loop
 (.seq
 (.seq
 (.reg
 [⟨(some 72), none, (.mv (.t 17))⟩, ⟨(some 73), none, (.mv (.t 14))⟩, ⟨(some 74), none, (.lens (.t 73))⟩, ⟨(some 75), none, (.cmp .lss .i64 (.t 72) (.t 74))⟩])
 (.cond
 (.t 75)
 .skip
 (.exit 0)))
 (.seq
 (.blk
 1
 (.seq
 (.reg
 [⟨(some 83), none, (.mv (.t 7))⟩, ⟨(some 84), none, (.mv (.t 9))⟩, ⟨(some 85), none, (.mv (.t 17))⟩, ⟨(some 86), none, (.call fn_lines_Start [(.t 83), (.t 84), (.t 85)])⟩, ⟨(some 82), none, (.mv (.t 86))⟩, ⟨(some 87), none, (.ext (.t 82) 0)⟩, ⟨(some 88), none, (.ext (.t 82) 1)⟩, ⟨(some 18), none, (.mv (.t 87))⟩, ⟨(some 19), none, (.mv (.t 88))⟩])
 (.seq
 (.reg
 [⟨(some 90), none, (.mv (.t 7))⟩, ⟨(some 91), none, (.mv (.t 9))⟩, ⟨(some 92), none, (.mv (.t 17))⟩, ⟨(some 93), none, (.call fn_lines_Line [(.t 90), (.t 91), (.t 92)])⟩, ⟨(some 89), none, (.mv (.t 93))⟩, ⟨(some 94), none, (.ext (.t 89) 0)⟩, ⟨(some 95), none, (.ext (.t 89) 1)⟩, ⟨(some 20), none, (.alc 20 ty_api_Span [(.int .i64 0), (.int .i64 0)])⟩, ⟨none, none, (.st 2 (.t 20) (.t 94))⟩, ⟨(some 21), none, (.mv (.t 95))⟩])
 (.seq
 (.drw
 [⟨(some 96), none, (.mv (.t 19))⟩, ⟨(some 97), none, (.eqn .ifc true (.t 96))⟩, ⟨(some 98), none, (.mv (.t 97))⟩, ⟨(some 99), (some (98, false)), (.mv (.t 21))⟩, ⟨(some 100), (some (98, false)), (.eqn .ifc true (.t 99))⟩, ⟨(some 101), none, (.pick (.t 98) (.c (.bool true)) (.t 100))⟩, ⟨(some 102), none, (.mv (.t 101))⟩, ⟨(some 103), (some (102, false)), (.mv (.t 18))⟩, ⟨(some 104), (some (102, false)), (.mv (.t 14))⟩, ⟨(some 105), (some (102, false)), (.mv (.t 17))⟩, ⟨(some 106), (some (102, false)), (.ia 2 (.t 104) (.t 105))⟩, ⟨(some 107), (some (102, false)), (.fa 0 (.t 106))⟩, ⟨(some 108), (some (102, false)), (.ld (.int .i64) (.t 107))⟩, ⟨(some 109), (some (102, false)), (.cmp .neq .i64 (.t 103) (.t 108))⟩, ⟨(some 110), none, (.pick (.t 102) (.c (.bool true)) (.t 109))⟩, ⟨(some 111), none, (.mv (.t 110))⟩, ⟨(some 112), (some (111, false)), (.lda 2 [(.int .i64), (.int .i64)] (.t 20))⟩, ⟨(some 113), (some (111, false)), (.mv (.t 14))⟩, ⟨(some 114), (some (111, false)), (.mv (.t 17))⟩, ⟨(some 115), (some (111, false)), (.ia 2 (.t 113) (.t 114))⟩, ⟨(some 116), (some (111, false)), (.fa 0 (.t 115))⟩, ⟨(some 117), (some (111, false)), (.ld (.int .i64) (.t 116))⟩, ⟨(some 118), (some (111, false)), (.mv (.t 14))⟩, ⟨(some 119), (some (111, false)), (.mv (.t 17))⟩, ⟨(some 120), (some (111, false)), (.ia 2 (.t 118) (.t 119))⟩, ⟨(some 121), (some (111, false)), (.fa 1 (.t 120))⟩, ⟨(some 122), (some (111, false)), (.ld (.int .i64) (.t 121))⟩, ⟨(some 123), (some (111, false)), (.bld [(.int .i64 0), (.int .i64 0)] [(0, (1, (.t 117))), (1, (1, (.t 122)))])⟩, ⟨(some 124), (some (111, false)), (.eqa true [(.int .i64), (.int .i64)] (.t 112) (.t 123))⟩, ⟨(some 125), none, (.pick (.t 111) (.c (.bool true)) (.t 124))⟩]
 (.mov 0 (.take 1 (.mov 2 (.mov 3 (.take 4 (.take 5 (.mov 6 (.mov 7 (.mov 8 (.mov 9 (.take 10 (.take 11 (.take 12 (.take 13 (.take 14 (.mov 15 (.take 16 (.mov 17 (.mov 18 (.take 19 (.take 20 (.take 21 (.mov 22 (.mov 23 (.take 24 (.take 25 (.take 26 (.take 27 (.take 28 (.take 29 .done)))))))))))))))))))))))))))))))
 (.cond
 (.t 125)
 (.seq
 (.reg
 [⟨(some 6), none, (.mv (.c (.bool false)))⟩])
 .ret)
 .skip)))))
 (.reg
 [⟨(some 76), none, (.mv (.t 17))⟩, ⟨(some 77), none, (.mv (.t 14))⟩, ⟨(some 78), none, (.lens (.t 77))⟩, ⟨(some 79), none, (.dv false .i64 (.t 78) (.c (.int .i64 100)))⟩, ⟨(some 80), none, (.ar .add .i64 (.c (.int .i64 1)) (.t 79))⟩, ⟨(some 81), none, (.ar .add .i64 (.t 76) (.t 80))⟩, ⟨(some 17), none, (.mv (.t 81))⟩]))))))
 (.seq
 (.reg
 [⟨(some 127), none, (.mv (.t 7))⟩, ⟨(some 128), none, (.mv (.t 9))⟩, ⟨(some 129), none, (.mv (.t 2))⟩, ⟨(some 130), none, (.call fn_lines_Start [(.t 127), (.t 128), (.t 129)])⟩, ⟨(some 126), none, (.mv (.t 130))⟩, ⟨(some 131), none, (.ext (.t 126) 0)⟩, ⟨(some 132), none, (.ext (.t 126) 1)⟩, ⟨(some 22), none, (.mv (.t 131))⟩, ⟨(some 16), none, (.mv (.t 132))⟩])
 (.seq
 (.reg
 [⟨(some 134), none, (.mv (.t 7))⟩, ⟨(some 135), none, (.mv (.t 9))⟩, ⟨(some 136), none, (.mv (.t 2))⟩, ⟨(some 137), none, (.call fn_lines_Line [(.t 134), (.t 135), (.t 136)])⟩, ⟨(some 133), none, (.mv (.t 137))⟩, ⟨(some 138), none, (.ext (.t 133) 0)⟩, ⟨(some 139), none, (.ext (.t 133) 1)⟩, ⟨(some 23), none, (.alc 23 ty_api_Span [(.int .i64 0), (.int .i64 0)])⟩, ⟨none, none, (.st 2 (.t 23) (.t 138))⟩, ⟨(some 24), none, (.mv (.t 139))⟩])
 (.seq
 (.seq
 (.reg
 [⟨(some 140), none, (.mv (.t 2))⟩, ⟨(some 141), none, (.cmp .geq .i64 (.t 140) (.c (.int .i64 0)))⟩, ⟨(some 142), none, (.mv (.t 141))⟩, ⟨(some 143), (some (142, true)), (.mv (.t 2))⟩, ⟨(some 144), (some (142, true)), (.mv (.t 14))⟩, ⟨(some 145), (some (142, true)), (.lens (.t 144))⟩, ⟨(some 146), (some (142, true)), (.cmp .lss .i64 (.t 143) (.t 145))⟩, ⟨(some 147), none, (.pick (.t 142) (.t 146) (.c (.bool false)))⟩])
 (.cond
 (.t 147)
 (.seq
 (.drw
 [⟨(some 148), none, (.mv (.t 16))⟩, ⟨(some 149), none, (.eqn .ifc false (.t 148))⟩, ⟨(some 150), none, (.mv (.t 149))⟩, ⟨(some 151), (some (150, true)), (.mv (.t 24))⟩, ⟨(some 152), (some (150, true)), (.eqn .ifc false (.t 151))⟩, ⟨(some 153), none, (.pick (.t 150) (.t 152) (.c (.bool false)))⟩, ⟨(some 154), none, (.mv (.t 153))⟩, ⟨(some 155), (some (154, true)), (.mv (.t 22))⟩, ⟨(some 156), (some (154, true)), (.mv (.t 14))⟩, ⟨(some 157), (some (154, true)), (.mv (.t 2))⟩, ⟨(some 158), (some (154, true)), (.ia 2 (.t 156) (.t 157))⟩, ⟨(some 159), (some (154, true)), (.fa 0 (.t 158))⟩, ⟨(some 160), (some (154, true)), (.ld (.int .i64) (.t 159))⟩, ⟨(some 161), (some (154, true)), (.cmp .eql .i64 (.t 155) (.t 160))⟩, ⟨(some 162), none, (.pick (.t 154) (.t 161) (.c (.bool false)))⟩, ⟨(some 163), none, (.mv (.t 162))⟩, ⟨(some 164), (some (163, true)), (.fa 0 (.t 23))⟩, ⟨(some 165), (some (163, true)), (.ld (.int .i64) (.t 164))⟩, ⟨(some 166), (some (163, true)), (.mv (.t 22))⟩, ⟨(some 167), (some (163, true)), (.cmp .eql .i64 (.t 165) (.t 166))⟩, ⟨(some 168), none, (.pick (.t 163) (.t 167) (.c (.bool false)))⟩, ⟨(some 169), none, (.mv (.t 168))⟩, ⟨(some 170), (some (169, true)), (.fa 1 (.t 23))⟩, ⟨(some 171), (some (169, true)), (.ld (.int .i64) (.t 170))⟩, ⟨(some 172), (some (169, true)), (.mv (.t 14))⟩, ⟨(some 173), (some (169, true)), (.mv (.t 2))⟩, ⟨(some 174), (some (169, true)), (.ia 2 (.t 172) (.t 173))⟩, ⟨(some 175), (some (169, true)), (.fa 1 (.t 174))⟩, ⟨(some 176), (some (169, true)), (.ld (.int .i64) (.t 175))⟩, ⟨(some 177), (some (169, true)), (.cmp .eql .i64 (.t 171) (.t 176))⟩, ⟨(some 178), none, (.pick (.t 169) (.t 177) (.c (.bool false)))⟩, ⟨(some 179), none, (.mv (.t 178))⟩, ⟨(some 180), (some (179, true)), (.mv (.t 7))⟩, ⟨(some 181), (some (179, true)), (.call fn_P_intern_Store_Len [(.t 180)])⟩, ⟨(some 182), (some (179, true)), (.mv (.t 13))⟩, ⟨(some 183), (some (179, true)), (.cmp .eql .i64 (.t 181) (.t 182))⟩, ⟨(some 184), none, (.pick (.t 179) (.t 183) (.c (.bool false)))⟩, ⟨(some 6), none, (.mv (.t 184))⟩]
 (.mov 0 (.take 1 (.mov 2 (.mov 3 (.take 4 (.take 5 (.mov 6 (.mov 7 (.mov 8 (.mov 9 (.take 10 (.take 11 (.take 12 (.take 13 (.take 14 (.mov 15 (.take 16 (.take 17 (.mov 18 (.take 19 (.take 20 (.mov 21 (.take 22 (.take 23 (.mov 24 (.mov 25 (.take 26 (.take 27 (.take 28 (.take 29 (.take 30 (.mov 31 (.mov 32 (.mov 34 (.bar 33 (.take 35 (.take 36 (.mov 37 .done)))))))))))))))))))))))))))))))))))))))
 .ret)
 .skip))
 (.seq
 (.reg
 [⟨(some 185), none, (.mv (.t 16))⟩, ⟨(some 186), none, (.call fn_evergreenbase_Is [(.t 185), (.c (.int .i64 1))])⟩, ⟨(some 187), none, (.mv (.t 186))⟩, ⟨(some 188), (some (187, true)), (.mv (.t 24))⟩, ⟨(some 189), (some (187, true)), (.call fn_evergreenbase_Is [(.t 188), (.c (.int .i64 1))])⟩, ⟨(some 190), none, (.pick (.t 187) (.t 189) (.c (.bool false)))⟩, ⟨(some 191), none, (.mv (.t 190))⟩, ⟨(some 192), (some (191, true)), (.mv (.t 22))⟩, ⟨(some 193), (some (191, true)), (.cmp .eql .i64 (.t 192) (.c (.int .i64 0)))⟩, ⟨(some 194), none, (.pick (.t 191) (.t 193) (.c (.bool false)))⟩, ⟨(some 195), none, (.mv (.t 194))⟩, ⟨(some 196), (some (195, true)), (.lda 2 [(.int .i64), (.int .i64)] (.t 23))⟩, ⟨(some 197), (some (195, true)), (.bld [(.int .i64 0), (.int .i64 0)] [])⟩, ⟨(some 198), (some (195, true)), (.eqa false [(.int .i64), (.int .i64)] (.t 196) (.t 197))⟩, ⟨(some 199), none, (.pick (.t 195) (.t 198) (.c (.bool false)))⟩, ⟨(some 200), none, (.mv (.t 199))⟩, ⟨(some 201), (some (200, true)), (.mv (.t 7))⟩, ⟨(some 202), (some (200, true)), (.call fn_P_intern_Store_Len [(.t 201)])⟩, ⟨(some 203), (some (200, true)), (.mv (.t 13))⟩, ⟨(some 204), (some (200, true)), (.cmp .eql .i64 (.t 202) (.t 203))⟩, ⟨(some 205), none, (.pick (.t 200) (.t 204) (.c (.bool false)))⟩, ⟨(some 6), none, (.mv (.t 205))⟩])
 .ret)))))))))))))
def ts_evergreenlaw19_LinesTexts : List (Nat × Tr) := [(16, (.mov 0 (.take 1 (.mov 2 (.mov 3 (.take 4 (.take 5 (.mov 6 (.mov 7 (.mov 8 (.mov 9 (.take 10 (.take 11 (.take 12 (.take 13 (.take 14 (.mov 15 (.take 16 (.mov 17 (.mov 18 (.take 19 (.take 20 (.take 21 (.mov 22 (.mov 23 (.take 24 (.take 25 (.take 26 (.take 27 (.take 28 (.take 29 .done))))))))))))))))))))))))))))))), (21, (.mov 0 (.take 1 (.mov 2 (.mov 3 (.take 4 (.take 5 (.mov 6 (.mov 7 (.mov 8 (.mov 9 (.take 10 (.take 11 (.take 12 (.take 13 (.take 14 (.mov 15 (.take 16 (.take 17 (.mov 18 (.take 19 (.take 20 (.mov 21 (.take 22 (.take 23 (.mov 24 (.mov 25 (.take 26 (.take 27 (.take 28 (.take 29 (.take 30 (.mov 31 (.mov 32 (.mov 34 (.bar 33 (.take 35 (.take 36 (.mov 37 .done)))))))))))))))))))))))))))))))))))))))]
set_option maxRecDepth 100000 in
set_option maxHeartbeats 4000000 in
theorem ok_evergreenlaw19_LinesTexts : irOf Try.prog fn_evergreenlaw19_LinesTexts [] ts_evergreenlaw19_LinesTexts = some (206, [(.t 6)], ir_evergreenlaw19_LinesTexts) := by kernel_rfl
end Go.Proofs.Ytagoedllflalpaa
