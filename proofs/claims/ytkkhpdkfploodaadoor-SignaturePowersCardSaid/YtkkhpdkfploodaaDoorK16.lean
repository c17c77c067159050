/- The small forms of functions of the program, with the equations that say so: written by a program (irtool.py). No condition. -/
import Derived.Test.YtkkhpdkfploodaaDoorK14
import Derived.Test.YtkkhpdkfploodaaDoorProg
namespace Go.Proofs.YtkkhpdkfploodaaDoor
open Go.EG
abbrev fn_evergreenlaw22_SignaturePowers : Nat := 6
def ir_evergreenlaw22_SignaturePowers : C :=
 (.seq
 (.reg
 [⟨(some 6), none, (.mv (.c (.bool false)))⟩])
 (.seq
 (.seq
 (.reg
 [⟨(some 22), none, (.call fn_evergreenlaw22_awake [])⟩, ⟨(some 23), none, (.not (.t 22))⟩, ⟨(some 24), none, (.mv (.t 23))⟩, ⟨(some 25), (some (24, false)), (.mv (.t 0))⟩, ⟨(some 26), (some (24, false)), (.mv (.t 1))⟩, ⟨(some 27), (some (24, false)), (.cmp .eql .u8 (.t 25) (.t 26))⟩, ⟨(some 28), none, (.pick (.t 24) (.c (.bool true)) (.t 27))⟩])
 (.cond
 (.t 28)
 (.seq
 (.reg
 [⟨(some 29), none, (.call fn_evergreenlaw22_awake [])⟩, ⟨(some 6), none, (.mv (.t 29))⟩])
 .ret)
 .skip))
 (.seq
 (.reg
 [⟨(some 30), none, (.mv (.t 2))⟩, ⟨(some 31), none, (.sh false .i64 (.t 30) (.c (.int .u64 3)))⟩, ⟨(some 32), none, (.bnr .i64 (.t 31) (.c (.int .i64 2305843009213693951)))⟩, ⟨(some 33), none, (.dv true .i64 (.t 32) (.c (.int .i64 288230376151711744)))⟩, ⟨(some 34), none, (.ar .add .i64 (.c (.int .i64 2)) (.t 33))⟩, ⟨(some 2), none, (.mv (.t 34))⟩])
 (.seq
 (.reg
 [⟨(some 35), none, (.call fn_intern_New [(.c (.int .i64 9))])⟩, ⟨(some 7), none, (.mv (.t 35))⟩])
 (.seq
 (.reg
 [⟨(some 36), none, (.mv (.t 7))⟩, ⟨(some 37), none, (.call fn_signature_New [(.t 36)])⟩, ⟨(some 8), none, (.mv (.t 37))⟩])
 (.seq
 (.reg
 [⟨(some 39), none, (.mv (.t 7))⟩, ⟨(some 40), none, (.mv (.t 0))⟩, ⟨(some 41), none, (.call fn_P_intern_Store_Letter [(.t 39), (.t 40)])⟩, ⟨(some 38), none, (.mv (.t 41))⟩, ⟨(some 42), none, (.ext (.t 38) 0)⟩, ⟨(some 43), none, (.ext (.t 38) 1)⟩, ⟨(some 9), none, (.mv (.t 42))⟩, ⟨(some 10), none, (.mv (.t 43))⟩])
 (.seq
 (.reg
 [⟨(some 45), none, (.mv (.t 7))⟩, ⟨(some 46), none, (.mv (.t 1))⟩, ⟨(some 47), none, (.call fn_P_intern_Store_Letter [(.t 45), (.t 46)])⟩, ⟨(some 44), none, (.mv (.t 47))⟩, ⟨(some 48), none, (.ext (.t 44) 0)⟩, ⟨(some 49), none, (.ext (.t 44) 1)⟩, ⟨(some 11), none, (.mv (.t 48))⟩, ⟨(some 12), none, (.mv (.t 49))⟩])
 (.seq
 (.reg
 [⟨(some 51), none, (.mv (.t 7))⟩, ⟨(some 52), none, (.mv (.t 9))⟩, ⟨(some 53), none, (.mv (.t 11))⟩, ⟨(some 54), none, (.call fn_P_intern_Store_Pair [(.t 51), (.t 52), (.t 53)])⟩, ⟨(some 50), none, (.mv (.t 54))⟩, ⟨(some 55), none, (.ext (.t 50) 0)⟩, ⟨(some 56), none, (.ext (.t 50) 1)⟩, ⟨(some 13), none, (.mv (.t 55))⟩, ⟨(some 14), none, (.mv (.t 56))⟩])
 (.seq
 (.reg
 [⟨(some 58), none, (.mv (.t 7))⟩, ⟨(some 59), none, (.mv (.t 13))⟩, ⟨(some 60), none, (.mv (.t 2))⟩, ⟨(some 61), none, (.call fn_P_intern_Store_Power [(.t 58), (.t 59), (.t 60)])⟩, ⟨(some 57), none, (.mv (.t 61))⟩, ⟨(some 62), none, (.ext (.t 57) 0)⟩, ⟨(some 63), none, (.ext (.t 57) 1)⟩, ⟨(some 15), none, (.mv (.t 62))⟩, ⟨(some 16), none, (.mv (.t 63))⟩])
 (.seq
 (.reg
 [⟨(some 65), none, (.mv (.t 8))⟩, ⟨(some 66), none, (.mv (.t 15))⟩, ⟨(some 67), none, (.call fn_P_signature_Parser_Top [(.t 65), (.t 66)])⟩, ⟨(some 64), none, (.mv (.t 67))⟩, ⟨(some 68), none, (.ext (.t 64) 0)⟩, ⟨(some 69), none, (.ext (.t 64) 1)⟩, ⟨(some 17), none, (.mv (.t 68))⟩, ⟨(some 18), none, (.mv (.t 69))⟩])
 (.seq
 (.seq
 (.reg
 [⟨(some 70), none, (.mv (.t 10))⟩, ⟨(some 71), none, (.eqn .ifc true (.t 70))⟩, ⟨(some 72), none, (.mv (.t 71))⟩, ⟨(some 73), (some (72, false)), (.mv (.t 12))⟩, ⟨(some 74), (some (72, false)), (.eqn .ifc true (.t 73))⟩, ⟨(some 75), none, (.pick (.t 72) (.c (.bool true)) (.t 74))⟩, ⟨(some 76), none, (.mv (.t 75))⟩, ⟨(some 77), (some (76, false)), (.mv (.t 14))⟩, ⟨(some 78), (some (76, false)), (.eqn .ifc true (.t 77))⟩, ⟨(some 79), none, (.pick (.t 76) (.c (.bool true)) (.t 78))⟩, ⟨(some 80), none, (.mv (.t 79))⟩, ⟨(some 81), (some (80, false)), (.mv (.t 16))⟩, ⟨(some 82), (some (80, false)), (.eqn .ifc true (.t 81))⟩, ⟨(some 83), none, (.pick (.t 80) (.c (.bool true)) (.t 82))⟩, ⟨(some 84), none, (.mv (.t 83))⟩, ⟨(some 85), (some (84, false)), (.mv (.t 18))⟩, ⟨(some 86), (some (84, false)), (.eqn .ifc true (.t 85))⟩, ⟨(some 87), none, (.pick (.t 84) (.c (.bool true)) (.t 86))⟩, ⟨(some 88), none, (.mv (.t 87))⟩, ⟨(some 89), (some (88, false)), (.mv (.t 17))⟩, ⟨(some 90), (some (88, false)), (.cmp .lss .i64 (.t 89) (.c (.int .i64 3)))⟩, ⟨(some 91), none, (.pick (.t 88) (.c (.bool true)) (.t 90))⟩])
 (.cond
 (.t 91)
 (.seq
 (.reg
 [⟨(some 6), none, (.mv (.c (.bool false)))⟩])
 .ret)
 .skip))
 (.seq
 (.reg
 [⟨(some 93), none, (.mv (.t 8))⟩, ⟨(some 94), none, (.mv (.t 15))⟩, ⟨(some 95), none, (.mv (.t 17))⟩, ⟨(some 96), none, (.ar .sub .i64 (.t 95) (.c (.int .i64 1)))⟩, ⟨(some 97), none, (.call fn_P_signature_Parser_Sequence [(.t 93), (.t 94), (.t 96)])⟩, ⟨(some 92), none, (.mv (.t 97))⟩, ⟨(some 98), none, (.ext (.t 92) 0)⟩, ⟨(some 99), none, (.ext (.t 92) 1)⟩, ⟨(some 19), none, (.mv (.t 98))⟩, ⟨(some 20), none, (.mv (.t 99))⟩])
 (.seq
 (.seq
 (.reg
 [⟨(some 100), none, (.mv (.t 20))⟩, ⟨(some 101), none, (.eqn .ifc true (.t 100))⟩, ⟨(some 102), none, (.mv (.t 101))⟩, ⟨(some 103), (some (102, false)), (.mv (.t 19))⟩, ⟨(some 104), (some (102, false)), (.lens (.t 103))⟩, ⟨(some 105), (some (102, false)), (.cmp .neq .i64 (.t 104) (.c (.int .i64 1)))⟩, ⟨(some 106), none, (.pick (.t 102) (.c (.bool true)) (.t 105))⟩, ⟨(some 107), none, (.mv (.t 106))⟩, ⟨(some 108), (some (107, false)), (.mv (.t 19))⟩, ⟨(some 109), (some (107, false)), (.ia 2 (.t 108) (.c (.int .i64 0)))⟩, ⟨(some 110), (some (107, false)), (.lda 2 [(.int .i64), (.int .i64)] (.t 109))⟩, ⟨(some 111), (some (107, false)), (.mv (.t 13))⟩, ⟨(some 112), (some (107, false)), (.mv (.t 2))⟩, ⟨(some 113), (some (107, false)), (.bld [(.int .i64 0), (.int .i64 0)] [(0, (1, (.t 111))), (1, (1, (.t 112)))])⟩, ⟨(some 114), (some (107, false)), (.eqa true [(.int .i64), (.int .i64)] (.t 110) (.t 113))⟩, ⟨(some 115), none, (.pick (.t 107) (.c (.bool true)) (.t 114))⟩])
 (.cond
 (.t 115)
 (.seq
 (.reg
 [⟨(some 6), none, (.mv (.c (.bool false)))⟩])
 .ret)
 .skip))
 (.seq
 (.reg
 [⟨(some 117), none, (.mv (.t 8))⟩, ⟨(some 118), none, (.mv (.t 15))⟩, ⟨(some 119), none, (.mv (.t 17))⟩, ⟨(some 120), none, (.ar .sub .i64 (.t 119) (.c (.int .i64 2)))⟩, ⟨(some 121), none, (.call fn_P_signature_Parser_Sequence [(.t 117), (.t 118), (.t 120)])⟩, ⟨(some 116), none, (.mv (.t 121))⟩, ⟨(some 122), none, (.ext (.t 116) 0)⟩, ⟨(some 123), none, (.ext (.t 116) 1)⟩, ⟨(some 19), none, (.mv (.t 122))⟩, ⟨(some 20), none, (.mv (.t 123))⟩])
 (.seq
 (.seq
 (.reg
 [⟨(some 124), none, (.mv (.t 2))⟩, ⟨(some 125), none, (.ar .mul .i64 (.c (.int .i64 2)) (.t 124))⟩, ⟨(some 126), none, (.cmp .gtr .i64 (.t 125) (.c (.int .i64 65536)))⟩])
 (.cond
 (.t 126)
 (.seq
 (.reg
 [⟨(some 127), none, (.mv (.t 19))⟩, ⟨(some 128), none, (.lens (.t 127))⟩, ⟨(some 129), none, (.cmp .eql .i64 (.t 128) (.c (.int .i64 0)))⟩, ⟨(some 130), none, (.mv (.t 129))⟩, ⟨(some 131), (some (130, true)), (.mv (.t 20))⟩, ⟨(some 132), (some (130, true)), (.call fn_evergreenbase_Is [(.t 131), (.c (.int .i64 9))])⟩, ⟨(some 133), none, (.pick (.t 130) (.t 132) (.c (.bool false)))⟩, ⟨(some 6), none, (.mv (.t 133))⟩])
 .ret)
 .skip))
 (.seq
 (.seq
 (.reg
 [⟨(some 134), none, (.mv (.t 20))⟩, ⟨(some 135), none, (.eqn .ifc true (.t 134))⟩, ⟨(some 136), none, (.mv (.t 135))⟩, ⟨(some 137), (some (136, false)), (.mv (.t 19))⟩, ⟨(some 138), (some (136, false)), (.lens (.t 137))⟩, ⟨(some 139), (some (136, false)), (.mv (.t 2))⟩, ⟨(some 140), (some (136, false)), (.ar .mul .i64 (.c (.int .i64 2)) (.t 139))⟩, ⟨(some 141), (some (136, false)), (.cmp .neq .i64 (.t 138) (.t 140))⟩, ⟨(some 142), none, (.pick (.t 136) (.c (.bool true)) (.t 141))⟩])
 (.cond
 (.t 142)
 (.seq
 (.reg
 [⟨(some 6), none, (.mv (.c (.bool false)))⟩])
 .ret)
 .skip))
 (.seq
 (.seq
 (.reg
 [⟨(some 21), none, (.mv (.c (.int .i64 0)))⟩])
 (.blk
 0
 (.loop
 (.seq
 (.seq
 (.reg
 [⟨(some 143), none, (.mv (.t 21))⟩, ⟨(some 144), none, (.mv (.t 19))⟩, ⟨(some 145), none, (.lens (.t 144))⟩, ⟨(some 146), none, (.cmp .lss .i64 (.t 143) (.t 145))⟩])
 (.cond
 (.t 146)
 .skip
 (.exit 0)))
 (.seq
 (.blk
 1
 (.seq
 (.reg
 [⟨(some 149), none, (.mv (.t 19))⟩, ⟨(some 150), none, (.mv (.t 21))⟩, ⟨(some 151), none, (.ia 2 (.t 149) (.t 150))⟩, ⟨(some 152), none, (.fa 1 (.t 151))⟩, ⟨(some 153), none, (.ld (.int .i64) (.t 152))⟩, ⟨(some 154), none, (.cmp .neq .i64 (.t 153) (.c (.int .i64 1)))⟩, ⟨(some 155), none, (.mv (.t 154))⟩, ⟨(some 156), (some (155, false)), (.mv (.t 21))⟩, ⟨(some 157), (some (155, false)), (.dv true .i64 (.t 156) (.c (.int .i64 2)))⟩, ⟨(some 158), (some (155, false)), (.cmp .eql .i64 (.t 157) (.c (.int .i64 0)))⟩, ⟨(some 159), (some (155, false)), (.mv (.t 158))⟩, ⟨(some 160), (some (159, true)), (.mv (.t 19))⟩, ⟨(some 161), (some (159, true)), (.mv (.t 21))⟩, ⟨(some 162), (some (159, true)), (.ia 2 (.t 160) (.t 161))⟩, ⟨(some 163), (some (159, true)), (.fa 0 (.t 162))⟩, ⟨(some 164), (some (159, true)), (.ld (.int .i64) (.t 163))⟩, ⟨(some 165), (some (159, true)), (.mv (.t 9))⟩, ⟨(some 166), (some (159, true)), (.cmp .neq .i64 (.t 164) (.t 165))⟩, ⟨(some 167), (some (155, false)), (.pick (.t 159) (.t 166) (.c (.bool false)))⟩, ⟨(some 168), none, (.pick (.t 155) (.c (.bool true)) (.t 167))⟩, ⟨(some 169), none, (.mv (.t 168))⟩, ⟨(some 170), (some (169, false)), (.mv (.t 21))⟩, ⟨(some 171), (some (169, false)), (.dv true .i64 (.t 170) (.c (.int .i64 2)))⟩, ⟨(some 172), (some (169, false)), (.cmp .eql .i64 (.t 171) (.c (.int .i64 1)))⟩, ⟨(some 173), (some (169, false)), (.mv (.t 172))⟩, ⟨(some 174), (some (173, true)), (.mv (.t 19))⟩, ⟨(some 175), (some (173, true)), (.mv (.t 21))⟩, ⟨(some 176), (some (173, true)), (.ia 2 (.t 174) (.t 175))⟩, ⟨(some 177), (some (173, true)), (.fa 0 (.t 176))⟩, ⟨(some 178), (some (173, true)), (.ld (.int .i64) (.t 177))⟩, ⟨(some 179), (some (173, true)), (.mv (.t 11))⟩, ⟨(some 180), (some (173, true)), (.cmp .neq .i64 (.t 178) (.t 179))⟩, ⟨(some 181), (some (169, false)), (.pick (.t 173) (.t 180) (.c (.bool false)))⟩, ⟨(some 182), none, (.pick (.t 169) (.c (.bool true)) (.t 181))⟩])
 (.cond
 (.t 182)
 (.seq
 (.reg
 [⟨(some 6), none, (.mv (.c (.bool false)))⟩])
 .ret)
 .skip)))
 (.reg
 [⟨(some 147), none, (.mv (.t 21))⟩, ⟨(some 148), none, (.ar .add .i64 (.t 147) (.c (.int .i64 1)))⟩, ⟨(some 21), none, (.mv (.t 148))⟩]))))))
 (.seq
 (.reg
 [⟨(some 6), none, (.mv (.c (.bool true)))⟩])
 .ret))))))))))))))))))
def ts_evergreenlaw22_SignaturePowers : List (Nat × Tr) := []
set_option maxRecDepth 100000 in
set_option maxHeartbeats 4000000 in
theorem ok_evergreenlaw22_SignaturePowers : irOf Tryd.prog fn_evergreenlaw22_SignaturePowers [32] ts_evergreenlaw22_SignaturePowers = some (183, [(.t 6)], ir_evergreenlaw22_SignaturePowers) := by kernel_rfl
end Go.Proofs.YtkkhpdkfploodaaDoor
