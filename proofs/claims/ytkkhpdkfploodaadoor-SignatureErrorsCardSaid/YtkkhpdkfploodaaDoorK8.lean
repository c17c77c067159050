/- The small forms of functions of the program, with the equations that say so: written by a program (irtool.py). No condition. -/
import Derived.Test.YtkkhpdkfploodaaDoorK3
import Derived.Test.YtkkhpdkfploodaaDoorProg
namespace Go.Proofs.YtkkhpdkfploodaaDoor
open Go.EG
abbrev fn_evergreenlaw22_SignatureErrors : Nat := 7
abbrev fn_P_signature_Parser_Sequence : Nat := 20
abbrev fn_P_signature_expansion_groups : Nat := 45
abbrev ty_signature_expansion : Nat := 95
def ir_P_signature_Parser_Sequence : C :=
 (.seq
 (.reg
 [⟨(some 6), none, (.mv (.c (.slice none 0 0)))⟩, ⟨(some 7), none, (.mv (.c .nilIface))⟩])
 (.seq
 (.seq
 (.reg
 [⟨(some 11), none, (.mv (.t 0))⟩, ⟨(some 12), none, (.eqn .ptr false (.t 11))⟩, ⟨(some 13), none, (.mv (.t 12))⟩, ⟨(some 14), (some (13, false)), (.mv (.t 0))⟩, ⟨(some 15), (some (13, false)), (.nil (.t 14))⟩, ⟨(some 16), (some (13, false)), (.fa 0 (.t 15))⟩, ⟨(some 17), (some (13, false)), (.ld .ptr (.t 16))⟩, ⟨(some 18), (some (13, false)), (.eqn .ptr false (.t 17))⟩, ⟨(some 19), none, (.pick (.t 13) (.c (.bool true)) (.t 18))⟩])
 (.cond
 (.t 19)
 (.seq
 (.reg
 [⟨(some 20), none, (.mki ty_api_Errno (.c (.int .i64 5)))⟩, ⟨(some 6), none, (.mv (.c (.slice none 0 0)))⟩, ⟨(some 7), none, (.mv (.t 20))⟩])
 .ret)
 .skip))
 (.seq
 (.seq
 (.reg
 [⟨(some 21), none, (.mv (.t 1))⟩, ⟨(some 22), none, (.cmp .lss .i64 (.t 21) (.c (.int .i64 0)))⟩, ⟨(some 23), none, (.mv (.t 22))⟩, ⟨(some 24), (some (23, false)), (.mv (.t 1))⟩, ⟨(some 25), (some (23, false)), (.mv (.t 0))⟩, ⟨(some 26), (some (23, false)), (.nil (.t 25))⟩, ⟨(some 27), (some (23, false)), (.fa 0 (.t 26))⟩, ⟨(some 28), (some (23, false)), (.ld .ptr (.t 27))⟩, ⟨(some 29), (some (23, false)), (.call fn_P_intern_Store_Len [(.t 28)])⟩, ⟨(some 30), (some (23, false)), (.cmp .gtr .i64 (.t 24) (.t 29))⟩, ⟨(some 31), none, (.pick (.t 23) (.c (.bool true)) (.t 30))⟩, ⟨(some 32), none, (.mv (.t 31))⟩, ⟨(some 33), (some (32, false)), (.mv (.t 2))⟩, ⟨(some 34), (some (32, false)), (.cmp .lss .i64 (.t 33) (.c (.int .i64 0)))⟩, ⟨(some 35), none, (.pick (.t 32) (.c (.bool true)) (.t 34))⟩])
 (.cond
 (.t 35)
 (.seq
 (.reg
 [⟨(some 36), none, (.mki ty_api_Errno (.c (.int .i64 1)))⟩, ⟨(some 6), none, (.mv (.c (.slice none 0 0)))⟩, ⟨(some 7), none, (.mv (.t 36))⟩])
 .ret)
 .skip))
 (.seq
 (.seq
 (.reg
 [⟨(some 37), none, (.mv (.t 1))⟩, ⟨(some 38), none, (.cmp .eql .i64 (.t 37) (.c (.int .i64 0)))⟩])
 (.cond
 (.t 38)
 (.seq
 (.reg
 [⟨(some 6), none, (.mv (.c (.slice none 0 0)))⟩, ⟨(some 7), none, (.mv (.c .nilIface))⟩])
 .ret)
 .skip))
 (.seq
 (.seq
 (.reg
 [⟨(some 40), none, (.mv (.t 0))⟩, ⟨(some 41), none, (.nil (.t 40))⟩, ⟨(some 42), none, (.fa 1 (.t 41))⟩, ⟨(some 43), none, (.ld .ptr (.t 42))⟩, ⟨(some 44), none, (.mv (.t 1))⟩, ⟨(some 45), none, (.call fn_P_keys_Table_Level [(.t 43), (.t 44)])⟩, ⟨(some 39), none, (.mv (.t 45))⟩, ⟨(some 46), none, (.ext (.t 39) 0)⟩, ⟨(some 47), none, (.ext (.t 39) 1)⟩, ⟨(some 8), none, (.mv (.t 46))⟩, ⟨(some 9), none, (.mv (.t 47))⟩])
 (.seq
 (.reg
 [⟨(some 48), none, (.mv (.t 9))⟩, ⟨(some 49), none, (.eqn .ifc true (.t 48))⟩])
 (.cond
 (.t 49)
 (.seq
 (.reg
 [⟨(some 50), none, (.mv (.t 9))⟩, ⟨(some 6), none, (.mv (.c (.slice none 0 0)))⟩, ⟨(some 7), none, (.mv (.t 50))⟩])
 .ret)
 .skip)))
 (.seq
 (.reg
 [⟨(some 51), none, (.mv (.t 0))⟩, ⟨(some 52), none, (.mv (.t 2))⟩, ⟨(some 53), none, (.mkm 53 (.int .i64) none)⟩, ⟨(some 54), none, (.bld [(.pointer none), (.int .i64 0), (.map none)] [(0, (1, (.t 51))), (1, (1, (.t 52))), (2, (1, (.t 53)))])⟩, ⟨(some 10), none, (.alc 10 ty_signature_expansion [(.pointer none), (.int .i64 0), (.map none)])⟩, ⟨none, none, (.st 3 (.t 10) (.t 54))⟩])
 (.seq
 (.reg
 [⟨(some 55), none, (.mv (.t 1))⟩, ⟨(some 56), none, (.call fn_P_signature_expansion_groups [(.t 10), (.t 55)])⟩, ⟨(some 57), none, (.ext (.t 56) 0)⟩, ⟨(some 58), none, (.ext (.t 56) 1)⟩, ⟨(some 6), none, (.mv (.t 57))⟩, ⟨(some 7), none, (.mv (.t 58))⟩])
 .ret)))))))
def ts_P_signature_Parser_Sequence : List (Nat × Tr) := []
set_option maxRecDepth 100000 in
set_option maxHeartbeats 4000000 in
theorem ok_P_signature_Parser_Sequence : irOf Tryd.prog fn_P_signature_Parser_Sequence [] ts_P_signature_Parser_Sequence = some (59, [(.t 6), (.t 7)], ir_P_signature_Parser_Sequence) := by kernel_rfl
def ir_evergreenlaw22_SignatureErrors : C :=
 (.seq
 (.reg
 [⟨(some 4), none, (.mv (.c (.bool false)))⟩])
 (.seq
 (.reg
 [⟨(some 24), none, (.call fn_intern_New [(.c (.int .i64 9))])⟩, ⟨(some 5), none, (.mv (.t 24))⟩])
 (.seq
 (.reg
 [⟨(some 25), none, (.mv (.t 5))⟩, ⟨(some 26), none, (.call fn_signature_New [(.t 25)])⟩, ⟨(some 6), none, (.mv (.t 26))⟩])
 (.seq
 (.seq
 (.reg
 [⟨(some 27), none, (.call fn_evergreenlaw22_awake [])⟩, ⟨(some 28), none, (.not (.t 27))⟩, ⟨(some 29), none, (.mv (.t 28))⟩, ⟨(some 30), (some (29, false)), (.call fn_signature_New [(.c (.pointer none))])⟩, ⟨(some 31), (some (29, false)), (.eqn .ptr true (.t 30))⟩, ⟨(some 32), none, (.pick (.t 29) (.c (.bool true)) (.t 31))⟩, ⟨(some 33), none, (.mv (.t 32))⟩, ⟨(some 34), (some (33, false)), (.mv (.t 6))⟩, ⟨(some 35), (some (33, false)), (.eqn .ptr false (.t 34))⟩, ⟨(some 36), none, (.pick (.t 33) (.c (.bool true)) (.t 35))⟩, ⟨(some 37), none, (.mv (.t 36))⟩, ⟨(some 38), (some (37, false)), (.mv (.t 6))⟩, ⟨(some 39), (some (37, false)), (.call fn_P_signature_Parser_Store [(.t 38)])⟩, ⟨(some 40), (some (37, false)), (.mv (.t 5))⟩, ⟨(some 41), (some (37, false)), (.eqp true (.t 39) (.t 40))⟩, ⟨(some 42), none, (.pick (.t 37) (.c (.bool true)) (.t 41))⟩, ⟨(some 43), none, (.mv (.t 42))⟩, ⟨(some 44), (some (43, false)), (.mv (.t 6))⟩, ⟨(some 45), (some (43, false)), (.call fn_P_signature_Parser_Keys [(.t 44)])⟩, ⟨(some 46), (some (43, false)), (.eqn .ptr false (.t 45))⟩, ⟨(some 47), none, (.pick (.t 43) (.c (.bool true)) (.t 46))⟩, ⟨(some 48), none, (.mv (.t 47))⟩, ⟨(some 49), (some (48, false)), (.mv (.t 6))⟩, ⟨(some 50), (some (48, false)), (.call fn_P_signature_Parser_Keys [(.t 49)])⟩, ⟨(some 51), (some (48, false)), (.call fn_P_keys_Table_Store [(.t 50)])⟩, ⟨(some 52), (some (48, false)), (.mv (.t 5))⟩, ⟨(some 53), (some (48, false)), (.eqp true (.t 51) (.t 52))⟩, ⟨(some 54), none, (.pick (.t 48) (.c (.bool true)) (.t 53))⟩])
 (.cond
 (.t 54)
 (.seq
 (.reg
 [⟨(some 4), none, (.mv (.c (.bool false)))⟩])
 .ret)
 .skip))
 (.seq
 (.reg
 [⟨(some 7), none, (.mv (.c (.pointer none)))⟩])
 (.seq
 (.reg
 [⟨(some 56), none, (.mv (.t 7))⟩, ⟨(some 57), none, (.call fn_P_signature_Parser_Of [(.t 56), (.c (.slice none 0 0))])⟩, ⟨(some 55), none, (.mv (.t 57))⟩, ⟨(some 58), none, (.ext (.t 55) 0)⟩, ⟨(some 59), none, (.ext (.t 55) 1)⟩, ⟨(some 8), none, (.mv (.t 58))⟩, ⟨(some 9), none, (.mv (.t 59))⟩])
 (.seq
 (.reg
 [⟨(some 61), none, (.mv (.t 7))⟩, ⟨(some 62), none, (.call fn_P_signature_Parser_Sequence [(.t 61), (.c (.int .i64 0)), (.c (.int .i64 0))])⟩, ⟨(some 60), none, (.mv (.t 62))⟩, ⟨(some 63), none, (.ext (.t 60) 0)⟩, ⟨(some 64), none, (.ext (.t 60) 1)⟩, ⟨(some 10), none, (.mv (.t 63))⟩, ⟨(some 11), none, (.mv (.t 64))⟩])
 (.seq
 (.reg
 [⟨(some 66), none, (.mv (.t 7))⟩, ⟨(some 67), none, (.call fn_P_signature_Parser_Top [(.t 66), (.c (.int .i64 0))])⟩, ⟨(some 65), none, (.mv (.t 67))⟩, ⟨(some 68), none, (.ext (.t 65) 0)⟩, ⟨(some 69), none, (.ext (.t 65) 1)⟩, ⟨(some 12), none, (.mv (.t 68))⟩, ⟨(some 13), none, (.mv (.t 69))⟩])
 (.seq
 (.seq
 (.reg
 [⟨(some 70), none, (.mv (.t 7))⟩, ⟨(some 71), none, (.call fn_P_signature_Parser_Store [(.t 70)])⟩, ⟨(some 72), none, (.eqn .ptr true (.t 71))⟩, ⟨(some 73), none, (.mv (.t 72))⟩, ⟨(some 74), (some (73, false)), (.mv (.t 7))⟩, ⟨(some 75), (some (73, false)), (.call fn_P_signature_Parser_Keys [(.t 74)])⟩, ⟨(some 76), (some (73, false)), (.eqn .ptr true (.t 75))⟩, ⟨(some 77), none, (.pick (.t 73) (.c (.bool true)) (.t 76))⟩, ⟨(some 78), none, (.mv (.t 77))⟩, ⟨(some 79), (some (78, false)), (.mv (.t 8))⟩, ⟨(some 80), (some (78, false)), (.cmp .neq .i64 (.t 79) (.c (.int .i64 0)))⟩, ⟨(some 81), none, (.pick (.t 78) (.c (.bool true)) (.t 80))⟩, ⟨(some 82), none, (.mv (.t 81))⟩, ⟨(some 83), (some (82, false)), (.mv (.t 10))⟩, ⟨(some 84), (some (82, false)), (.lens (.t 83))⟩, ⟨(some 85), (some (82, false)), (.cmp .neq .i64 (.t 84) (.c (.int .i64 0)))⟩, ⟨(some 86), none, (.pick (.t 82) (.c (.bool true)) (.t 85))⟩, ⟨(some 87), none, (.mv (.t 86))⟩, ⟨(some 88), (some (87, false)), (.mv (.t 12))⟩, ⟨(some 89), (some (87, false)), (.cmp .neq .i64 (.t 88) (.c (.int .i64 0)))⟩, ⟨(some 90), none, (.pick (.t 87) (.c (.bool true)) (.t 89))⟩, ⟨(some 91), none, (.mv (.t 90))⟩, ⟨(some 92), (some (91, false)), (.mv (.t 9))⟩, ⟨(some 93), (some (91, false)), (.call fn_evergreenbase_Is [(.t 92), (.c (.int .i64 5))])⟩, ⟨(some 94), (some (91, false)), (.not (.t 93))⟩, ⟨(some 95), none, (.pick (.t 91) (.c (.bool true)) (.t 94))⟩, ⟨(some 96), none, (.mv (.t 95))⟩, ⟨(some 97), (some (96, false)), (.mv (.t 11))⟩, ⟨(some 98), (some (96, false)), (.call fn_evergreenbase_Is [(.t 97), (.c (.int .i64 5))])⟩, ⟨(some 99), (some (96, false)), (.not (.t 98))⟩, ⟨(some 100), none, (.pick (.t 96) (.c (.bool true)) (.t 99))⟩, ⟨(some 101), none, (.mv (.t 100))⟩, ⟨(some 102), (some (101, false)), (.mv (.t 13))⟩, ⟨(some 103), (some (101, false)), (.call fn_evergreenbase_Is [(.t 102), (.c (.int .i64 5))])⟩, ⟨(some 104), (some (101, false)), (.not (.t 103))⟩, ⟨(some 105), none, (.pick (.t 101) (.c (.bool true)) (.t 104))⟩])
 (.cond
 (.t 105)
 (.seq
 (.reg
 [⟨(some 4), none, (.mv (.c (.bool false)))⟩])
 .ret)
 .skip))
 (.seq
 (.reg
 [⟨(some 107), none, (.mv (.t 6))⟩, ⟨(some 108), none, (.mks 108 ty_uint8 1 1 [(.int .u8 0)] (.c (.int .i64 65537)) (.c (.int .i64 65537)))⟩, ⟨(some 109), none, (.call fn_P_signature_Parser_Of [(.t 107), (.t 108)])⟩, ⟨(some 106), none, (.mv (.t 109))⟩, ⟨(some 110), none, (.ext (.t 106) 0)⟩, ⟨(some 111), none, (.ext (.t 106) 1)⟩, ⟨(some 14), none, (.mv (.t 110))⟩, ⟨(some 15), none, (.mv (.t 111))⟩])
 (.seq
 (.reg
 [⟨(some 113), none, (.mv (.t 5))⟩, ⟨(some 114), none, (.call fn_P_intern_Store_Letter [(.t 113), (.c (.int .u8 97))])⟩, ⟨(some 112), none, (.mv (.t 114))⟩, ⟨(some 115), none, (.ext (.t 112) 0)⟩, ⟨(some 116), none, (.ext (.t 112) 1)⟩, ⟨(some 16), none, (.mv (.t 115))⟩, ⟨(some 17), none, (.mv (.t 116))⟩])
 (.seq
 (.reg
 [⟨(some 118), none, (.mv (.t 5))⟩, ⟨(some 119), none, (.mv (.t 16))⟩, ⟨(some 120), none, (.mv (.t 16))⟩, ⟨(some 121), none, (.call fn_P_intern_Store_Pair [(.t 118), (.t 119), (.t 120)])⟩, ⟨(some 117), none, (.mv (.t 121))⟩, ⟨(some 122), none, (.ext (.t 117) 0)⟩, ⟨(some 123), none, (.ext (.t 117) 1)⟩, ⟨(some 18), none, (.mv (.t 122))⟩, ⟨(some 19), none, (.mv (.t 123))⟩])
 (.seq
 (.seq
 (.reg
 [⟨(some 124), none, (.mv (.t 14))⟩, ⟨(some 125), none, (.cmp .neq .i64 (.t 124) (.c (.int .i64 0)))⟩, ⟨(some 126), none, (.mv (.t 125))⟩, ⟨(some 127), (some (126, false)), (.mv (.t 15))⟩, ⟨(some 128), (some (126, false)), (.call fn_evergreenbase_Is [(.t 127), (.c (.int .i64 9))])⟩, ⟨(some 129), (some (126, false)), (.not (.t 128))⟩, ⟨(some 130), none, (.pick (.t 126) (.c (.bool true)) (.t 129))⟩, ⟨(some 131), none, (.mv (.t 130))⟩, ⟨(some 132), (some (131, false)), (.mv (.t 17))⟩, ⟨(some 133), (some (131, false)), (.eqn .ifc true (.t 132))⟩, ⟨(some 134), none, (.pick (.t 131) (.c (.bool true)) (.t 133))⟩, ⟨(some 135), none, (.mv (.t 134))⟩, ⟨(some 136), (some (135, false)), (.mv (.t 19))⟩, ⟨(some 137), (some (135, false)), (.eqn .ifc true (.t 136))⟩, ⟨(some 138), none, (.pick (.t 135) (.c (.bool true)) (.t 137))⟩])
 (.cond
 (.t 138)
 (.seq
 (.reg
 [⟨(some 4), none, (.mv (.c (.bool false)))⟩])
 .ret)
 .skip))
 (.seq
 (.reg
 [⟨(some 140), none, (.mv (.t 6))⟩, ⟨(some 141), none, (.mv (.t 18))⟩, ⟨(some 142), none, (.mv (.t 1))⟩, ⟨(some 143), none, (.mm true .i64 (.t 142) (.c (.int .i64 0)))⟩, ⟨(some 144), none, (.call fn_P_signature_Parser_Sequence [(.t 140), (.t 141), (.t 143)])⟩, ⟨(some 139), none, (.mv (.t 144))⟩, ⟨(some 145), none, (.ext (.t 139) 0)⟩, ⟨(some 146), none, (.ext (.t 139) 1)⟩, ⟨(some 20), none, (.mv (.t 145))⟩, ⟨(some 21), none, (.mv (.t 146))⟩])
 (.seq
 (.reg
 [⟨(some 148), none, (.mv (.t 6))⟩, ⟨(some 149), none, (.mv (.t 18))⟩, ⟨(some 150), none, (.call fn_P_signature_Parser_Top [(.t 148), (.t 149)])⟩, ⟨(some 147), none, (.mv (.t 150))⟩, ⟨(some 151), none, (.ext (.t 147) 0)⟩, ⟨(some 152), none, (.ext (.t 147) 1)⟩, ⟨(some 22), none, (.mv (.t 151))⟩, ⟨(some 23), none, (.mv (.t 152))⟩])
 (.seq
 (.seq
 (.reg
 [⟨(some 153), none, (.mv (.t 20))⟩, ⟨(some 154), none, (.lens (.t 153))⟩, ⟨(some 155), none, (.cmp .neq .i64 (.t 154) (.c (.int .i64 0)))⟩, ⟨(some 156), none, (.mv (.t 155))⟩, ⟨(some 157), (some (156, false)), (.mv (.t 22))⟩, ⟨(some 158), (some (156, false)), (.cmp .neq .i64 (.t 157) (.c (.int .i64 0)))⟩, ⟨(some 159), none, (.pick (.t 156) (.c (.bool true)) (.t 158))⟩, ⟨(some 160), none, (.mv (.t 159))⟩, ⟨(some 161), (some (160, false)), (.mv (.t 21))⟩, ⟨(some 162), (some (160, false)), (.call fn_evergreenbase_Is [(.t 161), (.c (.int .i64 4))])⟩, ⟨(some 163), (some (160, false)), (.not (.t 162))⟩, ⟨(some 164), none, (.pick (.t 160) (.c (.bool true)) (.t 163))⟩, ⟨(some 165), none, (.mv (.t 164))⟩, ⟨(some 166), (some (165, false)), (.mv (.t 23))⟩, ⟨(some 167), (some (165, false)), (.call fn_evergreenbase_Is [(.t 166), (.c (.int .i64 4))])⟩, ⟨(some 168), (some (165, false)), (.not (.t 167))⟩, ⟨(some 169), none, (.pick (.t 165) (.c (.bool true)) (.t 168))⟩])
 (.cond
 (.t 169)
 (.seq
 (.reg
 [⟨(some 4), none, (.mv (.c (.bool false)))⟩])
 .ret)
 .skip))
 (.seq
 (.seq
 (.reg
 [⟨(some 170), none, (.mv (.t 0))⟩, ⟨(some 171), none, (.cmp .geq .i64 (.t 170) (.c (.int .i64 0)))⟩, ⟨(some 172), none, (.mv (.t 171))⟩, ⟨(some 173), (some (172, true)), (.mv (.t 0))⟩, ⟨(some 174), (some (172, true)), (.mv (.t 5))⟩, ⟨(some 175), (some (172, true)), (.call fn_P_intern_Store_Len [(.t 174)])⟩, ⟨(some 176), (some (172, true)), (.cmp .leq .i64 (.t 173) (.t 175))⟩, ⟨(some 177), none, (.pick (.t 172) (.t 176) (.c (.bool false)))⟩])
 (.cond
 (.t 177)
 (.seq
 (.reg
 [⟨(some 4), none, (.mv (.c (.bool true)))⟩])
 .ret)
 .skip))
 (.seq
 (.reg
 [⟨(some 179), none, (.mv (.t 6))⟩, ⟨(some 180), none, (.mv (.t 0))⟩, ⟨(some 181), none, (.mv (.t 1))⟩, ⟨(some 182), none, (.call fn_P_signature_Parser_Sequence [(.t 179), (.t 180), (.t 181)])⟩, ⟨(some 178), none, (.mv (.t 182))⟩, ⟨(some 183), none, (.ext (.t 178) 0)⟩, ⟨(some 184), none, (.ext (.t 178) 1)⟩, ⟨(some 20), none, (.mv (.t 183))⟩, ⟨(some 21), none, (.mv (.t 184))⟩])
 (.seq
 (.reg
 [⟨(some 186), none, (.mv (.t 6))⟩, ⟨(some 187), none, (.mv (.t 0))⟩, ⟨(some 188), none, (.call fn_P_signature_Parser_Top [(.t 186), (.t 187)])⟩, ⟨(some 185), none, (.mv (.t 188))⟩, ⟨(some 189), none, (.ext (.t 185) 0)⟩, ⟨(some 190), none, (.ext (.t 185) 1)⟩, ⟨(some 22), none, (.mv (.t 189))⟩, ⟨(some 23), none, (.mv (.t 190))⟩])
 (.seq
 (.reg
 [⟨(some 191), none, (.mv (.t 20))⟩, ⟨(some 192), none, (.lens (.t 191))⟩, ⟨(some 193), none, (.cmp .eql .i64 (.t 192) (.c (.int .i64 0)))⟩, ⟨(some 194), none, (.mv (.t 193))⟩, ⟨(some 195), (some (194, true)), (.mv (.t 22))⟩, ⟨(some 196), (some (194, true)), (.cmp .eql .i64 (.t 195) (.c (.int .i64 0)))⟩, ⟨(some 197), none, (.pick (.t 194) (.t 196) (.c (.bool false)))⟩, ⟨(some 198), none, (.mv (.t 197))⟩, ⟨(some 199), (some (198, true)), (.mv (.t 21))⟩, ⟨(some 200), (some (198, true)), (.call fn_evergreenbase_Is [(.t 199), (.c (.int .i64 1))])⟩, ⟨(some 201), none, (.pick (.t 198) (.t 200) (.c (.bool false)))⟩, ⟨(some 202), none, (.mv (.t 201))⟩, ⟨(some 203), (some (202, true)), (.mv (.t 23))⟩, ⟨(some 204), (some (202, true)), (.call fn_evergreenbase_Is [(.t 203), (.c (.int .i64 1))])⟩, ⟨(some 205), none, (.pick (.t 202) (.t 204) (.c (.bool false)))⟩, ⟨(some 4), none, (.mv (.t 205))⟩])
 .ret))))))))))))))))))))
def ts_evergreenlaw22_SignatureErrors : List (Nat × Tr) := []
set_option maxRecDepth 100000 in
set_option maxHeartbeats 4000000 in
theorem ok_evergreenlaw22_SignatureErrors : irOf Tryd.prog fn_evergreenlaw22_SignatureErrors [] ts_evergreenlaw22_SignatureErrors = some (206, [(.t 4)], ir_evergreenlaw22_SignatureErrors) := by kernel_rfl
end Go.Proofs.YtkkhpdkfploodaaDoor
