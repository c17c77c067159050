/- The small forms of functions of the program, with the equations that say so: written by a program (irtool.py). No condition. -/
import Derived.Test.YtoocnmfodhnpbaaK6
import Derived.Test.YtoocnmfodhnpbaaProg
namespace Go.Proofs.Ytoocnmfodhnpbaa
open Go.EG
abbrev fn_evergreenlaw33_TransferForms : Nat := 7
abbrev fn_evergreenlaw33_awake : Nat := 10
abbrev ty_evergreenlaw33_In : Nat := 28
def ir_evergreenlaw33_awake : C :=
 (.seq
 (.reg
 [⟨(some 0),none,(.mv (.c (.bool false)))⟩])
 (.seq
 (.reg
 [⟨(some 12),none,(.call fn_intern_New [(.c (.int .i64 10))])⟩,⟨(some 1),none,(.mv (.t 12))⟩])
 (.seq
 (.seq
 (.reg
 [⟨(some 13),none,(.mv (.t 1))⟩,⟨(some 14),none,(.eqn .ptr false (.t 13))⟩])
 (.cond
 (.t 14)
 (.seq
 (.reg
 [⟨(some 0),none,(.mv (.c (.bool false)))⟩])
 .ret)
 .skip))
 (.seq
 (.reg
 [⟨(some 16),none,(.mv (.t 1))⟩,⟨(some 17),none,(.bld [(.int .i64 0),(.int .u8 0),(.int .i64 0),(.int .i64 0),(.int .i64 0)] [(0,(1,(.c (.int .i64 1)))),(1,(1,(.c (.int .u8 97))))])⟩,⟨(some 18),none,(.bld [(.int .i64 0),(.int .u8 0),(.int .i64 0),(.int .i64 0),(.int .i64 0)] [(0,(1,(.c (.int .i64 1)))),(1,(1,(.c (.int .u8 98))))])⟩,⟨(some 19),none,(.bld [(.int .i64 0),(.int .u8 0),(.int .i64 0),(.int .i64 0),(.int .i64 0)] [(0,(1,(.c (.int .i64 2)))),(2,(1,(.c (.int .i64 1)))),(3,(1,(.c (.int .i64 2))))])⟩,⟨(some 20),none,(.bld [(.int .i64 0),(.int .u8 0),(.int .i64 0),(.int .i64 0),(.int .i64 0)] [(0,(1,(.c (.int .i64 3)))),(2,(1,(.c (.int .i64 1)))),(4,(1,(.c (.int .i64 2))))])⟩,⟨(some 21),none,(.bld [(.int .i64 0),(.int .u8 0),(.int .i64 0),(.int .i64 0),(.int .i64 0)] [(0,(1,(.c (.int .i64 2)))),(2,(1,(.c (.int .i64 3)))),(3,(1,(.c (.int .i64 4))))])⟩,⟨(some 22),none,(.bsl 22 ty_api_Rule 5 5 [(.int .i64 0),(.int .u8 0),(.int .i64 0),(.int .i64 0),(.int .i64 0),(.int .i64 0),(.int .u8 0),(.int .i64 0),(.int .i64 0),(.int .i64 0),(.int .i64 0),(.int .u8 0),(.int .i64 0),(.int .i64 0),(.int .i64 0),(.int .i64 0),(.int .u8 0),(.int .i64 0),(.int .i64 0),(.int .i64 0),(.int .i64 0),(.int .u8 0),(.int .i64 0),(.int .i64 0),(.int .i64 0)] [(0,(5,(.t 17))),(5,(5,(.t 18))),(10,(5,(.t 19))),(15,(5,(.t 20))),(20,(5,(.t 21)))])⟩,⟨(some 23),none,(.call fn_P_intern_Store_Import [(.t 16),(.t 22)])⟩,⟨(some 15),none,(.mv (.t 23))⟩,⟨(some 24),none,(.ext (.t 15) 0)⟩,⟨(some 25),none,(.ext (.t 15) 1)⟩,⟨(some 2),none,(.mv (.t 24))⟩,⟨(some 3),none,(.mv (.t 25))⟩])
 (.seq
 (.reg
 [⟨(some 4),none,(.alc 4 ty_api_Letters [(.int .u64 0),(.int .u64 0),(.int .u64 0),(.int .u64 0)])⟩])
 (.seq
 (.reg
 [⟨(some 26),none,(.iaa 1 4 (.t 4) (.c (.int .i64 1)))⟩,⟨none,none,(.st 1 (.t 26) (.c (.int .u64 8589934592)))⟩])
 (.seq
 (.reg
 [⟨(some 28),none,(.mv (.t 1))⟩,⟨(some 29),none,(.lda 4 [(.int .u64),(.int .u64),(.int .u64),(.int .u64)] (.t 4))⟩,⟨(some 30),none,(.call fn_evergreenlaw33_Letters [(.t 29)])⟩,⟨(some 31),none,(.bsl 31 ty_int 1 2 [(.int .i64 0),(.int .i64 0)] [(0,(1,(.c (.int .i64 0)))),(1,(1,(.c (.int .i64 1))))])⟩,⟨(some 32),none,(.call fn_transfer_New [(.t 28),(.t 30),(.t 31),(.c (.bool false))])⟩,⟨(some 27),none,(.mv (.t 32))⟩,⟨(some 33),none,(.ext (.t 27) 0)⟩,⟨(some 34),none,(.ext (.t 27) 1)⟩,⟨(some 5),none,(.mv (.t 33))⟩,⟨(some 6),none,(.mv (.t 34))⟩])
 (.seq
 (.reg
 [⟨(some 36),none,(.mv (.t 5))⟩,⟨(some 37),none,(.mv (.t 2))⟩,⟨(some 38),none,(.call fn_P_transfer_Table_Hits [(.t 36),(.t 37),(.c (.int .i64 0))])⟩,⟨(some 35),none,(.mv (.t 38))⟩,⟨(some 39),none,(.ext (.t 35) 0)⟩,⟨(some 40),none,(.ext (.t 35) 1)⟩,⟨(some 7),none,(.mv (.t 39))⟩,⟨(some 8),none,(.mv (.t 40))⟩])
 (.seq
 (.reg
 [⟨(some 42),none,(.mv (.t 5))⟩,⟨(some 43),none,(.mv (.t 2))⟩,⟨(some 44),none,(.call fn_P_transfer_Table_Part [(.t 42),(.t 43),(.c (.int .i64 1)),(.c (.int .i64 2)),(.c (.int .i64 0))])⟩,⟨(some 41),none,(.mv (.t 44))⟩,⟨(some 45),none,(.ext (.t 41) 0)⟩,⟨(some 46),none,(.ext (.t 41) 1)⟩,⟨(some 47),none,(.ext (.t 41) 2)⟩,⟨(some 9),none,(.mv (.t 45))⟩,⟨(some 10),none,(.mv (.t 46))⟩,⟨(some 11),none,(.mv (.t 47))⟩])
 (.seq
 (.reg
 [⟨(some 48),none,(.mv (.t 3))⟩,⟨(some 49),none,(.eqn .ifc false (.t 48))⟩,⟨(some 50),none,(.mv (.t 49))⟩,⟨(some 51),(some (50,true)),(.mv (.t 6))⟩,⟨(some 52),(some (50,true)),(.eqn .ifc false (.t 51))⟩,⟨(some 53),none,(.pick (.t 50) (.t 52) (.c (.bool false)))⟩,⟨(some 54),none,(.mv (.t 53))⟩,⟨(some 55),(some (54,true)),(.mv (.t 8))⟩,⟨(some 56),(some (54,true)),(.eqn .ifc false (.t 55))⟩,⟨(some 57),none,(.pick (.t 54) (.t 56) (.c (.bool false)))⟩,⟨(some 58),none,(.mv (.t 57))⟩,⟨(some 59),(some (58,true)),(.mv (.t 11))⟩,⟨(some 60),(some (58,true)),(.eqn .ifc false (.t 59))⟩,⟨(some 61),none,(.pick (.t 58) (.t 60) (.c (.bool false)))⟩,⟨(some 62),none,(.mv (.t 61))⟩,⟨(some 63),(some (62,true)),(.mv (.t 7))⟩,⟨(some 64),(some (62,true)),(.cmp .eql .i64 (.t 63) (.c (.int .i64 3)))⟩,⟨(some 65),none,(.pick (.t 62) (.t 64) (.c (.bool false)))⟩,⟨(some 66),none,(.mv (.t 65))⟩,⟨(some 67),(some (66,true)),(.mv (.t 9))⟩,⟨(some 68),(some (66,true)),(.cmp .eql .i64 (.t 67) (.c (.int .i64 1)))⟩,⟨(some 69),none,(.pick (.t 66) (.t 68) (.c (.bool false)))⟩,⟨(some 70),none,(.mv (.t 69))⟩,⟨(some 71),(some (70,true)),(.mv (.t 10))⟩,⟨(some 72),(some (70,true)),(.cmp .eql .i64 (.t 71) (.c (.int .i64 1)))⟩,⟨(some 73),none,(.pick (.t 70) (.t 72) (.c (.bool false)))⟩,⟨(some 0),none,(.mv (.t 73))⟩])
 .ret))))))))))
def ts_evergreenlaw33_awake : List (Nat × Tr) := []
set_option maxRecDepth 100000 in
set_option maxHeartbeats 4000000 in
theorem ok_evergreenlaw33_awake : irOf Try.prog fn_evergreenlaw33_awake [] ts_evergreenlaw33_awake = some (74,[(.t 0)],ir_evergreenlaw33_awake) := by kernel_rfl
def ir_evergreenlaw33_TransferForms : C :=
 (.seq
 (.reg
 [⟨(some 4),none,(.box 4 ty_evergreenlaw33_In (.t 0))⟩,⟨(some 8),none,(.mv (.c (.bool false)))⟩])
 (.seq
 (.seq
 (.reg
 [⟨(some 33),none,(.call fn_evergreenlaw33_awake [])⟩,⟨(some 34),none,(.not (.t 33))⟩,⟨(some 35),none,(.mv (.t 34))⟩,⟨(some 36),(some (35,false)),(.fa 0 (.t 4))⟩,⟨(some 37),(some (35,false)),(.fa 2 (.t 36))⟩,⟨(some 38),(some (35,false)),(.ld .slc (.t 37))⟩,⟨(some 39),(some (35,false)),(.lens (.t 38))⟩,⟨(some 40),(some (35,false)),(.cmp .gtr .i64 (.t 39) (.c (.int .i64 300)))⟩,⟨(some 41),none,(.pick (.t 35) (.c (.bool true)) (.t 40))⟩,⟨(some 42),none,(.mv (.t 41))⟩,⟨(some 43),(some (42,false)),(.fa 4 (.t 4))⟩,⟨(some 44),(some (42,false)),(.ld .slc (.t 43))⟩,⟨(some 45),(some (42,false)),(.lens (.t 44))⟩,⟨(some 46),(some (42,false)),(.cmp .gtr .i64 (.t 45) (.c (.int .i64 300)))⟩,⟨(some 47),none,(.pick (.t 42) (.c (.bool true)) (.t 46))⟩])
 (.cond
 (.t 47)
 (.seq
 (.reg
 [⟨(some 48),none,(.call fn_evergreenlaw33_awake [])⟩,⟨(some 8),none,(.mv (.t 48))⟩])
 .ret)
 .skip))
 (.seq
 (.reg
 [⟨(some 49),none,(.call fn_intern_New [(.c (.int .i64 5))])⟩,⟨(some 9),none,(.mv (.t 49))⟩])
 (.seq
 (.reg
 [⟨(some 51),none,(.mv (.t 9))⟩,⟨(some 52),none,(.call fn_P_intern_Store_Letter [(.t 51),(.c (.int .u8 97))])⟩,⟨(some 50),none,(.mv (.t 52))⟩,⟨(some 53),none,(.ext (.t 50) 0)⟩,⟨(some 54),none,(.ext (.t 50) 1)⟩,⟨(some 10),none,(.mv (.t 53))⟩,⟨(some 11),none,(.mv (.t 54))⟩])
 (.seq
 (.seq
 (.reg
 [⟨(some 55),none,(.mv (.t 3))⟩])
 (.cond
 (.t 55)
 (.reg
 [⟨(some 9),none,(.mv (.c (.pointer none)))⟩])
 .skip))
 (.seq
 (.reg
 [⟨(some 57),none,(.mv (.t 9))⟩,⟨(some 58),none,(.fa 0 (.t 4))⟩,⟨(some 59),none,(.lda 4 [(.int .i64),.slc,.slc,.slc] (.t 58))⟩,⟨(some 60),none,(.fa 4 (.t 4))⟩,⟨(some 61),none,(.ld .slc (.t 60))⟩,⟨(some 62),none,(.fa 5 (.t 4))⟩,⟨(some 63),none,(.ld .bool (.t 62))⟩,⟨(some 64),none,(.call fn_transfer_New [(.t 57),(.t 59),(.t 61),(.t 63)])⟩,⟨(some 56),none,(.mv (.t 64))⟩,⟨(some 65),none,(.ext (.t 56) 0)⟩,⟨(some 66),none,(.ext (.t 56) 1)⟩,⟨(some 12),none,(.mv (.t 65))⟩,⟨(some 13),none,(.mv (.t 66))⟩])
 (.seq
 (.reg
 [⟨(some 67),none,(.fa 0 (.t 4))⟩,⟨(some 68),none,(.lda 4 [(.int .i64),.slc,.slc,.slc] (.t 67))⟩,⟨(some 69),none,(.call fn_machine_Check [(.t 68)])⟩,⟨(some 14),none,(.mv (.t 69))⟩])
 (.seq
 (.reg
 [⟨(some 70),none,(.fa 4 (.t 4))⟩,⟨(some 71),none,(.ld .slc (.t 70))⟩,⟨(some 72),none,(.lens (.t 71))⟩,⟨(some 73),none,(.fa 0 (.t 4))⟩,⟨(some 74),none,(.fa 2 (.t 73))⟩,⟨(some 75),none,(.ld .slc (.t 74))⟩,⟨(some 76),none,(.lens (.t 75))⟩,⟨(some 77),none,(.cmp .neq .i64 (.t 72) (.t 76))⟩,⟨(some 15),none,(.mv (.t 77))⟩])
 (.seq
 (.seq
 (.reg
 [⟨(some 78),none,(.fa 4 (.t 4))⟩,⟨(some 79),none,(.ld .slc (.t 78))⟩,⟨(some 80),none,(.lens (.t 79))⟩,⟨(some 81),none,(.mv (.c (.int .i64 0)))⟩])
 (.blk
 0
 (.loop
 (.seq
 (.reg
 [⟨(some 82),none,(.cmp .lss .i64 (.t 81) (.t 80))⟩])
 (.seq
 (.cond
 (.t 82)
 .skip
 (.exit 0))
 (.seq
 (.blk
 1
 (.seq
 (.reg
 [⟨(some 83),none,(.ia 1 (.t 79) (.t 81))⟩,⟨(some 84),none,(.ld (.int .i64) (.t 83))⟩,⟨(some 17),none,(.mv (.t 84))⟩])
 (.reg
 [⟨(some 85),none,(.mv (.t 15))⟩,⟨(some 86),none,(.mv (.t 85))⟩,⟨(some 87),(some (86,false)),(.mv (.t 17))⟩,⟨(some 88),(some (86,false)),(.cmp .lss .i64 (.t 87) (.c (.int .i64 0)))⟩,⟨(some 89),none,(.pick (.t 86) (.c (.bool true)) (.t 88))⟩,⟨(some 90),none,(.mv (.t 89))⟩,⟨(some 91),(some (90,false)),(.mv (.t 17))⟩,⟨(some 92),(some (90,false)),(.cmp .gtr .i64 (.t 91) (.c (.int .i64 1048576)))⟩,⟨(some 93),none,(.pick (.t 90) (.c (.bool true)) (.t 92))⟩,⟨(some 15),none,(.mv (.t 93))⟩])))
 (.reg
 [⟨(some 94),none,(.ar .add .i64 (.t 81) (.c (.int .i64 1)))⟩,⟨(some 81),none,(.mv (.t 94))⟩])))))))
 (.seq
 (.blk
 2
 (.seq
 (.reg
 [⟨(some 96),none,(.mv (.t 3))⟩,⟨(some 95),none,(.mv (.t 96))⟩])
 (.cond
 (.t 95)
 (.seq
 (.reg
 [⟨(some 98),none,(.mv (.t 12))⟩,⟨(some 99),none,(.call fn_P_transfer_Table_Part [(.t 98),(.c (.int .i64 0)),(.c (.int .i64 0)),(.c (.int .i64 0)),(.c (.int .i64 0))])⟩,⟨(some 97),none,(.mv (.t 99))⟩,⟨(some 100),none,(.ext (.t 97) 0)⟩,⟨(some 101),none,(.ext (.t 97) 1)⟩,⟨(some 102),none,(.ext (.t 97) 2)⟩,⟨(some 18),none,(.mv (.t 100))⟩,⟨(some 19),none,(.mv (.t 101))⟩,⟨(some 20),none,(.mv (.t 102))⟩])
 (.seq
 (.reg
 [⟨(some 103),none,(.mv (.t 13))⟩,⟨(some 104),none,(.call fn_evergreenbase_Is [(.t 103),(.c (.int .i64 5))])⟩,⟨(some 105),none,(.mv (.t 104))⟩,⟨(some 106),(some (105,true)),(.mv (.t 12))⟩,⟨(some 107),(some (105,true)),(.eqn .ptr false (.t 106))⟩,⟨(some 108),none,(.pick (.t 105) (.t 107) (.c (.bool false)))⟩,⟨(some 109),none,(.mv (.t 108))⟩,⟨(some 110),(some (109,true)),(.mv (.t 20))⟩,⟨(some 111),(some (109,true)),(.call fn_evergreenbase_Is [(.t 110),(.c (.int .i64 5))])⟩,⟨(some 112),none,(.pick (.t 109) (.t 111) (.c (.bool false)))⟩,⟨(some 113),none,(.mv (.t 112))⟩,⟨(some 114),(some (113,true)),(.mv (.t 12))⟩,⟨(some 115),(some (113,true)),(.call fn_P_transfer_Table_Rules [(.t 114)])⟩,⟨(some 116),(some (113,true)),(.cmp .eql .i64 (.t 115) (.c (.int .i64 0)))⟩,⟨(some 117),none,(.pick (.t 113) (.t 116) (.c (.bool false)))⟩,⟨(some 118),none,(.mv (.t 117))⟩,⟨(some 119),(some (118,true)),(.mv (.t 12))⟩,⟨(some 120),(some (118,true)),(.call fn_P_transfer_Table_Store [(.t 119)])⟩,⟨(some 121),(some (118,true)),(.eqn .ptr false (.t 120))⟩,⟨(some 122),none,(.pick (.t 118) (.t 121) (.c (.bool false)))⟩,⟨(some 123),none,(.mv (.t 122))⟩,⟨(some 124),(some (123,true)),(.mv (.t 12))⟩,⟨(some 125),(some (123,true)),(.call fn_P_transfer_Table_Back [(.t 124)])⟩,⟨(some 126),(some (123,true)),(.not (.t 125))⟩,⟨(some 127),none,(.pick (.t 123) (.t 126) (.c (.bool false)))⟩,⟨(some 128),none,(.mv (.t 127))⟩,⟨(some 129),(some (128,true)),(.mv (.t 12))⟩,⟨(some 130),(some (128,true)),(.call fn_P_transfer_Table_Weight [(.t 129),(.c (.int .i64 0))])⟩,⟨(some 131),(some (128,true)),(.cmp .eql .i64 (.t 130) (.c (.int .i64 0)))⟩,⟨(some 132),none,(.pick (.t 128) (.t 131) (.c (.bool false)))⟩,⟨(some 8),none,(.mv (.t 132))⟩])
 .ret))
 (.seq
 (.reg
 [⟨(some 134),none,(.mv (.t 14))⟩,⟨(some 135),none,(.eqn .ifc true (.t 134))⟩,⟨(some 133),none,(.mv (.t 135))⟩])
 (.cond
 (.t 133)
 (.seq
 (.reg
 [⟨(some 136),none,(.mv (.t 12))⟩,⟨(some 137),none,(.eqn .ptr false (.t 136))⟩,⟨(some 138),none,(.mv (.t 137))⟩,⟨(some 139),(some (138,true)),(.mv (.t 13))⟩,⟨(some 140),(some (138,true)),(.call fn_evergreenbase_Num [(.t 139)])⟩,⟨(some 141),(some (138,true)),(.mv (.t 14))⟩,⟨(some 142),(some (138,true)),(.call fn_evergreenbase_Num [(.t 141)])⟩,⟨(some 143),(some (138,true)),(.cmp .eql .i64 (.t 140) (.t 142))⟩,⟨(some 144),none,(.pick (.t 138) (.t 143) (.c (.bool false)))⟩,⟨(some 8),none,(.mv (.t 144))⟩])
 .ret)
 (.seq
 (.reg
 [⟨(some 146),none,(.mv (.t 15))⟩,⟨(some 145),none,(.mv (.t 146))⟩])
 (.cond
 (.t 145)
 (.seq
 (.reg
 [⟨(some 147),none,(.mv (.t 12))⟩,⟨(some 148),none,(.eqn .ptr false (.t 147))⟩,⟨(some 149),none,(.mv (.t 148))⟩,⟨(some 150),(some (149,true)),(.mv (.t 13))⟩,⟨(some 151),(some (149,true)),(.call fn_evergreenbase_Is [(.t 150),(.c (.int .i64 4))])⟩,⟨(some 152),none,(.pick (.t 149) (.t 151) (.c (.bool false)))⟩,⟨(some 8),none,(.mv (.t 152))⟩])
 .ret)
 .skip)))))))
 (.seq
 (.reg
 [⟨(some 153),none,(.mv (.t 12))⟩,⟨(some 154),none,(.mv (.t 2))⟩,⟨(some 155),none,(.call fn_P_transfer_Table_Weight [(.t 153),(.t 154)])⟩,⟨(some 21),none,(.mv (.t 155))⟩])
 (.seq
 (.seq
 (.drw
 [⟨(some 156),none,(.mv (.t 13))⟩,⟨(some 157),none,(.eqn .ifc true (.t 156))⟩,⟨(some 158),none,(.mv (.t 157))⟩,⟨(some 159),(some (158,false)),(.mv (.t 12))⟩,⟨(some 160),(some (158,false)),(.call fn_P_transfer_Table_Store [(.t 159)])⟩,⟨(some 161),(some (158,false)),(.mv (.t 9))⟩,⟨(some 162),(some (158,false)),(.eqp true (.t 160) (.t 161))⟩,⟨(some 163),none,(.pick (.t 158) (.c (.bool true)) (.t 162))⟩,⟨(some 164),none,(.mv (.t 163))⟩,⟨(some 165),(some (164,false)),(.mv (.t 12))⟩,⟨(some 166),(some (164,false)),(.call fn_P_transfer_Table_Back [(.t 165)])⟩,⟨(some 167),(some (164,false)),(.fa 5 (.t 4))⟩,⟨(some 168),(some (164,false)),(.ld .bool (.t 167))⟩,⟨(some 169),(some (164,false)),(.eqb true (.t 166) (.t 168))⟩,⟨(some 170),none,(.pick (.t 164) (.c (.bool true)) (.t 169))⟩,⟨(some 171),none,(.mv (.t 170))⟩,⟨(some 172),(some (171,false)),(.mv (.t 12))⟩,⟨(some 173),(some (171,false)),(.call fn_P_transfer_Table_Machine [(.t 172)])⟩,⟨(some 174),(some (171,false)),(.fa 0 (.t 4))⟩,⟨(some 175),(some (171,false)),(.lda 4 [(.int .i64),.slc,.slc,.slc] (.t 174))⟩,⟨(some 176),(some (171,false)),(.call fn_evergreenref33_Same [(.t 173),(.t 175)])⟩,⟨(some 177),(some (171,false)),(.not (.t 176))⟩,⟨(some 178),none,(.pick (.t 171) (.c (.bool true)) (.t 177))⟩,⟨(some 179),none,(.mv (.t 178))⟩,⟨(some 180),(some (179,false)),(.mv (.t 12))⟩,⟨(some 181),(some (179,false)),(.call fn_P_transfer_Table_Rules [(.t 180)])⟩,⟨(some 182),(some (179,false)),(.cmp .neq .i64 (.t 181) (.c (.int .i64 0)))⟩,⟨(some 183),none,(.pick (.t 179) (.c (.bool true)) (.t 182))⟩]
 (.mov 0 (.take 1 (.mov 2 (.mov 3 (.mov 5 (.bar 4 (.take 6 (.take 7 (.mov 8 (.mov 9 (.take 11 (.take 12 (.alt 10 true (.take 13 (.take 14 (.mov 15 (.mov 16 (.take 18 (.take 19 (.alt 17 true (.bar 20 (.take 21 (.take 22 (.mov 23 (.mov 24 (.bar 25 (.take 26 (.take 27 .done)))))))) .nil))))))) .nil))))))))))))))
 (.cond
 (.t 183)
 (.seq
 (.reg
 [⟨(some 8),none,(.mv (.c (.bool false)))⟩])
 .ret)
 .skip))
 (.seq
 (.seq
 (.reg
 [⟨(some 184),none,(.mv (.t 2))⟩,⟨(some 185),none,(.cmp .geq .i64 (.t 184) (.c (.int .i64 0)))⟩,⟨(some 186),none,(.mv (.t 185))⟩,⟨(some 187),(some (186,true)),(.mv (.t 2))⟩,⟨(some 188),(some (186,true)),(.fa 4 (.t 4))⟩,⟨(some 189),(some (186,true)),(.ld .slc (.t 188))⟩,⟨(some 190),(some (186,true)),(.lens (.t 189))⟩,⟨(some 191),(some (186,true)),(.cmp .lss .i64 (.t 187) (.t 190))⟩,⟨(some 192),none,(.pick (.t 186) (.t 191) (.c (.bool false)))⟩])
 (.cond
 (.t 192)
 (.seq
 (.reg
 [⟨(some 194),none,(.mv (.t 12))⟩,⟨(some 195),none,(.mv (.t 2))⟩,⟨(some 196),none,(.call fn_P_transfer_Table_End [(.t 194),(.c (.int .i64 0)),(.t 195)])⟩,⟨(some 193),none,(.mv (.t 196))⟩,⟨(some 197),none,(.ext (.t 193) 0)⟩,⟨(some 198),none,(.ext (.t 193) 1)⟩,⟨(some 22),none,(.mv (.t 197))⟩,⟨(some 23),none,(.mv (.t 198))⟩])
 (.seq
 (.reg
 [⟨(some 200),none,(.mv (.t 12))⟩,⟨(some 201),none,(.mv (.t 10))⟩,⟨(some 202),none,(.mv (.t 2))⟩,⟨(some 203),none,(.call fn_P_transfer_Table_End [(.t 200),(.t 201),(.t 202)])⟩,⟨(some 199),none,(.mv (.t 203))⟩,⟨(some 204),none,(.ext (.t 199) 0)⟩,⟨(some 205),none,(.ext (.t 199) 1)⟩,⟨(some 24),none,(.mv (.t 204))⟩,⟨(some 25),none,(.mv (.t 205))⟩])
 (.seq
 (.reg
 [⟨(some 206),none,(.mv (.t 21))⟩,⟨(some 207),none,(.fa 4 (.t 4))⟩,⟨(some 208),none,(.ld .slc (.t 207))⟩,⟨(some 209),none,(.mv (.t 2))⟩,⟨(some 210),none,(.ia 1 (.t 208) (.t 209))⟩,⟨(some 211),none,(.ld (.int .i64) (.t 210))⟩,⟨(some 212),none,(.cmp .neq .i64 (.t 206) (.t 211))⟩,⟨(some 213),none,(.mv (.t 212))⟩,⟨(some 214),(some (213,false)),(.mv (.t 23))⟩,⟨(some 215),(some (213,false)),(.eqn .ifc true (.t 214))⟩,⟨(some 216),none,(.pick (.t 213) (.c (.bool true)) (.t 215))⟩,⟨(some 217),none,(.mv (.t 216))⟩,⟨(some 218),(some (217,false)),(.mv (.t 25))⟩,⟨(some 219),(some (217,false)),(.eqn .ifc true (.t 218))⟩,⟨(some 220),none,(.pick (.t 217) (.c (.bool true)) (.t 219))⟩,⟨(some 221),none,(.mv (.t 220))⟩,⟨(some 222),(some (221,false)),(.mv (.t 22))⟩,⟨(some 223),(some (221,false)),(.mv (.t 2))⟩,⟨(some 224),(some (221,false)),(.cmp .neq .i64 (.t 222) (.t 223))⟩,⟨(some 225),none,(.pick (.t 221) (.c (.bool true)) (.t 224))⟩])
 (.cond
 (.t 225)
 (.seq
 (.reg
 [⟨(some 8),none,(.mv (.c (.bool false)))⟩])
 .ret)
 .skip))))
 (.seq
 (.reg
 [⟨(some 226),none,(.mv (.t 21))⟩,⟨(some 227),none,(.cmp .neq .i64 (.t 226) (.c (.int .i64 0)))⟩])
 (.cond
 (.t 227)
 (.seq
 (.reg
 [⟨(some 8),none,(.mv (.c (.bool false)))⟩])
 .ret)
 .skip))))
 (.seq
 (.seq
 (.reg
 [⟨(some 228),none,(.mv (.t 2))⟩,⟨(some 229),none,(.cmp .geq .i64 (.t 228) (.c (.int .i64 0)))⟩,⟨(some 230),none,(.mv (.t 229))⟩,⟨(some 231),(some (230,true)),(.mv (.t 2))⟩,⟨(some 232),(some (230,true)),(.fa 4 (.t 4))⟩,⟨(some 233),(some (230,true)),(.ld .slc (.t 232))⟩,⟨(some 234),(some (230,true)),(.lens (.t 233))⟩,⟨(some 235),(some (230,true)),(.cmp .lss .i64 (.t 231) (.t 234))⟩,⟨(some 236),none,(.pick (.t 230) (.t 235) (.c (.bool false)))⟩,⟨(some 237),none,(.mv (.t 236))⟩,⟨(some 238),(some (237,true)),(.mv (.t 1))⟩,⟨(some 239),(some (237,true)),(.cmp .geq .i64 (.t 238) (.c (.int .i64 0)))⟩,⟨(some 240),none,(.pick (.t 237) (.t 239) (.c (.bool false)))⟩,⟨(some 241),none,(.mv (.t 240))⟩,⟨(some 242),(some (241,true)),(.mv (.t 1))⟩,⟨(some 243),(some (241,true)),(.cmp .leq .i64 (.t 242) (.c (.int .i64 1)))⟩,⟨(some 244),none,(.pick (.t 241) (.t 243) (.c (.bool false)))⟩])
 (.cond
 (.t 244)
 (.seq
 (.reg
 [⟨(some 8),none,(.mv (.c (.bool true)))⟩])
 .ret)
 .skip))
 (.seq
 (.reg
 [⟨(some 246),none,(.mv (.t 12))⟩,⟨(some 247),none,(.mv (.t 1))⟩,⟨(some 248),none,(.mv (.t 2))⟩,⟨(some 249),none,(.call fn_P_transfer_Table_End [(.t 246),(.t 247),(.t 248)])⟩,⟨(some 245),none,(.mv (.t 249))⟩,⟨(some 250),none,(.ext (.t 245) 0)⟩,⟨(some 251),none,(.ext (.t 245) 1)⟩,⟨(some 26),none,(.mv (.t 250))⟩,⟨(some 27),none,(.mv (.t 251))⟩])
 (.seq
 (.reg
 [⟨(some 253),none,(.mv (.t 12))⟩,⟨(some 254),none,(.mv (.t 1))⟩,⟨(some 255),none,(.mv (.t 2))⟩,⟨(some 256),none,(.call fn_P_transfer_Table_Hits [(.t 253),(.t 254),(.t 255)])⟩,⟨(some 252),none,(.mv (.t 256))⟩,⟨(some 257),none,(.ext (.t 252) 0)⟩,⟨(some 258),none,(.ext (.t 252) 1)⟩,⟨(some 28),none,(.mv (.t 257))⟩,⟨(some 29),none,(.mv (.t 258))⟩])
 (.seq
 (.reg
 [⟨(some 260),none,(.mv (.t 12))⟩,⟨(some 261),none,(.mv (.t 1))⟩,⟨(some 262),none,(.mv (.t 2))⟩,⟨(some 263),none,(.call fn_P_transfer_Table_Part [(.t 260),(.t 261),(.c (.int .i64 0)),(.c (.int .i64 0)),(.t 262)])⟩,⟨(some 259),none,(.mv (.t 263))⟩,⟨(some 264),none,(.ext (.t 259) 0)⟩,⟨(some 265),none,(.ext (.t 259) 1)⟩,⟨(some 266),none,(.ext (.t 259) 2)⟩,⟨(some 30),none,(.mv (.t 264))⟩,⟨(some 31),none,(.mv (.t 265))⟩,⟨(some 32),none,(.mv (.t 266))⟩])
 (.seq
 (.reg
 [⟨(some 267),none,(.mv (.t 27))⟩,⟨(some 268),none,(.call fn_evergreenbase_Is [(.t 267),(.c (.int .i64 1))])⟩,⟨(some 269),none,(.mv (.t 268))⟩,⟨(some 270),(some (269,true)),(.mv (.t 29))⟩,⟨(some 271),(some (269,true)),(.call fn_evergreenbase_Is [(.t 270),(.c (.int .i64 1))])⟩,⟨(some 272),none,(.pick (.t 269) (.t 271) (.c (.bool false)))⟩,⟨(some 273),none,(.mv (.t 272))⟩,⟨(some 274),(some (273,true)),(.mv (.t 32))⟩,⟨(some 275),(some (273,true)),(.call fn_evergreenbase_Is [(.t 274),(.c (.int .i64 1))])⟩,⟨(some 276),none,(.pick (.t 273) (.t 275) (.c (.bool false)))⟩,⟨(some 8),none,(.mv (.t 276))⟩])
 .ret))))))))))))))))))
def ts_evergreenlaw33_TransferForms : List (Nat × Tr) := [(23,(.mov 0 (.take 1 (.mov 2 (.mov 3 (.mov 5 (.bar 4 (.take 6 (.take 7 (.mov 8 (.mov 9 (.take 11 (.take 12 (.alt 10 true (.take 13 (.take 14 (.mov 15 (.mov 16 (.take 18 (.take 19 (.alt 17 true (.bar 20 (.take 21 (.take 22 (.mov 23 (.mov 24 (.bar 25 (.take 26 (.take 27 .done)))))))) .nil))))))) .nil))))))))))))))]
set_option maxRecDepth 100000 in
set_option maxHeartbeats 4000000 in
theorem ok_evergreenlaw33_TransferForms : irOf Try.prog fn_evergreenlaw33_TransferForms [] ts_evergreenlaw33_TransferForms = some (277,[(.t 8)],ir_evergreenlaw33_TransferForms) := by kernel_rfl
end Go.Proofs.Ytoocnmfodhnpbaa
