/- The small forms of functions of the program, with the equations that say so: written by a program (irtool.py). No condition. -/
import Derived.Test.YtoocnmfodhnpbaaK7
import Derived.Test.YtoocnmfodhnpbaaProg
namespace Go.Proofs.Ytoocnmfodhnpbaa
open Go.EG
abbrev fn_evergreenlaw33_TransferLetters : Nat := 9
abbrev fn_evergreenlaw33_awake : Nat := 10
abbrev fn_evergreenlaw33_begun : Nat := 12
abbrev ty_evergreenlaw33_In : Nat := 28
def ir_evergreenlaw33_awake : C :=
 (.seq
 (.reg
 [⟨(some 0),none,(.mv (.c (.bool false)))⟩])
 (.seq
 (.reg
 [⟨(some 12),none,(.call fn_intern_New [(.c (.int .i64 10))])⟩,⟨(some 1),none,(.mv (.t 12))⟩])
 (.seq
 (.seq
 (.reg
 [⟨(some 13),none,(.mv (.t 1))⟩,⟨(some 14),none,(.eqn .ptr false (.t 13))⟩])
 (.cond
 (.t 14)
 (.seq
 (.reg
 [⟨(some 0),none,(.mv (.c (.bool false)))⟩])
 .ret)
 .skip))
 (.seq
 (.reg
 [⟨(some 16),none,(.mv (.t 1))⟩,⟨(some 17),none,(.bld [(.int .i64 0),(.int .u8 0),(.int .i64 0),(.int .i64 0),(.int .i64 0)] [(0,(1,(.c (.int .i64 1)))),(1,(1,(.c (.int .u8 97))))])⟩,⟨(some 18),none,(.bld [(.int .i64 0),(.int .u8 0),(.int .i64 0),(.int .i64 0),(.int .i64 0)] [(0,(1,(.c (.int .i64 1)))),(1,(1,(.c (.int .u8 98))))])⟩,⟨(some 19),none,(.bld [(.int .i64 0),(.int .u8 0),(.int .i64 0),(.int .i64 0),(.int .i64 0)] [(0,(1,(.c (.int .i64 2)))),(2,(1,(.c (.int .i64 1)))),(3,(1,(.c (.int .i64 2))))])⟩,⟨(some 20),none,(.bld [(.int .i64 0),(.int .u8 0),(.int .i64 0),(.int .i64 0),(.int .i64 0)] [(0,(1,(.c (.int .i64 3)))),(2,(1,(.c (.int .i64 1)))),(4,(1,(.c (.int .i64 2))))])⟩,⟨(some 21),none,(.bld [(.int .i64 0),(.int .u8 0),(.int .i64 0),(.int .i64 0),(.int .i64 0)] [(0,(1,(.c (.int .i64 2)))),(2,(1,(.c (.int .i64 3)))),(3,(1,(.c (.int .i64 4))))])⟩,⟨(some 22),none,(.bsl 22 ty_api_Rule 5 5 [(.int .i64 0),(.int .u8 0),(.int .i64 0),(.int .i64 0),(.int .i64 0),(.int .i64 0),(.int .u8 0),(.int .i64 0),(.int .i64 0),(.int .i64 0),(.int .i64 0),(.int .u8 0),(.int .i64 0),(.int .i64 0),(.int .i64 0),(.int .i64 0),(.int .u8 0),(.int .i64 0),(.int .i64 0),(.int .i64 0),(.int .i64 0),(.int .u8 0),(.int .i64 0),(.int .i64 0),(.int .i64 0)] [(0,(5,(.t 17))),(5,(5,(.t 18))),(10,(5,(.t 19))),(15,(5,(.t 20))),(20,(5,(.t 21)))])⟩,⟨(some 23),none,(.call fn_P_intern_Store_Import [(.t 16),(.t 22)])⟩,⟨(some 15),none,(.mv (.t 23))⟩,⟨(some 24),none,(.ext (.t 15) 0)⟩,⟨(some 25),none,(.ext (.t 15) 1)⟩,⟨(some 2),none,(.mv (.t 24))⟩,⟨(some 3),none,(.mv (.t 25))⟩])
 (.seq
 (.reg
 [⟨(some 4),none,(.alc 4 ty_api_Letters [(.int .u64 0),(.int .u64 0),(.int .u64 0),(.int .u64 0)])⟩])
 (.seq
 (.reg
 [⟨(some 26),none,(.iaa 1 4 (.t 4) (.c (.int .i64 1)))⟩,⟨none,none,(.st 1 (.t 26) (.c (.int .u64 8589934592)))⟩])
 (.seq
 (.reg
 [⟨(some 28),none,(.mv (.t 1))⟩,⟨(some 29),none,(.lda 4 [(.int .u64),(.int .u64),(.int .u64),(.int .u64)] (.t 4))⟩,⟨(some 30),none,(.call fn_evergreenlaw33_Letters [(.t 29)])⟩,⟨(some 31),none,(.bsl 31 ty_int 1 2 [(.int .i64 0),(.int .i64 0)] [(0,(1,(.c (.int .i64 0)))),(1,(1,(.c (.int .i64 1))))])⟩,⟨(some 32),none,(.call fn_transfer_New [(.t 28),(.t 30),(.t 31),(.c (.bool false))])⟩,⟨(some 27),none,(.mv (.t 32))⟩,⟨(some 33),none,(.ext (.t 27) 0)⟩,⟨(some 34),none,(.ext (.t 27) 1)⟩,⟨(some 5),none,(.mv (.t 33))⟩,⟨(some 6),none,(.mv (.t 34))⟩])
 (.seq
 (.reg
 [⟨(some 36),none,(.mv (.t 5))⟩,⟨(some 37),none,(.mv (.t 2))⟩,⟨(some 38),none,(.call fn_P_transfer_Table_Hits [(.t 36),(.t 37),(.c (.int .i64 0))])⟩,⟨(some 35),none,(.mv (.t 38))⟩,⟨(some 39),none,(.ext (.t 35) 0)⟩,⟨(some 40),none,(.ext (.t 35) 1)⟩,⟨(some 7),none,(.mv (.t 39))⟩,⟨(some 8),none,(.mv (.t 40))⟩])
 (.seq
 (.reg
 [⟨(some 42),none,(.mv (.t 5))⟩,⟨(some 43),none,(.mv (.t 2))⟩,⟨(some 44),none,(.call fn_P_transfer_Table_Part [(.t 42),(.t 43),(.c (.int .i64 1)),(.c (.int .i64 2)),(.c (.int .i64 0))])⟩,⟨(some 41),none,(.mv (.t 44))⟩,⟨(some 45),none,(.ext (.t 41) 0)⟩,⟨(some 46),none,(.ext (.t 41) 1)⟩,⟨(some 47),none,(.ext (.t 41) 2)⟩,⟨(some 9),none,(.mv (.t 45))⟩,⟨(some 10),none,(.mv (.t 46))⟩,⟨(some 11),none,(.mv (.t 47))⟩])
 (.seq
 (.reg
 [⟨(some 48),none,(.mv (.t 3))⟩,⟨(some 49),none,(.eqn .ifc false (.t 48))⟩,⟨(some 50),none,(.mv (.t 49))⟩,⟨(some 51),(some (50,true)),(.mv (.t 6))⟩,⟨(some 52),(some (50,true)),(.eqn .ifc false (.t 51))⟩,⟨(some 53),none,(.pick (.t 50) (.t 52) (.c (.bool false)))⟩,⟨(some 54),none,(.mv (.t 53))⟩,⟨(some 55),(some (54,true)),(.mv (.t 8))⟩,⟨(some 56),(some (54,true)),(.eqn .ifc false (.t 55))⟩,⟨(some 57),none,(.pick (.t 54) (.t 56) (.c (.bool false)))⟩,⟨(some 58),none,(.mv (.t 57))⟩,⟨(some 59),(some (58,true)),(.mv (.t 11))⟩,⟨(some 60),(some (58,true)),(.eqn .ifc false (.t 59))⟩,⟨(some 61),none,(.pick (.t 58) (.t 60) (.c (.bool false)))⟩,⟨(some 62),none,(.mv (.t 61))⟩,⟨(some 63),(some (62,true)),(.mv (.t 7))⟩,⟨(some 64),(some (62,true)),(.cmp .eql .i64 (.t 63) (.c (.int .i64 3)))⟩,⟨(some 65),none,(.pick (.t 62) (.t 64) (.c (.bool false)))⟩,⟨(some 66),none,(.mv (.t 65))⟩,⟨(some 67),(some (66,true)),(.mv (.t 9))⟩,⟨(some 68),(some (66,true)),(.cmp .eql .i64 (.t 67) (.c (.int .i64 1)))⟩,⟨(some 69),none,(.pick (.t 66) (.t 68) (.c (.bool false)))⟩,⟨(some 70),none,(.mv (.t 69))⟩,⟨(some 71),(some (70,true)),(.mv (.t 10))⟩,⟨(some 72),(some (70,true)),(.cmp .eql .i64 (.t 71) (.c (.int .i64 1)))⟩,⟨(some 73),none,(.pick (.t 70) (.t 72) (.c (.bool false)))⟩,⟨(some 0),none,(.mv (.t 73))⟩])
 .ret))))))))))
def ts_evergreenlaw33_awake : List (Nat × Tr) := []
set_option maxRecDepth 100000 in
set_option maxHeartbeats 4000000 in
theorem ok_evergreenlaw33_awake : irOf Try.prog fn_evergreenlaw33_awake [] ts_evergreenlaw33_awake = some (74,[(.t 0)],ir_evergreenlaw33_awake) := by kernel_rfl
def ir_evergreenlaw33_begun : C :=
 (.seq
 (.reg
 [⟨(some 3),none,(.box 3 ty_evergreenlaw33_In (.t 0))⟩,⟨(some 6),none,(.mv (.c (.pointer none)))⟩,⟨(some 7),none,(.alc 7 ty_evergreenref12_Store [(.slice none 0 0),(.slice none 0 0)])⟩,⟨(some 8),none,(.mv (.c (.int .i64 0)))⟩,⟨(some 9),none,(.mv (.c (.bool false)))⟩])
 (.seq
 (.reg
 [⟨(some 17),none,(.call fn_intern_New [(.c (.int .i64 1000))])⟩,⟨(some 10),none,(.mv (.t 17))⟩])
 (.seq
 (.seq
 (.reg
 [⟨(some 18),none,(.mv (.t 10))⟩,⟨(some 19),none,(.eqn .ptr false (.t 18))⟩])
 (.cond
 (.t 19)
 (.seq
 (.reg
 [⟨(some 20),none,(.bld [(.slice none 0 0),(.slice none 0 0)] [])⟩,⟨(some 6),none,(.mv (.c (.pointer none)))⟩,⟨none,none,(.st 2 (.t 7) (.t 20))⟩,⟨(some 8),none,(.mv (.c (.int .i64 0)))⟩,⟨(some 9),none,(.mv (.c (.bool false)))⟩])
 .ret)
 .skip))
 (.seq
 (.reg
 [⟨(some 22),none,(.mv (.t 10))⟩,⟨(some 23),none,(.mv (.t 1))⟩,⟨(some 24),none,(.call fn_evergreenlaw12_Build [(.t 22),(.t 23)])⟩,⟨(some 21),none,(.mv (.t 24))⟩,⟨(some 25),none,(.ext (.t 21) 0)⟩,⟨(some 26),none,(.ext (.t 21) 1)⟩,⟨(some 11),none,(.mv (.t 25))⟩,⟨(some 12),none,(.mv (.t 26))⟩])
 (.seq
 (.reg
 [⟨(some 28),none,(.mv (.t 10))⟩,⟨(some 29),none,(.fa 0 (.t 3))⟩,⟨(some 30),none,(.lda 4 [(.int .i64),.slc,.slc,.slc] (.t 29))⟩,⟨(some 31),none,(.fa 4 (.t 3))⟩,⟨(some 32),none,(.ld .slc (.t 31))⟩,⟨(some 33),none,(.fa 5 (.t 3))⟩,⟨(some 34),none,(.ld .bool (.t 33))⟩,⟨(some 35),none,(.call fn_transfer_New [(.t 28),(.t 30),(.t 32),(.t 34)])⟩,⟨(some 27),none,(.mv (.t 35))⟩,⟨(some 36),none,(.ext (.t 27) 0)⟩,⟨(some 37),none,(.ext (.t 27) 1)⟩,⟨(some 13),none,(.mv (.t 36))⟩,⟨(some 14),none,(.mv (.t 37))⟩])
 (.seq
 (.seq
 (.reg
 [⟨(some 38),none,(.mv (.t 12))⟩,⟨(some 39),none,(.not (.t 38))⟩,⟨(some 40),none,(.mv (.t 39))⟩,⟨(some 41),(some (40,false)),(.mv (.t 14))⟩,⟨(some 42),(some (40,false)),(.eqn .ifc true (.t 41))⟩,⟨(some 43),none,(.pick (.t 40) (.c (.bool true)) (.t 42))⟩,⟨(some 44),none,(.mv (.t 43))⟩,⟨(some 45),(some (44,false)),(.mv (.t 13))⟩,⟨(some 46),(some (44,false)),(.eqn .ptr false (.t 45))⟩,⟨(some 47),none,(.pick (.t 44) (.c (.bool true)) (.t 46))⟩])
 (.cond
 (.t 47)
 (.seq
 (.reg
 [⟨(some 48),none,(.bld [(.slice none 0 0),(.slice none 0 0)] [])⟩,⟨(some 6),none,(.mv (.c (.pointer none)))⟩,⟨none,none,(.st 2 (.t 7) (.t 48))⟩,⟨(some 8),none,(.mv (.c (.int .i64 0)))⟩,⟨(some 9),none,(.mv (.c (.bool false)))⟩])
 .ret)
 .skip))
 (.seq
 (.reg
 [⟨(some 50),none,(.mv (.t 1))⟩,⟨(some 51),none,(.call fn_evergreenref12_Build [(.t 50)])⟩,⟨(some 49),none,(.mv (.t 51))⟩,⟨(some 52),none,(.ext (.t 49) 0)⟩,⟨(some 53),none,(.ext (.t 49) 1)⟩,⟨(some 15),none,(.alc 15 ty_evergreenref12_Store [(.slice none 0 0),(.slice none 0 0)])⟩,⟨none,none,(.st 2 (.t 15) (.t 52))⟩,⟨(some 16),none,(.mv (.t 53))⟩])
 (.seq
 (.drb
 [⟨(some 54),none,(.mv (.t 13))⟩,⟨(some 55),none,(.lda 2 [.slc,.slc] (.t 15))⟩,⟨(some 56),none,(.mv (.t 11))⟩,⟨(some 57),none,(.mv (.t 2))⟩,⟨(some 58),none,(.mv (.t 11))⟩,⟨(some 59),none,(.lens (.t 58))⟩,⟨(some 60),none,(.call fn_evergreenref12_Pick [(.t 57),(.t 59)])⟩,⟨(some 61),none,(.ia 1 (.t 56) (.t 60))⟩,⟨(some 62),none,(.ld (.int .i64) (.t 61))⟩,⟨(some 6),none,(.mv (.t 54))⟩,⟨none,none,(.st 2 (.t 7) (.t 55))⟩,⟨(some 8),none,(.mv (.t 62))⟩,⟨(some 9),none,(.mv (.c (.bool true)))⟩]
 (.mov 0 (.take 1 (.mov 2 (.mov 3 (.mov 4 (.take 5 (.take 6 (.take 7 (.take 8 (.mov 9 (.alt 10 true (.mov 11 (.mov 12 .done)) .nil))))))))))))
 .ret))))))))
def ts_evergreenlaw33_begun : List (Nat × Tr) := [(9,(.mov 0 (.take 1 (.mov 2 (.mov 3 (.mov 4 (.take 5 (.take 6 (.take 7 (.take 8 (.mov 9 (.alt 10 true (.mov 11 (.mov 12 .done)) .nil))))))))))))]
set_option maxRecDepth 100000 in
set_option maxHeartbeats 4000000 in
theorem ok_evergreenlaw33_begun : irOf Try.prog fn_evergreenlaw33_begun [2000009] ts_evergreenlaw33_begun = some (63,[(.t 6),(.c 7 2),(.t 8),(.t 9)],ir_evergreenlaw33_begun) := by kernel_rfl
def ir_evergreenlaw33_TransferLetters : C :=
 (.seq
 (.reg
 [⟨(some 7),none,(.box 7 ty_api_Letters (.t 0))⟩,⟨(some 14),none,(.mv (.c (.bool false)))⟩])
 (.seq
 (.seq
 (.reg
 [⟨(some 30),none,(.call fn_evergreenlaw33_awake [])⟩,⟨(some 31),none,(.not (.t 30))⟩,⟨(some 32),none,(.mv (.t 31))⟩,⟨(some 33),(some (32,false)),(.mv (.t 3))⟩,⟨(some 34),(some (32,false)),(.lens (.t 33))⟩,⟨(some 35),(some (32,false)),(.cmp .gtr .i64 (.t 34) (.c (.int .i64 30)))⟩,⟨(some 36),none,(.pick (.t 32) (.c (.bool true)) (.t 35))⟩])
 (.cond
 (.t 36)
 (.seq
 (.reg
 [⟨(some 37),none,(.call fn_evergreenlaw33_awake [])⟩,⟨(some 14),none,(.mv (.t 37))⟩])
 .ret)
 .skip))
 (.seq
 (.reg
 [⟨(some 38),none,(.mv (.t 1))⟩,⟨(some 39),none,(.cv .i64 (.t 38))⟩,⟨(some 40),none,(.dv true .i64 (.t 39) (.c (.int .i64 4)))⟩,⟨(some 15),none,(.mv (.t 40))⟩])
 (.seq
 (.reg
 [⟨(some 42),none,(.lda 4 [(.int .u64),(.int .u64),(.int .u64),(.int .u64)] (.t 7))⟩,⟨(some 43),none,(.call fn_evergreenlaw33_Letters [(.t 42)])⟩,⟨(some 44),none,(.mv (.t 15))⟩,⟨(some 45),none,(.bsl 45 ty_int 1 2 [(.int .i64 0),(.int .i64 0)] [(0,(1,(.c (.int .i64 0)))),(1,(1,(.t 44)))])⟩,⟨(some 46),none,(.mv (.t 2))⟩,⟨(some 47),none,(.bld [(.int .i64 0),(.slice none 0 0),(.slice none 0 0),(.slice none 0 0),(.slice none 0 0),(.bool false)] [(0,(4,(.t 43))),(4,(1,(.t 45))),(5,(1,(.t 46)))])⟩,⟨(some 48),none,(.mv (.t 3))⟩,⟨(some 49),none,(.mv (.t 4))⟩,⟨(some 50),none,(.call fn_evergreenlaw33_begun [(.t 47),(.t 48),(.t 49)])⟩,⟨(some 41),none,(.mv (.t 50))⟩,⟨(some 51),none,(.ext (.t 41) 0)⟩,⟨(some 52),none,(.ext (.t 41) 1)⟩,⟨(some 53),none,(.ext (.t 41) 2)⟩,⟨(some 54),none,(.ext (.t 41) 3)⟩,⟨(some 17),none,(.alc 17 ty_evergreenref12_Store [(.slice none 0 0),(.slice none 0 0)])⟩,⟨(some 16),none,(.mv (.t 51))⟩,⟨none,none,(.st 2 (.t 17) (.t 52))⟩,⟨(some 18),none,(.mv (.t 53))⟩,⟨(some 19),none,(.mv (.t 54))⟩])
 (.seq
 (.seq
 (.reg
 [⟨(some 55),none,(.mv (.t 19))⟩,⟨(some 56),none,(.not (.t 55))⟩])
 (.cond
 (.t 56)
 (.seq
 (.reg
 [⟨(some 14),none,(.mv (.c (.bool false)))⟩])
 .ret)
 .skip))
 (.seq
 (.reg
 [⟨(some 57),none,(.lda 2 [.slc,.slc] (.t 17))⟩,⟨(some 58),none,(.mv (.t 18))⟩,⟨(some 59),none,(.call fn_evergreenref12_Length [(.t 57),(.t 58)])⟩,⟨(some 20),none,(.mv (.t 59))⟩])
 (.seq
 (.reg
 [⟨(some 60),none,(.mv (.t 5))⟩,⟨(some 61),none,(.cv .u64 (.t 60))⟩,⟨(some 62),none,(.mv (.t 20))⟩,⟨(some 63),none,(.ar .add .i64 (.t 62) (.c (.int .i64 1)))⟩,⟨(some 64),none,(.cv .u64 (.t 63))⟩,⟨(some 65),none,(.dv true .u64 (.t 61) (.t 64))⟩,⟨(some 66),none,(.cv .i64 (.t 65))⟩,⟨(some 5),none,(.mv (.t 66))⟩])
 (.seq
 (.reg
 [⟨(some 67),none,(.mv (.t 6))⟩,⟨(some 68),none,(.cv .u64 (.t 67))⟩,⟨(some 69),none,(.mv (.t 20))⟩,⟨(some 70),none,(.mv (.t 5))⟩,⟨(some 71),none,(.ar .sub .i64 (.t 69) (.t 70))⟩,⟨(some 72),none,(.ar .add .i64 (.t 71) (.c (.int .i64 1)))⟩,⟨(some 73),none,(.cv .u64 (.t 72))⟩,⟨(some 74),none,(.dv true .u64 (.t 68) (.t 73))⟩,⟨(some 75),none,(.cv .i64 (.t 74))⟩,⟨(some 6),none,(.mv (.t 75))⟩])
 (.seq
 (.drw
 [⟨(some 77),none,(.mv (.t 16))⟩,⟨(some 78),none,(.call fn_P_transfer_Table_Store [(.t 77)])⟩,⟨(some 79),none,(.mv (.t 18))⟩,⟨(some 80),none,(.lda 4 [(.int .u64),(.int .u64),(.int .u64),(.int .u64)] (.t 7))⟩,⟨(some 81),none,(.mv (.t 5))⟩,⟨(some 82),none,(.mv (.t 6))⟩,⟨(some 83),none,(.call fn_access_Count [(.t 78),(.t 79),(.t 80),(.t 81),(.t 82)])⟩,⟨(some 76),none,(.mv (.t 83))⟩,⟨(some 84),none,(.ext (.t 76) 0)⟩,⟨(some 85),none,(.ext (.t 76) 1)⟩,⟨(some 21),none,(.mv (.t 84))⟩,⟨(some 22),none,(.mv (.t 85))⟩]
 (.mov 0 (.mov 2 (.take 3 (.mov 4 (.mov 5 (.alt 1 true (.bar 6 (.mov 7 (.mov 8 (.mov 9 (.mov 10 (.mov 11 .done)))))) .nil)))))))
 (.seq
 (.reg
 [⟨(some 87),none,(.mv (.t 16))⟩,⟨(some 88),none,(.mv (.t 18))⟩,⟨(some 89),none,(.mv (.t 5))⟩,⟨(some 90),none,(.mv (.t 6))⟩,⟨(some 91),none,(.call fn_P_transfer_Table_Part [(.t 87),(.t 88),(.t 89),(.t 90),(.c (.int .i64 0))])⟩,⟨(some 86),none,(.mv (.t 91))⟩,⟨(some 92),none,(.ext (.t 86) 0)⟩,⟨(some 93),none,(.ext (.t 86) 1)⟩,⟨(some 94),none,(.ext (.t 86) 2)⟩,⟨(some 23),none,(.mv (.t 92))⟩,⟨(some 24),none,(.mv (.t 93))⟩,⟨(some 25),none,(.mv (.t 94))⟩])
 (.seq
 (.seq
 (.reg
 [⟨(some 95),none,(.mv (.t 22))⟩,⟨(some 96),none,(.eqn .ifc true (.t 95))⟩])
 (.cond
 (.t 96)
 (.seq
 (.reg
 [⟨(some 14),none,(.mv (.c (.bool false)))⟩])
 .ret)
 .skip))
 (.seq
 (.seq
 (.reg
 [⟨(some 97),none,(.mv (.t 15))⟩,⟨(some 98),none,(.cmp .gtr .i64 (.t 97) (.c (.int .i64 0)))⟩,⟨(some 99),none,(.mv (.t 98))⟩,⟨(some 100),(some (99,true)),(.mv (.t 21))⟩,⟨(some 101),(some (99,true)),(.mv (.t 15))⟩,⟨(some 102),(some (99,true)),(.dv false .i64 (.c (.int .i64 1152921504606846976)) (.t 101))⟩,⟨(some 103),(some (99,true)),(.cmp .gtr .i64 (.t 100) (.t 102))⟩,⟨(some 104),none,(.pick (.t 99) (.t 103) (.c (.bool false)))⟩])
 (.cond
 (.t 104)
 (.seq
 (.reg
 [⟨(some 105),none,(.mv (.t 25))⟩,⟨(some 106),none,(.call fn_evergreenbase_Is [(.t 105),(.c (.int .i64 2))])⟩,⟨(some 107),none,(.mv (.t 106))⟩,⟨(some 108),(some (107,true)),(.mv (.t 24))⟩,⟨(some 109),(some (107,true)),(.cmp .eql .i64 (.t 108) (.c (.int .i64 0)))⟩,⟨(some 110),none,(.pick (.t 107) (.t 109) (.c (.bool false)))⟩,⟨(some 111),none,(.mv (.t 110))⟩,⟨(some 112),(some (111,true)),(.mv (.t 23))⟩,⟨(some 113),(some (111,true)),(.cmp .eql .i64 (.t 112) (.c (.int .i64 0)))⟩,⟨(some 114),none,(.pick (.t 111) (.t 113) (.c (.bool false)))⟩,⟨(some 14),none,(.mv (.t 114))⟩])
 .ret)
 .skip))
 (.seq
 (.reg
 [⟨(some 115),none,(.mv (.t 5))⟩,⟨(some 116),none,(.mv (.t 6))⟩,⟨(some 117),none,(.ar .add .i64 (.t 115) (.t 116))⟩,⟨(some 118),none,(.ar .sub .i64 (.t 117) (.c (.int .i64 1)))⟩,⟨(some 26),none,(.mv (.t 118))⟩])
 (.seq
 (.seq
 (.reg
 [⟨(some 119),none,(.mv (.t 2))⟩])
 (.cond
 (.t 119)
 (.reg
 [⟨(some 120),none,(.mv (.t 5))⟩,⟨(some 26),none,(.mv (.t 120))⟩])
 .skip))
 (.seq
 (.reg
 [⟨(some 27),none,(.mv (.c (.int .i64 0)))⟩])
 (.seq
 (.seq
 (.reg
 [⟨(some 121),none,(.mv (.t 6))⟩,⟨(some 122),none,(.cmp .gtr .i64 (.t 121) (.c (.int .i64 0)))⟩])
 (.cond
 (.t 122)
 (.seq
 (.reg
 [⟨(some 124),none,(.mv (.t 16))⟩,⟨(some 125),none,(.call fn_P_transfer_Table_Store [(.t 124)])⟩,⟨(some 126),none,(.mv (.t 18))⟩,⟨(some 127),none,(.mv (.t 26))⟩,⟨(some 128),none,(.call fn_access_At [(.t 125),(.t 126),(.t 127)])⟩,⟨(some 123),none,(.mv (.t 128))⟩,⟨(some 129),none,(.ext (.t 123) 0)⟩,⟨(some 130),none,(.ext (.t 123) 1)⟩,⟨(some 28),none,(.mv (.t 129))⟩,⟨(some 29),none,(.mv (.t 130))⟩])
 (.seq
 (.seq
 (.reg
 [⟨(some 131),none,(.mv (.t 29))⟩,⟨(some 132),none,(.eqn .ifc true (.t 131))⟩])
 (.cond
 (.t 132)
 (.seq
 (.reg
 [⟨(some 14),none,(.mv (.c (.bool false)))⟩])
 .ret)
 .skip))
 (.seq
 (.reg
 [⟨(some 133),none,(.lda 4 [(.int .u64),(.int .u64),(.int .u64),(.int .u64)] (.t 7))⟩,⟨(some 134),none,(.mv (.t 28))⟩,⟨(some 135),none,(.call fn_evergreenref16_Has [(.t 133),(.t 134)])⟩])
 (.cond
 (.t 135)
 (.reg
 [⟨(some 27),none,(.mv (.c (.int .i64 1)))⟩])
 .skip))))
 .skip))
 (.seq
 (.reg
 [⟨(some 136),none,(.mv (.t 25))⟩,⟨(some 137),none,(.eqn .ifc false (.t 136))⟩,⟨(some 138),none,(.mv (.t 137))⟩,⟨(some 139),(some (138,true)),(.mv (.t 24))⟩,⟨(some 140),(some (138,true)),(.mv (.t 15))⟩,⟨(some 141),(some (138,true)),(.mv (.t 21))⟩,⟨(some 142),(some (138,true)),(.ar .mul .i64 (.t 140) (.t 141))⟩,⟨(some 143),(some (138,true)),(.cmp .eql .i64 (.t 139) (.t 142))⟩,⟨(some 144),none,(.pick (.t 138) (.t 143) (.c (.bool false)))⟩,⟨(some 145),none,(.mv (.t 144))⟩,⟨(some 146),(some (145,true)),(.mv (.t 23))⟩,⟨(some 147),(some (145,true)),(.mv (.t 27))⟩,⟨(some 148),(some (145,true)),(.cmp .eql .i64 (.t 146) (.t 147))⟩,⟨(some 149),none,(.pick (.t 145) (.t 148) (.c (.bool false)))⟩,⟨(some 14),none,(.mv (.t 149))⟩])
 .ret)))))))))))))))))
def ts_evergreenlaw33_TransferLetters : List (Nat × Tr) := [(10,(.mov 0 (.mov 2 (.take 3 (.mov 4 (.mov 5 (.alt 1 true (.bar 6 (.mov 7 (.mov 8 (.mov 9 (.mov 10 (.mov 11 .done)))))) .nil)))))))]
set_option maxRecDepth 100000 in
set_option maxHeartbeats 4000000 in
theorem ok_evergreenlaw33_TransferLetters : irOf Try.prog fn_evergreenlaw33_TransferLetters [] ts_evergreenlaw33_TransferLetters = some (150,[(.t 14)],ir_evergreenlaw33_TransferLetters) := by kernel_rfl
end Go.Proofs.Ytoocnmfodhnpbaa
