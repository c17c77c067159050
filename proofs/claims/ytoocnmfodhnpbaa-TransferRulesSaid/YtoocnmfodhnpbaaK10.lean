/- The small forms of functions of the program, with the equations that say so: written by a program (irtool.py). No condition. -/
import Derived.Test.YtoocnmfodhnpbaaK7
import Derived.Test.YtoocnmfodhnpbaaProg
namespace Go.Proofs.Ytoocnmfodhnpbaa
open Go.EG
abbrev fn_evergreenlaw33_TransferRules : Nat := 6
abbrev fn_evergreenlaw33_awake : Nat := 10
abbrev fn_evergreenlaw33_small : Nat := 11
abbrev fn_evergreenlaw33_begun : Nat := 12
abbrev ty_evergreenlaw33_In : Nat := 28
def ir_evergreenlaw33_awake : C :=
 (.seq
 (.reg
 [⟨(some 0),none,(.mv (.c (.bool false)))⟩])
 (.seq
 (.reg
 [⟨(some 12),none,(.call fn_intern_New [(.c (.int .i64 10))])⟩,⟨(some 1),none,(.mv (.t 12))⟩])
 (.seq
 (.seq
 (.reg
 [⟨(some 13),none,(.mv (.t 1))⟩,⟨(some 14),none,(.eqn .ptr false (.t 13))⟩])
 (.cond
 (.t 14)
 (.seq
 (.reg
 [⟨(some 0),none,(.mv (.c (.bool false)))⟩])
 .ret)
 .skip))
 (.seq
 (.reg
 [⟨(some 16),none,(.mv (.t 1))⟩,⟨(some 17),none,(.bld [(.int .i64 0),(.int .u8 0),(.int .i64 0),(.int .i64 0),(.int .i64 0)] [(0,(1,(.c (.int .i64 1)))),(1,(1,(.c (.int .u8 97))))])⟩,⟨(some 18),none,(.bld [(.int .i64 0),(.int .u8 0),(.int .i64 0),(.int .i64 0),(.int .i64 0)] [(0,(1,(.c (.int .i64 1)))),(1,(1,(.c (.int .u8 98))))])⟩,⟨(some 19),none,(.bld [(.int .i64 0),(.int .u8 0),(.int .i64 0),(.int .i64 0),(.int .i64 0)] [(0,(1,(.c (.int .i64 2)))),(2,(1,(.c (.int .i64 1)))),(3,(1,(.c (.int .i64 2))))])⟩,⟨(some 20),none,(.bld [(.int .i64 0),(.int .u8 0),(.int .i64 0),(.int .i64 0),(.int .i64 0)] [(0,(1,(.c (.int .i64 3)))),(2,(1,(.c (.int .i64 1)))),(4,(1,(.c (.int .i64 2))))])⟩,⟨(some 21),none,(.bld [(.int .i64 0),(.int .u8 0),(.int .i64 0),(.int .i64 0),(.int .i64 0)] [(0,(1,(.c (.int .i64 2)))),(2,(1,(.c (.int .i64 3)))),(3,(1,(.c (.int .i64 4))))])⟩,⟨(some 22),none,(.bsl 22 ty_api_Rule 5 5 [(.int .i64 0),(.int .u8 0),(.int .i64 0),(.int .i64 0),(.int .i64 0),(.int .i64 0),(.int .u8 0),(.int .i64 0),(.int .i64 0),(.int .i64 0),(.int .i64 0),(.int .u8 0),(.int .i64 0),(.int .i64 0),(.int .i64 0),(.int .i64 0),(.int .u8 0),(.int .i64 0),(.int .i64 0),(.int .i64 0),(.int .i64 0),(.int .u8 0),(.int .i64 0),(.int .i64 0),(.int .i64 0)] [(0,(5,(.t 17))),(5,(5,(.t 18))),(10,(5,(.t 19))),(15,(5,(.t 20))),(20,(5,(.t 21)))])⟩,⟨(some 23),none,(.call fn_P_intern_Store_Import [(.t 16),(.t 22)])⟩,⟨(some 15),none,(.mv (.t 23))⟩,⟨(some 24),none,(.ext (.t 15) 0)⟩,⟨(some 25),none,(.ext (.t 15) 1)⟩,⟨(some 2),none,(.mv (.t 24))⟩,⟨(some 3),none,(.mv (.t 25))⟩])
 (.seq
 (.reg
 [⟨(some 4),none,(.alc 4 ty_api_Letters [(.int .u64 0),(.int .u64 0),(.int .u64 0),(.int .u64 0)])⟩])
 (.seq
 (.reg
 [⟨(some 26),none,(.iaa 1 4 (.t 4) (.c (.int .i64 1)))⟩,⟨none,none,(.st 1 (.t 26) (.c (.int .u64 8589934592)))⟩])
 (.seq
 (.reg
 [⟨(some 28),none,(.mv (.t 1))⟩,⟨(some 29),none,(.lda 4 [(.int .u64),(.int .u64),(.int .u64),(.int .u64)] (.t 4))⟩,⟨(some 30),none,(.call fn_evergreenlaw33_Letters [(.t 29)])⟩,⟨(some 31),none,(.bsl 31 ty_int 1 2 [(.int .i64 0),(.int .i64 0)] [(0,(1,(.c (.int .i64 0)))),(1,(1,(.c (.int .i64 1))))])⟩,⟨(some 32),none,(.call fn_transfer_New [(.t 28),(.t 30),(.t 31),(.c (.bool false))])⟩,⟨(some 27),none,(.mv (.t 32))⟩,⟨(some 33),none,(.ext (.t 27) 0)⟩,⟨(some 34),none,(.ext (.t 27) 1)⟩,⟨(some 5),none,(.mv (.t 33))⟩,⟨(some 6),none,(.mv (.t 34))⟩])
 (.seq
 (.reg
 [⟨(some 36),none,(.mv (.t 5))⟩,⟨(some 37),none,(.mv (.t 2))⟩,⟨(some 38),none,(.call fn_P_transfer_Table_Hits [(.t 36),(.t 37),(.c (.int .i64 0))])⟩,⟨(some 35),none,(.mv (.t 38))⟩,⟨(some 39),none,(.ext (.t 35) 0)⟩,⟨(some 40),none,(.ext (.t 35) 1)⟩,⟨(some 7),none,(.mv (.t 39))⟩,⟨(some 8),none,(.mv (.t 40))⟩])
 (.seq
 (.reg
 [⟨(some 42),none,(.mv (.t 5))⟩,⟨(some 43),none,(.mv (.t 2))⟩,⟨(some 44),none,(.call fn_P_transfer_Table_Part [(.t 42),(.t 43),(.c (.int .i64 1)),(.c (.int .i64 2)),(.c (.int .i64 0))])⟩,⟨(some 41),none,(.mv (.t 44))⟩,⟨(some 45),none,(.ext (.t 41) 0)⟩,⟨(some 46),none,(.ext (.t 41) 1)⟩,⟨(some 47),none,(.ext (.t 41) 2)⟩,⟨(some 9),none,(.mv (.t 45))⟩,⟨(some 10),none,(.mv (.t 46))⟩,⟨(some 11),none,(.mv (.t 47))⟩])
 (.seq
 (.reg
 [⟨(some 48),none,(.mv (.t 3))⟩,⟨(some 49),none,(.eqn .ifc false (.t 48))⟩,⟨(some 50),none,(.mv (.t 49))⟩,⟨(some 51),(some (50,true)),(.mv (.t 6))⟩,⟨(some 52),(some (50,true)),(.eqn .ifc false (.t 51))⟩,⟨(some 53),none,(.pick (.t 50) (.t 52) (.c (.bool false)))⟩,⟨(some 54),none,(.mv (.t 53))⟩,⟨(some 55),(some (54,true)),(.mv (.t 8))⟩,⟨(some 56),(some (54,true)),(.eqn .ifc false (.t 55))⟩,⟨(some 57),none,(.pick (.t 54) (.t 56) (.c (.bool false)))⟩,⟨(some 58),none,(.mv (.t 57))⟩,⟨(some 59),(some (58,true)),(.mv (.t 11))⟩,⟨(some 60),(some (58,true)),(.eqn .ifc false (.t 59))⟩,⟨(some 61),none,(.pick (.t 58) (.t 60) (.c (.bool false)))⟩,⟨(some 62),none,(.mv (.t 61))⟩,⟨(some 63),(some (62,true)),(.mv (.t 7))⟩,⟨(some 64),(some (62,true)),(.cmp .eql .i64 (.t 63) (.c (.int .i64 3)))⟩,⟨(some 65),none,(.pick (.t 62) (.t 64) (.c (.bool false)))⟩,⟨(some 66),none,(.mv (.t 65))⟩,⟨(some 67),(some (66,true)),(.mv (.t 9))⟩,⟨(some 68),(some (66,true)),(.cmp .eql .i64 (.t 67) (.c (.int .i64 1)))⟩,⟨(some 69),none,(.pick (.t 66) (.t 68) (.c (.bool false)))⟩,⟨(some 70),none,(.mv (.t 69))⟩,⟨(some 71),(some (70,true)),(.mv (.t 10))⟩,⟨(some 72),(some (70,true)),(.cmp .eql .i64 (.t 71) (.c (.int .i64 1)))⟩,⟨(some 73),none,(.pick (.t 70) (.t 72) (.c (.bool false)))⟩,⟨(some 0),none,(.mv (.t 73))⟩])
 .ret))))))))))
def ts_evergreenlaw33_awake : List (Nat × Tr) := []
set_option maxRecDepth 100000 in
set_option maxHeartbeats 4000000 in
theorem ok_evergreenlaw33_awake : irOf Try.prog fn_evergreenlaw33_awake [] ts_evergreenlaw33_awake = some (74,[(.t 0)],ir_evergreenlaw33_awake) := by kernel_rfl
def ir_evergreenlaw33_small : C :=
 (.seq
 (.reg
 [⟨(some 1),none,(.box 1 ty_evergreenlaw33_In (.t 0))⟩,⟨(some 2),none,(.mv (.c (.bool false)))⟩])
 (.seq
 (.seq
 (.reg
 [⟨(some 5),none,(.fa 0 (.t 1))⟩,⟨(some 6),none,(.fa 2 (.t 5))⟩,⟨(some 7),none,(.ld .slc (.t 6))⟩,⟨(some 8),none,(.lens (.t 7))⟩,⟨(some 9),none,(.cmp .gtr .i64 (.t 8) (.c (.int .i64 40)))⟩,⟨(some 10),none,(.mv (.t 9))⟩,⟨(some 11),(some (10,false)),(.fa 0 (.t 1))⟩,⟨(some 12),(some (10,false)),(.lda 4 [(.int .i64),.slc,.slc,.slc] (.t 11))⟩,⟨(some 13),(some (10,false)),(.call fn_machine_Check [(.t 12)])⟩,⟨(some 14),(some (10,false)),(.eqn .ifc true (.t 13))⟩,⟨(some 15),none,(.pick (.t 10) (.c (.bool true)) (.t 14))⟩,⟨(some 16),none,(.mv (.t 15))⟩,⟨(some 17),(some (16,false)),(.fa 4 (.t 1))⟩,⟨(some 18),(some (16,false)),(.ld .slc (.t 17))⟩,⟨(some 19),(some (16,false)),(.lens (.t 18))⟩,⟨(some 20),(some (16,false)),(.fa 0 (.t 1))⟩,⟨(some 21),(some (16,false)),(.fa 2 (.t 20))⟩,⟨(some 22),(some (16,false)),(.ld .slc (.t 21))⟩,⟨(some 23),(some (16,false)),(.lens (.t 22))⟩,⟨(some 24),(some (16,false)),(.cmp .neq .i64 (.t 19) (.t 23))⟩,⟨(some 25),none,(.pick (.t 16) (.c (.bool true)) (.t 24))⟩])
 (.cond
 (.t 25)
 (.seq
 (.reg
 [⟨(some 2),none,(.mv (.c (.bool false)))⟩])
 .ret)
 .skip))
 (.seq
 (.seq
 (.reg
 [⟨(some 26),none,(.fa 4 (.t 1))⟩,⟨(some 27),none,(.ld .slc (.t 26))⟩,⟨(some 28),none,(.lens (.t 27))⟩,⟨(some 29),none,(.mv (.c (.int .i64 0)))⟩])
 (.blk
 0
 (.loop
 (.seq
 (.reg
 [⟨(some 30),none,(.cmp .lss .i64 (.t 29) (.t 28))⟩])
 (.seq
 (.cond
 (.t 30)
 .skip
 (.exit 0))
 (.seq
 (.blk
 1
 (.seq
 (.reg
 [⟨(some 31),none,(.ia 1 (.t 27) (.t 29))⟩,⟨(some 32),none,(.ld (.int .i64) (.t 31))⟩,⟨(some 4),none,(.mv (.t 32))⟩])
 (.seq
 (.reg
 [⟨(some 33),none,(.mv (.t 4))⟩,⟨(some 34),none,(.cmp .lss .i64 (.t 33) (.c (.int .i64 0)))⟩,⟨(some 35),none,(.mv (.t 34))⟩,⟨(some 36),(some (35,false)),(.mv (.t 4))⟩,⟨(some 37),(some (35,false)),(.cmp .gtr .i64 (.t 36) (.c (.int .i64 1048576)))⟩,⟨(some 38),none,(.pick (.t 35) (.c (.bool true)) (.t 37))⟩])
 (.cond
 (.t 38)
 (.seq
 (.reg
 [⟨(some 2),none,(.mv (.c (.bool false)))⟩])
 .ret)
 .skip))))
 (.reg
 [⟨(some 39),none,(.ar .add .i64 (.t 29) (.c (.int .i64 1)))⟩,⟨(some 29),none,(.mv (.t 39))⟩])))))))
 (.seq
 (.reg
 [⟨(some 2),none,(.mv (.c (.bool true)))⟩])
 .ret))))
def ts_evergreenlaw33_small : List (Nat × Tr) := []
set_option maxRecDepth 100000 in
set_option maxHeartbeats 4000000 in
theorem ok_evergreenlaw33_small : irOf Try.prog fn_evergreenlaw33_small [] ts_evergreenlaw33_small = some (40,[(.t 2)],ir_evergreenlaw33_small) := by kernel_rfl
def ir_evergreenlaw33_begun : C :=
 (.seq
 (.reg
 [⟨(some 3),none,(.box 3 ty_evergreenlaw33_In (.t 0))⟩,⟨(some 6),none,(.mv (.c (.pointer none)))⟩,⟨(some 7),none,(.alc 7 ty_evergreenref12_Store [(.slice none 0 0),(.slice none 0 0)])⟩,⟨(some 8),none,(.mv (.c (.int .i64 0)))⟩,⟨(some 9),none,(.mv (.c (.bool false)))⟩])
 (.seq
 (.reg
 [⟨(some 17),none,(.call fn_intern_New [(.c (.int .i64 1000))])⟩,⟨(some 10),none,(.mv (.t 17))⟩])
 (.seq
 (.seq
 (.reg
 [⟨(some 18),none,(.mv (.t 10))⟩,⟨(some 19),none,(.eqn .ptr false (.t 18))⟩])
 (.cond
 (.t 19)
 (.seq
 (.reg
 [⟨(some 20),none,(.bld [(.slice none 0 0),(.slice none 0 0)] [])⟩,⟨(some 6),none,(.mv (.c (.pointer none)))⟩,⟨none,none,(.st 2 (.t 7) (.t 20))⟩,⟨(some 8),none,(.mv (.c (.int .i64 0)))⟩,⟨(some 9),none,(.mv (.c (.bool false)))⟩])
 .ret)
 .skip))
 (.seq
 (.reg
 [⟨(some 22),none,(.mv (.t 10))⟩,⟨(some 23),none,(.mv (.t 1))⟩,⟨(some 24),none,(.call fn_evergreenlaw12_Build [(.t 22),(.t 23)])⟩,⟨(some 21),none,(.mv (.t 24))⟩,⟨(some 25),none,(.ext (.t 21) 0)⟩,⟨(some 26),none,(.ext (.t 21) 1)⟩,⟨(some 11),none,(.mv (.t 25))⟩,⟨(some 12),none,(.mv (.t 26))⟩])
 (.seq
 (.reg
 [⟨(some 28),none,(.mv (.t 10))⟩,⟨(some 29),none,(.fa 0 (.t 3))⟩,⟨(some 30),none,(.lda 4 [(.int .i64),.slc,.slc,.slc] (.t 29))⟩,⟨(some 31),none,(.fa 4 (.t 3))⟩,⟨(some 32),none,(.ld .slc (.t 31))⟩,⟨(some 33),none,(.fa 5 (.t 3))⟩,⟨(some 34),none,(.ld .bool (.t 33))⟩,⟨(some 35),none,(.call fn_transfer_New [(.t 28),(.t 30),(.t 32),(.t 34)])⟩,⟨(some 27),none,(.mv (.t 35))⟩,⟨(some 36),none,(.ext (.t 27) 0)⟩,⟨(some 37),none,(.ext (.t 27) 1)⟩,⟨(some 13),none,(.mv (.t 36))⟩,⟨(some 14),none,(.mv (.t 37))⟩])
 (.seq
 (.seq
 (.reg
 [⟨(some 38),none,(.mv (.t 12))⟩,⟨(some 39),none,(.not (.t 38))⟩,⟨(some 40),none,(.mv (.t 39))⟩,⟨(some 41),(some (40,false)),(.mv (.t 14))⟩,⟨(some 42),(some (40,false)),(.eqn .ifc true (.t 41))⟩,⟨(some 43),none,(.pick (.t 40) (.c (.bool true)) (.t 42))⟩,⟨(some 44),none,(.mv (.t 43))⟩,⟨(some 45),(some (44,false)),(.mv (.t 13))⟩,⟨(some 46),(some (44,false)),(.eqn .ptr false (.t 45))⟩,⟨(some 47),none,(.pick (.t 44) (.c (.bool true)) (.t 46))⟩])
 (.cond
 (.t 47)
 (.seq
 (.reg
 [⟨(some 48),none,(.bld [(.slice none 0 0),(.slice none 0 0)] [])⟩,⟨(some 6),none,(.mv (.c (.pointer none)))⟩,⟨none,none,(.st 2 (.t 7) (.t 48))⟩,⟨(some 8),none,(.mv (.c (.int .i64 0)))⟩,⟨(some 9),none,(.mv (.c (.bool false)))⟩])
 .ret)
 .skip))
 (.seq
 (.reg
 [⟨(some 50),none,(.mv (.t 1))⟩,⟨(some 51),none,(.call fn_evergreenref12_Build [(.t 50)])⟩,⟨(some 49),none,(.mv (.t 51))⟩,⟨(some 52),none,(.ext (.t 49) 0)⟩,⟨(some 53),none,(.ext (.t 49) 1)⟩,⟨(some 15),none,(.alc 15 ty_evergreenref12_Store [(.slice none 0 0),(.slice none 0 0)])⟩,⟨none,none,(.st 2 (.t 15) (.t 52))⟩,⟨(some 16),none,(.mv (.t 53))⟩])
 (.seq
 (.drb
 [⟨(some 54),none,(.mv (.t 13))⟩,⟨(some 55),none,(.lda 2 [.slc,.slc] (.t 15))⟩,⟨(some 56),none,(.mv (.t 11))⟩,⟨(some 57),none,(.mv (.t 2))⟩,⟨(some 58),none,(.mv (.t 11))⟩,⟨(some 59),none,(.lens (.t 58))⟩,⟨(some 60),none,(.call fn_evergreenref12_Pick [(.t 57),(.t 59)])⟩,⟨(some 61),none,(.ia 1 (.t 56) (.t 60))⟩,⟨(some 62),none,(.ld (.int .i64) (.t 61))⟩,⟨(some 6),none,(.mv (.t 54))⟩,⟨none,none,(.st 2 (.t 7) (.t 55))⟩,⟨(some 8),none,(.mv (.t 62))⟩,⟨(some 9),none,(.mv (.c (.bool true)))⟩]
 (.mov 0 (.take 1 (.mov 2 (.mov 3 (.mov 4 (.take 5 (.take 6 (.take 7 (.take 8 (.mov 9 (.alt 10 true (.mov 11 (.mov 12 .done)) .nil))))))))))))
 .ret))))))))
def ts_evergreenlaw33_begun : List (Nat × Tr) := [(9,(.mov 0 (.take 1 (.mov 2 (.mov 3 (.mov 4 (.take 5 (.take 6 (.take 7 (.take 8 (.mov 9 (.alt 10 true (.mov 11 (.mov 12 .done)) .nil))))))))))))]
set_option maxRecDepth 100000 in
set_option maxHeartbeats 4000000 in
theorem ok_evergreenlaw33_begun : irOf Try.prog fn_evergreenlaw33_begun [2000009] ts_evergreenlaw33_begun = some (63,[(.t 6),(.c 7 2),(.t 8),(.t 9)],ir_evergreenlaw33_begun) := by kernel_rfl
def ir_evergreenlaw33_TransferRules : C :=
 (.seq
 (.reg
 [⟨(some 3),none,(.box 3 ty_evergreenlaw33_In (.t 0))⟩,⟨(some 6),none,(.mv (.c (.bool false)))⟩])
 (.seq
 (.seq
 (.reg
 [⟨(some 25),none,(.call fn_evergreenlaw33_awake [])⟩,⟨(some 26),none,(.not (.t 25))⟩,⟨(some 27),none,(.mv (.t 26))⟩,⟨(some 28),(some (27,false)),(.mv (.t 1))⟩,⟨(some 29),(some (27,false)),(.lens (.t 28))⟩,⟨(some 30),(some (27,false)),(.cmp .gtr .i64 (.t 29) (.c (.int .i64 30)))⟩,⟨(some 31),none,(.pick (.t 27) (.c (.bool true)) (.t 30))⟩,⟨(some 32),none,(.mv (.t 31))⟩,⟨(some 33),(some (32,false)),(.lda 6 [(.int .i64),.slc,.slc,.slc,.slc,.bool] (.t 3))⟩,⟨(some 34),(some (32,false)),(.call fn_evergreenlaw33_small [(.t 33)])⟩,⟨(some 35),(some (32,false)),(.not (.t 34))⟩,⟨(some 36),none,(.pick (.t 32) (.c (.bool true)) (.t 35))⟩])
 (.cond
 (.t 36)
 (.seq
 (.reg
 [⟨(some 37),none,(.call fn_evergreenlaw33_awake [])⟩,⟨(some 6),none,(.mv (.t 37))⟩])
 .ret)
 .skip))
 (.seq
 (.reg
 [⟨(some 39),none,(.lda 6 [(.int .i64),.slc,.slc,.slc,.slc,.bool] (.t 3))⟩,⟨(some 40),none,(.mv (.t 1))⟩,⟨(some 41),none,(.call fn_evergreenlaw33_begun [(.t 39),(.t 40),(.c (.int .i64 0))])⟩,⟨(some 38),none,(.mv (.t 41))⟩,⟨(some 42),none,(.ext (.t 38) 0)⟩,⟨(some 43),none,(.ext (.t 38) 1)⟩,⟨(some 44),none,(.ext (.t 38) 2)⟩,⟨(some 45),none,(.ext (.t 38) 3)⟩,⟨(some 8),none,(.alc 8 ty_evergreenref12_Store [(.slice none 0 0),(.slice none 0 0)])⟩,⟨(some 7),none,(.mv (.t 42))⟩,⟨none,none,(.st 2 (.t 8) (.t 43))⟩,⟨(some 9),none,(.mv (.t 44))⟩,⟨(some 10),none,(.mv (.t 45))⟩])
 (.seq
 (.seq
 (.reg
 [⟨(some 46),none,(.mv (.t 10))⟩,⟨(some 47),none,(.not (.t 46))⟩])
 (.cond
 (.t 47)
 (.seq
 (.reg
 [⟨(some 6),none,(.mv (.c (.bool false)))⟩])
 .ret)
 .skip))
 (.seq
 (.reg
 [⟨(some 48),none,(.mv (.t 7))⟩,⟨(some 49),none,(.call fn_P_transfer_Table_Store [(.t 48)])⟩,⟨(some 11),none,(.mv (.t 49))⟩])
 (.seq
 (.reg
 [⟨(some 50),none,(.mv (.t 2))⟩,⟨(some 51),none,(.cv .u64 (.t 50))⟩,⟨(some 52),none,(.fa 0 (.t 3))⟩,⟨(some 53),none,(.fa 2 (.t 52))⟩,⟨(some 54),none,(.ld .slc (.t 53))⟩,⟨(some 55),none,(.lens (.t 54))⟩,⟨(some 56),none,(.cv .u64 (.t 55))⟩,⟨(some 57),none,(.dv true .u64 (.t 51) (.t 56))⟩,⟨(some 58),none,(.cv .i64 (.t 57))⟩,⟨(some 2),none,(.mv (.t 58))⟩])
 (.seq
 (.seq
 (.reg
 [⟨(some 59),none,(.fa 0 (.t 8))⟩,⟨(some 60),none,(.ld .slc (.t 59))⟩,⟨(some 61),none,(.lens (.t 60))⟩,⟨(some 62),none,(.mv (.c (.int .i64 0)))⟩])
 (.blk
 0
 (.loop
 (.seq
 (.reg
 [⟨(some 63),none,(.cmp .lss .i64 (.t 62) (.t 61))⟩])
 (.seq
 (.cond
 (.t 63)
 .skip
 (.exit 0))
 (.seq
 (.blk
 1
 (.seq
 (.reg
 [⟨(some 64),none,(.mv (.t 62))⟩,⟨(some 65),none,(.ia 5 (.t 60) (.t 62))⟩,⟨(some 66),none,(.lda 5 [(.int .i64),(.int .u8),(.int .i64),(.int .i64),(.int .i64)] (.t 65))⟩,⟨(some 13),none,(.alc 13 ty_api_Rule [(.int .i64 0),(.int .u8 0),(.int .i64 0),(.int .i64 0),(.int .i64 0)])⟩,⟨(some 12),none,(.mv (.t 64))⟩,⟨none,none,(.st 5 (.t 13) (.t 66))⟩])
 (.seq
 (.drw
 [⟨(some 67),none,(.fa 2 (.t 13))⟩,⟨(some 68),none,(.ld (.int .i64) (.t 67))⟩,⟨(some 69),none,(.fa 3 (.t 13))⟩,⟨(some 70),none,(.ld (.int .i64) (.t 69))⟩,⟨(some 14),none,(.mv (.t 68))⟩,⟨(some 15),none,(.mv (.t 70))⟩]
 (.take 0 (.take 1 (.take 2 (.take 3 (.mov 4 (.mov 5 .done)))))))
 (.seq
 (.seq
 (.reg
 [⟨(some 71),none,(.fa 0 (.t 13))⟩,⟨(some 72),none,(.ld (.int .i64) (.t 71))⟩,⟨(some 73),none,(.cmp .eql .i64 (.t 72) (.c (.int .i64 1)))⟩])
 (.cond
 (.t 73)
 (.exit 1)
 .skip))
 (.seq
 (.seq
 (.reg
 [⟨(some 74),none,(.fa 0 (.t 13))⟩,⟨(some 75),none,(.ld (.int .i64) (.t 74))⟩,⟨(some 76),none,(.cmp .eql .i64 (.t 75) (.c (.int .i64 3)))⟩])
 (.cond
 (.t 76)
 (.seq
 (.reg
 [⟨(some 78),none,(.mv (.t 11))⟩,⟨(some 79),none,(.fa 2 (.t 13))⟩,⟨(some 80),none,(.ld (.int .i64) (.t 79))⟩,⟨(some 81),none,(.fa 4 (.t 13))⟩,⟨(some 82),none,(.ld (.int .i64) (.t 81))⟩,⟨(some 83),none,(.dv false .i64 (.t 82) (.c (.int .i64 2)))⟩,⟨(some 84),none,(.call fn_P_intern_Store_Power [(.t 78),(.t 80),(.t 83)])⟩,⟨(some 77),none,(.mv (.t 84))⟩,⟨(some 85),none,(.ext (.t 77) 0)⟩,⟨(some 86),none,(.ext (.t 77) 1)⟩,⟨(some 14),none,(.mv (.t 85))⟩])
 (.reg
 [⟨(some 88),none,(.mv (.t 11))⟩,⟨(some 89),none,(.fa 2 (.t 13))⟩,⟨(some 90),none,(.ld (.int .i64) (.t 89))⟩,⟨(some 91),none,(.fa 4 (.t 13))⟩,⟨(some 92),none,(.ld (.int .i64) (.t 91))⟩,⟨(some 93),none,(.fa 4 (.t 13))⟩,⟨(some 94),none,(.ld (.int .i64) (.t 93))⟩,⟨(some 95),none,(.dv false .i64 (.t 94) (.c (.int .i64 2)))⟩,⟨(some 96),none,(.ar .sub .i64 (.t 92) (.t 95))⟩,⟨(some 97),none,(.call fn_P_intern_Store_Power [(.t 88),(.t 90),(.t 96)])⟩,⟨(some 87),none,(.mv (.t 97))⟩,⟨(some 98),none,(.ext (.t 87) 0)⟩,⟨(some 99),none,(.ext (.t 87) 1)⟩,⟨(some 15),none,(.mv (.t 98))⟩]))
 .skip))
 (.seq
 (.seq
 (.reg
 [⟨(some 100),none,(.fa 5 (.t 3))⟩,⟨(some 101),none,(.ld .bool (.t 100))⟩])
 (.cond
 (.t 101)
 (.reg
 [⟨(some 102),none,(.mv (.t 15))⟩,⟨(some 103),none,(.mv (.t 14))⟩,⟨(some 14),none,(.mv (.t 102))⟩,⟨(some 15),none,(.mv (.t 103))⟩])
 .skip))
 (.seq
 (.reg
 [⟨(some 105),none,(.mv (.t 7))⟩,⟨(some 106),none,(.mv (.t 14))⟩,⟨(some 107),none,(.mv (.t 2))⟩,⟨(some 108),none,(.call fn_P_transfer_Table_End [(.t 105),(.t 106),(.t 107)])⟩,⟨(some 104),none,(.mv (.t 108))⟩,⟨(some 109),none,(.ext (.t 104) 0)⟩,⟨(some 110),none,(.ext (.t 104) 1)⟩,⟨(some 16),none,(.mv (.t 109))⟩,⟨(some 17),none,(.mv (.t 110))⟩])
 (.seq
 (.reg
 [⟨(some 112),none,(.mv (.t 7))⟩,⟨(some 113),none,(.mv (.t 15))⟩,⟨(some 114),none,(.mv (.t 16))⟩,⟨(some 115),none,(.call fn_P_transfer_Table_End [(.t 112),(.t 113),(.t 114)])⟩,⟨(some 111),none,(.mv (.t 115))⟩,⟨(some 116),none,(.ext (.t 111) 0)⟩,⟨(some 117),none,(.ext (.t 111) 1)⟩,⟨(some 18),none,(.mv (.t 116))⟩,⟨(some 19),none,(.mv (.t 117))⟩])
 (.seq
 (.reg
 [⟨(some 119),none,(.mv (.t 7))⟩,⟨(some 120),none,(.mv (.t 12))⟩,⟨(some 121),none,(.ar .add .i64 (.t 120) (.c (.int .i64 1)))⟩,⟨(some 122),none,(.mv (.t 2))⟩,⟨(some 123),none,(.call fn_P_transfer_Table_End [(.t 119),(.t 121),(.t 122)])⟩,⟨(some 118),none,(.mv (.t 123))⟩,⟨(some 124),none,(.ext (.t 118) 0)⟩,⟨(some 125),none,(.ext (.t 118) 1)⟩,⟨(some 20),none,(.mv (.t 124))⟩,⟨(some 21),none,(.mv (.t 125))⟩])
 (.cut
 (.seq
 (.reg
 [⟨(some 126),none,(.mv (.t 17))⟩,⟨(some 127),none,(.eqn .ifc true (.t 126))⟩,⟨(some 128),none,(.mv (.t 127))⟩,⟨(some 129),(some (128,false)),(.mv (.t 19))⟩,⟨(some 130),(some (128,false)),(.eqn .ifc true (.t 129))⟩,⟨(some 131),none,(.pick (.t 128) (.c (.bool true)) (.t 130))⟩,⟨(some 132),none,(.mv (.t 131))⟩,⟨(some 133),(some (132,false)),(.mv (.t 21))⟩,⟨(some 134),(some (132,false)),(.eqn .ifc true (.t 133))⟩,⟨(some 135),none,(.pick (.t 132) (.c (.bool true)) (.t 134))⟩,⟨(some 136),none,(.mv (.t 135))⟩,⟨(some 137),(some (136,false)),(.mv (.t 20))⟩,⟨(some 138),(some (136,false)),(.mv (.t 18))⟩,⟨(some 139),(some (136,false)),(.cmp .neq .i64 (.t 137) (.t 138))⟩,⟨(some 140),none,(.pick (.t 136) (.c (.bool true)) (.t 139))⟩])
 (.cond
 (.t 140)
 (.seq
 (.reg
 [⟨(some 6),none,(.mv (.c (.bool false)))⟩])
 .ret)
 .skip))
 (.seq
 (.reg
 [⟨(some 142),none,(.mv (.t 7))⟩,⟨(some 143),none,(.mv (.t 14))⟩,⟨(some 144),none,(.mv (.t 2))⟩,⟨(some 145),none,(.call fn_P_transfer_Table_Hits [(.t 142),(.t 143),(.t 144)])⟩,⟨(some 141),none,(.mv (.t 145))⟩,⟨(some 146),none,(.ext (.t 141) 0)⟩,⟨(some 147),none,(.ext (.t 141) 1)⟩,⟨(some 22),none,(.mv (.t 146))⟩,⟨(some 17),none,(.mv (.t 147))⟩])
 (.seq
 (.reg
 [⟨(some 149),none,(.mv (.t 7))⟩,⟨(some 150),none,(.mv (.t 15))⟩,⟨(some 151),none,(.mv (.t 16))⟩,⟨(some 152),none,(.call fn_P_transfer_Table_Hits [(.t 149),(.t 150),(.t 151)])⟩,⟨(some 148),none,(.mv (.t 152))⟩,⟨(some 153),none,(.ext (.t 148) 0)⟩,⟨(some 154),none,(.ext (.t 148) 1)⟩,⟨(some 23),none,(.mv (.t 153))⟩,⟨(some 19),none,(.mv (.t 154))⟩])
 (.seq
 (.reg
 [⟨(some 156),none,(.mv (.t 7))⟩,⟨(some 157),none,(.mv (.t 12))⟩,⟨(some 158),none,(.ar .add .i64 (.t 157) (.c (.int .i64 1)))⟩,⟨(some 159),none,(.mv (.t 2))⟩,⟨(some 160),none,(.call fn_P_transfer_Table_Hits [(.t 156),(.t 158),(.t 159)])⟩,⟨(some 155),none,(.mv (.t 160))⟩,⟨(some 161),none,(.ext (.t 155) 0)⟩,⟨(some 162),none,(.ext (.t 155) 1)⟩,⟨(some 24),none,(.mv (.t 161))⟩,⟨(some 21),none,(.mv (.t 162))⟩])
 (.seq
 (.reg
 [⟨(some 163),none,(.mv (.t 17))⟩,⟨(some 164),none,(.eqn .ifc true (.t 163))⟩,⟨(some 165),none,(.mv (.t 164))⟩,⟨(some 166),(some (165,false)),(.mv (.t 19))⟩,⟨(some 167),(some (165,false)),(.eqn .ifc true (.t 166))⟩,⟨(some 168),none,(.pick (.t 165) (.c (.bool true)) (.t 167))⟩,⟨(some 169),none,(.mv (.t 168))⟩,⟨(some 170),(some (169,false)),(.mv (.t 22))⟩,⟨(some 171),(some (169,false)),(.mv (.t 23))⟩,⟨(some 172),(some (169,false)),(.ar .add .i64 (.t 170) (.t 171))⟩,⟨(some 173),(some (169,false)),(.cmp .gtr .i64 (.t 172) (.c (.int .i64 1152921504606846976)))⟩,⟨(some 174),none,(.pick (.t 169) (.c (.bool true)) (.t 173))⟩])
 (.cond
 (.t 174)
 (.seq
 (.reg
 [⟨(some 175),none,(.mv (.t 21))⟩,⟨(some 176),none,(.call fn_evergreenbase_Is [(.t 175),(.c (.int .i64 2))])⟩,⟨(some 177),none,(.not (.t 176))⟩])
 (.cond
 (.t 177)
 (.seq
 (.reg
 [⟨(some 6),none,(.mv (.c (.bool false)))⟩])
 .ret)
 .skip))
 (.seq
 (.reg
 [⟨(some 178),none,(.mv (.t 21))⟩,⟨(some 179),none,(.eqn .ifc true (.t 178))⟩,⟨(some 180),none,(.mv (.t 179))⟩,⟨(some 181),(some (180,false)),(.mv (.t 24))⟩,⟨(some 182),(some (180,false)),(.mv (.t 22))⟩,⟨(some 183),(some (180,false)),(.mv (.t 23))⟩,⟨(some 184),(some (180,false)),(.ar .add .i64 (.t 182) (.t 183))⟩,⟨(some 185),(some (180,false)),(.cmp .neq .i64 (.t 181) (.t 184))⟩,⟨(some 186),none,(.pick (.t 180) (.c (.bool true)) (.t 185))⟩])
 (.cond
 (.t 186)
 (.seq
 (.reg
 [⟨(some 6),none,(.mv (.c (.bool false)))⟩])
 .ret)
 .skip)))))))))))))))))
 (.reg
 [⟨(some 187),none,(.ar .add .i64 (.t 62) (.c (.int .i64 1)))⟩,⟨(some 62),none,(.mv (.t 187))⟩])))))))
 (.seq
 (.reg
 [⟨(some 6),none,(.mv (.c (.bool true)))⟩])
 .ret))))))))
def ts_evergreenlaw33_TransferRules : List (Nat × Tr) := [(11,(.take 0 (.take 1 (.take 2 (.take 3 (.mov 4 (.mov 5 .done)))))))]
set_option maxRecDepth 100000 in
set_option maxHeartbeats 4000000 in
theorem ok_evergreenlaw33_TransferRules : irOf Try.prog fn_evergreenlaw33_TransferRules [1000142] ts_evergreenlaw33_TransferRules = some (188,[(.t 6)],ir_evergreenlaw33_TransferRules) := by kernel_rfl
end Go.Proofs.Ytoocnmfodhnpbaa
