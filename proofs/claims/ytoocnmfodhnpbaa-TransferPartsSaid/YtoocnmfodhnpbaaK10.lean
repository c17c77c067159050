/- The small forms of functions of the program, with the equations that say so: written by a program (irtool.py). No condition. -/
import Derived.Test.YtoocnmfodhnpbaaK7
import Derived.Test.YtoocnmfodhnpbaaProg
namespace Go.Proofs.Ytoocnmfodhnpbaa
open Go.EG
abbrev fn_evergreenlaw33_TransferParts : Nat := 3
abbrev fn_evergreenlaw33_awake : Nat := 10
abbrev fn_evergreenlaw33_small : Nat := 11
abbrev fn_evergreenlaw33_begun : Nat := 12
abbrev ty_evergreenlaw33_In : Nat := 28
def ir_evergreenlaw33_awake : C :=
 (.seq
 (.reg
 [⟨(some 0),none,(.mv (.c (.bool false)))⟩])
 (.seq
 (.reg
 [⟨(some 12),none,(.call fn_intern_New [(.c (.int .i64 10))])⟩,⟨(some 1),none,(.mv (.t 12))⟩])
 (.seq
 (.seq
 (.reg
 [⟨(some 13),none,(.mv (.t 1))⟩,⟨(some 14),none,(.eqn .ptr false (.t 13))⟩])
 (.cond
 (.t 14)
 (.seq
 (.reg
 [⟨(some 0),none,(.mv (.c (.bool false)))⟩])
 .ret)
 .skip))
 (.seq
 (.reg
 [⟨(some 16),none,(.mv (.t 1))⟩,⟨(some 17),none,(.bld [(.int .i64 0),(.int .u8 0),(.int .i64 0),(.int .i64 0),(.int .i64 0)] [(0,(1,(.c (.int .i64 1)))),(1,(1,(.c (.int .u8 97))))])⟩,⟨(some 18),none,(.bld [(.int .i64 0),(.int .u8 0),(.int .i64 0),(.int .i64 0),(.int .i64 0)] [(0,(1,(.c (.int .i64 1)))),(1,(1,(.c (.int .u8 98))))])⟩,⟨(some 19),none,(.bld [(.int .i64 0),(.int .u8 0),(.int .i64 0),(.int .i64 0),(.int .i64 0)] [(0,(1,(.c (.int .i64 2)))),(2,(1,(.c (.int .i64 1)))),(3,(1,(.c (.int .i64 2))))])⟩,⟨(some 20),none,(.bld [(.int .i64 0),(.int .u8 0),(.int .i64 0),(.int .i64 0),(.int .i64 0)] [(0,(1,(.c (.int .i64 3)))),(2,(1,(.c (.int .i64 1)))),(4,(1,(.c (.int .i64 2))))])⟩,⟨(some 21),none,(.bld [(.int .i64 0),(.int .u8 0),(.int .i64 0),(.int .i64 0),(.int .i64 0)] [(0,(1,(.c (.int .i64 2)))),(2,(1,(.c (.int .i64 3)))),(3,(1,(.c (.int .i64 4))))])⟩,⟨(some 22),none,(.bsl 22 ty_api_Rule 5 5 [(.int .i64 0),(.int .u8 0),(.int .i64 0),(.int .i64 0),(.int .i64 0),(.int .i64 0),(.int .u8 0),(.int .i64 0),(.int .i64 0),(.int .i64 0),(.int .i64 0),(.int .u8 0),(.int .i64 0),(.int .i64 0),(.int .i64 0),(.int .i64 0),(.int .u8 0),(.int .i64 0),(.int .i64 0),(.int .i64 0),(.int .i64 0),(.int .u8 0),(.int .i64 0),(.int .i64 0),(.int .i64 0)] [(0,(5,(.t 17))),(5,(5,(.t 18))),(10,(5,(.t 19))),(15,(5,(.t 20))),(20,(5,(.t 21)))])⟩,⟨(some 23),none,(.call fn_P_intern_Store_Import [(.t 16),(.t 22)])⟩,⟨(some 15),none,(.mv (.t 23))⟩,⟨(some 24),none,(.ext (.t 15) 0)⟩,⟨(some 25),none,(.ext (.t 15) 1)⟩,⟨(some 2),none,(.mv (.t 24))⟩,⟨(some 3),none,(.mv (.t 25))⟩])
 (.seq
 (.reg
 [⟨(some 4),none,(.alc 4 ty_api_Letters [(.int .u64 0),(.int .u64 0),(.int .u64 0),(.int .u64 0)])⟩])
 (.seq
 (.reg
 [⟨(some 26),none,(.iaa 1 4 (.t 4) (.c (.int .i64 1)))⟩,⟨none,none,(.st 1 (.t 26) (.c (.int .u64 8589934592)))⟩])
 (.seq
 (.reg
 [⟨(some 28),none,(.mv (.t 1))⟩,⟨(some 29),none,(.lda 4 [(.int .u64),(.int .u64),(.int .u64),(.int .u64)] (.t 4))⟩,⟨(some 30),none,(.call fn_evergreenlaw33_Letters [(.t 29)])⟩,⟨(some 31),none,(.bsl 31 ty_int 1 2 [(.int .i64 0),(.int .i64 0)] [(0,(1,(.c (.int .i64 0)))),(1,(1,(.c (.int .i64 1))))])⟩,⟨(some 32),none,(.call fn_transfer_New [(.t 28),(.t 30),(.t 31),(.c (.bool false))])⟩,⟨(some 27),none,(.mv (.t 32))⟩,⟨(some 33),none,(.ext (.t 27) 0)⟩,⟨(some 34),none,(.ext (.t 27) 1)⟩,⟨(some 5),none,(.mv (.t 33))⟩,⟨(some 6),none,(.mv (.t 34))⟩])
 (.seq
 (.reg
 [⟨(some 36),none,(.mv (.t 5))⟩,⟨(some 37),none,(.mv (.t 2))⟩,⟨(some 38),none,(.call fn_P_transfer_Table_Hits [(.t 36),(.t 37),(.c (.int .i64 0))])⟩,⟨(some 35),none,(.mv (.t 38))⟩,⟨(some 39),none,(.ext (.t 35) 0)⟩,⟨(some 40),none,(.ext (.t 35) 1)⟩,⟨(some 7),none,(.mv (.t 39))⟩,⟨(some 8),none,(.mv (.t 40))⟩])
 (.seq
 (.reg
 [⟨(some 42),none,(.mv (.t 5))⟩,⟨(some 43),none,(.mv (.t 2))⟩,⟨(some 44),none,(.call fn_P_transfer_Table_Part [(.t 42),(.t 43),(.c (.int .i64 1)),(.c (.int .i64 2)),(.c (.int .i64 0))])⟩,⟨(some 41),none,(.mv (.t 44))⟩,⟨(some 45),none,(.ext (.t 41) 0)⟩,⟨(some 46),none,(.ext (.t 41) 1)⟩,⟨(some 47),none,(.ext (.t 41) 2)⟩,⟨(some 9),none,(.mv (.t 45))⟩,⟨(some 10),none,(.mv (.t 46))⟩,⟨(some 11),none,(.mv (.t 47))⟩])
 (.seq
 (.reg
 [⟨(some 48),none,(.mv (.t 3))⟩,⟨(some 49),none,(.eqn .ifc false (.t 48))⟩,⟨(some 50),none,(.mv (.t 49))⟩,⟨(some 51),(some (50,true)),(.mv (.t 6))⟩,⟨(some 52),(some (50,true)),(.eqn .ifc false (.t 51))⟩,⟨(some 53),none,(.pick (.t 50) (.t 52) (.c (.bool false)))⟩,⟨(some 54),none,(.mv (.t 53))⟩,⟨(some 55),(some (54,true)),(.mv (.t 8))⟩,⟨(some 56),(some (54,true)),(.eqn .ifc false (.t 55))⟩,⟨(some 57),none,(.pick (.t 54) (.t 56) (.c (.bool false)))⟩,⟨(some 58),none,(.mv (.t 57))⟩,⟨(some 59),(some (58,true)),(.mv (.t 11))⟩,⟨(some 60),(some (58,true)),(.eqn .ifc false (.t 59))⟩,⟨(some 61),none,(.pick (.t 58) (.t 60) (.c (.bool false)))⟩,⟨(some 62),none,(.mv (.t 61))⟩,⟨(some 63),(some (62,true)),(.mv (.t 7))⟩,⟨(some 64),(some (62,true)),(.cmp .eql .i64 (.t 63) (.c (.int .i64 3)))⟩,⟨(some 65),none,(.pick (.t 62) (.t 64) (.c (.bool false)))⟩,⟨(some 66),none,(.mv (.t 65))⟩,⟨(some 67),(some (66,true)),(.mv (.t 9))⟩,⟨(some 68),(some (66,true)),(.cmp .eql .i64 (.t 67) (.c (.int .i64 1)))⟩,⟨(some 69),none,(.pick (.t 66) (.t 68) (.c (.bool false)))⟩,⟨(some 70),none,(.mv (.t 69))⟩,⟨(some 71),(some (70,true)),(.mv (.t 10))⟩,⟨(some 72),(some (70,true)),(.cmp .eql .i64 (.t 71) (.c (.int .i64 1)))⟩,⟨(some 73),none,(.pick (.t 70) (.t 72) (.c (.bool false)))⟩,⟨(some 0),none,(.mv (.t 73))⟩])
 .ret))))))))))
def ts_evergreenlaw33_awake : List (Nat × Tr) := []
set_option maxRecDepth 100000 in
set_option maxHeartbeats 4000000 in
theorem ok_evergreenlaw33_awake : irOf Try.prog fn_evergreenlaw33_awake [] ts_evergreenlaw33_awake = some (74,[(.t 0)],ir_evergreenlaw33_awake) := by kernel_rfl
def ir_evergreenlaw33_small : C :=
 (.seq
 (.reg
 [⟨(some 1),none,(.box 1 ty_evergreenlaw33_In (.t 0))⟩,⟨(some 2),none,(.mv (.c (.bool false)))⟩])
 (.seq
 (.seq
 (.reg
 [⟨(some 5),none,(.fa 0 (.t 1))⟩,⟨(some 6),none,(.fa 2 (.t 5))⟩,⟨(some 7),none,(.ld .slc (.t 6))⟩,⟨(some 8),none,(.lens (.t 7))⟩,⟨(some 9),none,(.cmp .gtr .i64 (.t 8) (.c (.int .i64 40)))⟩,⟨(some 10),none,(.mv (.t 9))⟩,⟨(some 11),(some (10,false)),(.fa 0 (.t 1))⟩,⟨(some 12),(some (10,false)),(.lda 4 [(.int .i64),.slc,.slc,.slc] (.t 11))⟩,⟨(some 13),(some (10,false)),(.call fn_machine_Check [(.t 12)])⟩,⟨(some 14),(some (10,false)),(.eqn .ifc true (.t 13))⟩,⟨(some 15),none,(.pick (.t 10) (.c (.bool true)) (.t 14))⟩,⟨(some 16),none,(.mv (.t 15))⟩,⟨(some 17),(some (16,false)),(.fa 4 (.t 1))⟩,⟨(some 18),(some (16,false)),(.ld .slc (.t 17))⟩,⟨(some 19),(some (16,false)),(.lens (.t 18))⟩,⟨(some 20),(some (16,false)),(.fa 0 (.t 1))⟩,⟨(some 21),(some (16,false)),(.fa 2 (.t 20))⟩,⟨(some 22),(some (16,false)),(.ld .slc (.t 21))⟩,⟨(some 23),(some (16,false)),(.lens (.t 22))⟩,⟨(some 24),(some (16,false)),(.cmp .neq .i64 (.t 19) (.t 23))⟩,⟨(some 25),none,(.pick (.t 16) (.c (.bool true)) (.t 24))⟩])
 (.cond
 (.t 25)
 (.seq
 (.reg
 [⟨(some 2),none,(.mv (.c (.bool false)))⟩])
 .ret)
 .skip))
 (.seq
 (.seq
 (.reg
 [⟨(some 26),none,(.fa 4 (.t 1))⟩,⟨(some 27),none,(.ld .slc (.t 26))⟩,⟨(some 28),none,(.lens (.t 27))⟩,⟨(some 29),none,(.mv (.c (.int .i64 0)))⟩])
 (.blk
 0
 (.loop
 (.seq
 (.reg
 [⟨(some 30),none,(.cmp .lss .i64 (.t 29) (.t 28))⟩])
 (.seq
 (.cond
 (.t 30)
 .skip
 (.exit 0))
 (.seq
 (.blk
 1
 (.seq
 (.reg
 [⟨(some 31),none,(.ia 1 (.t 27) (.t 29))⟩,⟨(some 32),none,(.ld (.int .i64) (.t 31))⟩,⟨(some 4),none,(.mv (.t 32))⟩])
 (.seq
 (.reg
 [⟨(some 33),none,(.mv (.t 4))⟩,⟨(some 34),none,(.cmp .lss .i64 (.t 33) (.c (.int .i64 0)))⟩,⟨(some 35),none,(.mv (.t 34))⟩,⟨(some 36),(some (35,false)),(.mv (.t 4))⟩,⟨(some 37),(some (35,false)),(.cmp .gtr .i64 (.t 36) (.c (.int .i64 1048576)))⟩,⟨(some 38),none,(.pick (.t 35) (.c (.bool true)) (.t 37))⟩])
 (.cond
 (.t 38)
 (.seq
 (.reg
 [⟨(some 2),none,(.mv (.c (.bool false)))⟩])
 .ret)
 .skip))))
 (.reg
 [⟨(some 39),none,(.ar .add .i64 (.t 29) (.c (.int .i64 1)))⟩,⟨(some 29),none,(.mv (.t 39))⟩])))))))
 (.seq
 (.reg
 [⟨(some 2),none,(.mv (.c (.bool true)))⟩])
 .ret))))
def ts_evergreenlaw33_small : List (Nat × Tr) := []
set_option maxRecDepth 100000 in
set_option maxHeartbeats 4000000 in
theorem ok_evergreenlaw33_small : irOf Try.prog fn_evergreenlaw33_small [] ts_evergreenlaw33_small = some (40,[(.t 2)],ir_evergreenlaw33_small) := by kernel_rfl
def ir_evergreenlaw33_begun : C :=
 (.seq
 (.reg
 [⟨(some 3),none,(.box 3 ty_evergreenlaw33_In (.t 0))⟩,⟨(some 6),none,(.mv (.c (.pointer none)))⟩,⟨(some 7),none,(.alc 7 ty_evergreenref12_Store [(.slice none 0 0),(.slice none 0 0)])⟩,⟨(some 8),none,(.mv (.c (.int .i64 0)))⟩,⟨(some 9),none,(.mv (.c (.bool false)))⟩])
 (.seq
 (.reg
 [⟨(some 17),none,(.call fn_intern_New [(.c (.int .i64 1000))])⟩,⟨(some 10),none,(.mv (.t 17))⟩])
 (.seq
 (.seq
 (.reg
 [⟨(some 18),none,(.mv (.t 10))⟩,⟨(some 19),none,(.eqn .ptr false (.t 18))⟩])
 (.cond
 (.t 19)
 (.seq
 (.reg
 [⟨(some 20),none,(.bld [(.slice none 0 0),(.slice none 0 0)] [])⟩,⟨(some 6),none,(.mv (.c (.pointer none)))⟩,⟨none,none,(.st 2 (.t 7) (.t 20))⟩,⟨(some 8),none,(.mv (.c (.int .i64 0)))⟩,⟨(some 9),none,(.mv (.c (.bool false)))⟩])
 .ret)
 .skip))
 (.seq
 (.reg
 [⟨(some 22),none,(.mv (.t 10))⟩,⟨(some 23),none,(.mv (.t 1))⟩,⟨(some 24),none,(.call fn_evergreenlaw12_Build [(.t 22),(.t 23)])⟩,⟨(some 21),none,(.mv (.t 24))⟩,⟨(some 25),none,(.ext (.t 21) 0)⟩,⟨(some 26),none,(.ext (.t 21) 1)⟩,⟨(some 11),none,(.mv (.t 25))⟩,⟨(some 12),none,(.mv (.t 26))⟩])
 (.seq
 (.reg
 [⟨(some 28),none,(.mv (.t 10))⟩,⟨(some 29),none,(.fa 0 (.t 3))⟩,⟨(some 30),none,(.lda 4 [(.int .i64),.slc,.slc,.slc] (.t 29))⟩,⟨(some 31),none,(.fa 4 (.t 3))⟩,⟨(some 32),none,(.ld .slc (.t 31))⟩,⟨(some 33),none,(.fa 5 (.t 3))⟩,⟨(some 34),none,(.ld .bool (.t 33))⟩,⟨(some 35),none,(.call fn_transfer_New [(.t 28),(.t 30),(.t 32),(.t 34)])⟩,⟨(some 27),none,(.mv (.t 35))⟩,⟨(some 36),none,(.ext (.t 27) 0)⟩,⟨(some 37),none,(.ext (.t 27) 1)⟩,⟨(some 13),none,(.mv (.t 36))⟩,⟨(some 14),none,(.mv (.t 37))⟩])
 (.seq
 (.seq
 (.reg
 [⟨(some 38),none,(.mv (.t 12))⟩,⟨(some 39),none,(.not (.t 38))⟩,⟨(some 40),none,(.mv (.t 39))⟩,⟨(some 41),(some (40,false)),(.mv (.t 14))⟩,⟨(some 42),(some (40,false)),(.eqn .ifc true (.t 41))⟩,⟨(some 43),none,(.pick (.t 40) (.c (.bool true)) (.t 42))⟩,⟨(some 44),none,(.mv (.t 43))⟩,⟨(some 45),(some (44,false)),(.mv (.t 13))⟩,⟨(some 46),(some (44,false)),(.eqn .ptr false (.t 45))⟩,⟨(some 47),none,(.pick (.t 44) (.c (.bool true)) (.t 46))⟩])
 (.cond
 (.t 47)
 (.seq
 (.reg
 [⟨(some 48),none,(.bld [(.slice none 0 0),(.slice none 0 0)] [])⟩,⟨(some 6),none,(.mv (.c (.pointer none)))⟩,⟨none,none,(.st 2 (.t 7) (.t 48))⟩,⟨(some 8),none,(.mv (.c (.int .i64 0)))⟩,⟨(some 9),none,(.mv (.c (.bool false)))⟩])
 .ret)
 .skip))
 (.seq
 (.reg
 [⟨(some 50),none,(.mv (.t 1))⟩,⟨(some 51),none,(.call fn_evergreenref12_Build [(.t 50)])⟩,⟨(some 49),none,(.mv (.t 51))⟩,⟨(some 52),none,(.ext (.t 49) 0)⟩,⟨(some 53),none,(.ext (.t 49) 1)⟩,⟨(some 15),none,(.alc 15 ty_evergreenref12_Store [(.slice none 0 0),(.slice none 0 0)])⟩,⟨none,none,(.st 2 (.t 15) (.t 52))⟩,⟨(some 16),none,(.mv (.t 53))⟩])
 (.seq
 (.drb
 [⟨(some 54),none,(.mv (.t 13))⟩,⟨(some 55),none,(.lda 2 [.slc,.slc] (.t 15))⟩,⟨(some 56),none,(.mv (.t 11))⟩,⟨(some 57),none,(.mv (.t 2))⟩,⟨(some 58),none,(.mv (.t 11))⟩,⟨(some 59),none,(.lens (.t 58))⟩,⟨(some 60),none,(.call fn_evergreenref12_Pick [(.t 57),(.t 59)])⟩,⟨(some 61),none,(.ia 1 (.t 56) (.t 60))⟩,⟨(some 62),none,(.ld (.int .i64) (.t 61))⟩,⟨(some 6),none,(.mv (.t 54))⟩,⟨none,none,(.st 2 (.t 7) (.t 55))⟩,⟨(some 8),none,(.mv (.t 62))⟩,⟨(some 9),none,(.mv (.c (.bool true)))⟩]
 (.mov 0 (.take 1 (.mov 2 (.mov 3 (.mov 4 (.take 5 (.take 6 (.take 7 (.take 8 (.mov 9 (.alt 10 true (.mov 11 (.mov 12 .done)) .nil))))))))))))
 .ret))))))))
def ts_evergreenlaw33_begun : List (Nat × Tr) := [(9,(.mov 0 (.take 1 (.mov 2 (.mov 3 (.mov 4 (.take 5 (.take 6 (.take 7 (.take 8 (.mov 9 (.alt 10 true (.mov 11 (.mov 12 .done)) .nil))))))))))))]
set_option maxRecDepth 100000 in
set_option maxHeartbeats 4000000 in
theorem ok_evergreenlaw33_begun : irOf Try.prog fn_evergreenlaw33_begun [2000009] ts_evergreenlaw33_begun = some (63,[(.t 6),(.c 7 2),(.t 8),(.t 9)],ir_evergreenlaw33_begun) := by kernel_rfl
def ir_evergreenlaw33_TransferParts : C :=
 (.seq
 (.reg
 [⟨(some 5),none,(.box 5 ty_evergreenlaw33_In (.t 0))⟩,⟨(some 10),none,(.mv (.c (.bool false)))⟩])
 (.seq
 (.seq
 (.reg
 [⟨(some 23),none,(.call fn_evergreenlaw33_awake [])⟩,⟨(some 24),none,(.not (.t 23))⟩,⟨(some 25),none,(.mv (.t 24))⟩,⟨(some 26),(some (25,false)),(.mv (.t 1))⟩,⟨(some 27),(some (25,false)),(.lens (.t 26))⟩,⟨(some 28),(some (25,false)),(.cmp .gtr .i64 (.t 27) (.c (.int .i64 30)))⟩,⟨(some 29),none,(.pick (.t 25) (.c (.bool true)) (.t 28))⟩,⟨(some 30),none,(.mv (.t 29))⟩,⟨(some 31),(some (30,false)),(.lda 6 [(.int .i64),.slc,.slc,.slc,.slc,.bool] (.t 5))⟩,⟨(some 32),(some (30,false)),(.call fn_evergreenlaw33_small [(.t 31)])⟩,⟨(some 33),(some (30,false)),(.not (.t 32))⟩,⟨(some 34),none,(.pick (.t 30) (.c (.bool true)) (.t 33))⟩])
 (.cond
 (.t 34)
 (.seq
 (.reg
 [⟨(some 35),none,(.call fn_evergreenlaw33_awake [])⟩,⟨(some 10),none,(.mv (.t 35))⟩])
 .ret)
 .skip))
 (.seq
 (.reg
 [⟨(some 37),none,(.lda 6 [(.int .i64),.slc,.slc,.slc,.slc,.bool] (.t 5))⟩,⟨(some 38),none,(.mv (.t 1))⟩,⟨(some 39),none,(.mv (.t 2))⟩,⟨(some 40),none,(.call fn_evergreenlaw33_begun [(.t 37),(.t 38),(.t 39)])⟩,⟨(some 36),none,(.mv (.t 40))⟩,⟨(some 41),none,(.ext (.t 36) 0)⟩,⟨(some 42),none,(.ext (.t 36) 1)⟩,⟨(some 43),none,(.ext (.t 36) 2)⟩,⟨(some 44),none,(.ext (.t 36) 3)⟩,⟨(some 12),none,(.alc 12 ty_evergreenref12_Store [(.slice none 0 0),(.slice none 0 0)])⟩,⟨(some 11),none,(.mv (.t 41))⟩,⟨none,none,(.st 2 (.t 12) (.t 42))⟩,⟨(some 13),none,(.mv (.t 43))⟩,⟨(some 14),none,(.mv (.t 44))⟩])
 (.seq
 (.seq
 (.reg
 [⟨(some 45),none,(.mv (.t 14))⟩,⟨(some 46),none,(.not (.t 45))⟩])
 (.cond
 (.t 46)
 (.seq
 (.reg
 [⟨(some 10),none,(.mv (.c (.bool false)))⟩])
 .ret)
 .skip))
 (.seq
 (.reg
 [⟨(some 48),none,(.lda 2 [.slc,.slc] (.t 12))⟩,⟨(some 49),none,(.mv (.t 13))⟩,⟨(some 50),none,(.call fn_evergreenref12_Text [(.t 48),(.t 49),(.c (.int .i64 4096))])⟩,⟨(some 47),none,(.mv (.t 50))⟩,⟨(some 51),none,(.ext (.t 47) 0)⟩,⟨(some 52),none,(.ext (.t 47) 1)⟩,⟨(some 15),none,(.mv (.t 51))⟩,⟨(some 16),none,(.mv (.t 52))⟩])
 (.seq
 (.seq
 (.reg
 [⟨(some 53),none,(.mv (.t 16))⟩,⟨(some 54),none,(.not (.t 53))⟩])
 (.cond
 (.t 54)
 (.seq
 (.reg
 [⟨(some 10),none,(.mv (.c (.bool true)))⟩])
 .ret)
 .skip))
 (.seq
 (.seq
 (.reg
 [⟨(some 55),none,(.fa 0 (.t 5))⟩,⟨(some 56),none,(.fa 2 (.t 55))⟩,⟨(some 57),none,(.ld .slc (.t 56))⟩,⟨(some 58),none,(.lens (.t 57))⟩,⟨(some 59),none,(.mv (.c (.int .i64 0)))⟩])
 (.blk
 0
 (.loop
 (.seq
 (.reg
 [⟨(some 60),none,(.cmp .lss .i64 (.t 59) (.t 58))⟩])
 (.seq
 (.cond
 (.t 60)
 .skip
 (.exit 0))
 (.seq
 (.blk
 1
 (.seq
 (.reg
 [⟨(some 61),none,(.mv (.t 59))⟩,⟨(some 17),none,(.mv (.t 61))⟩])
 (.seq
 (.reg
 [⟨(some 63),none,(.mv (.t 11))⟩,⟨(some 64),none,(.mv (.t 13))⟩,⟨(some 65),none,(.mv (.t 3))⟩,⟨(some 66),none,(.mv (.t 4))⟩,⟨(some 67),none,(.mv (.t 17))⟩,⟨(some 68),none,(.call fn_P_transfer_Table_Part [(.t 63),(.t 64),(.t 65),(.t 66),(.t 67)])⟩,⟨(some 62),none,(.mv (.t 68))⟩,⟨(some 69),none,(.ext (.t 62) 0)⟩,⟨(some 70),none,(.ext (.t 62) 1)⟩,⟨(some 71),none,(.ext (.t 62) 2)⟩,⟨(some 18),none,(.mv (.t 69))⟩,⟨(some 19),none,(.mv (.t 70))⟩,⟨(some 20),none,(.mv (.t 71))⟩])
 (.seq
 (.seq
 (.reg
 [⟨(some 72),none,(.mv (.t 3))⟩,⟨(some 73),none,(.mv (.t 4))⟩,⟨(some 74),none,(.mv (.t 15))⟩,⟨(some 75),none,(.lens (.t 74))⟩,⟨(some 76),none,(.call fn_evergreenref16_Valid [(.t 72),(.t 73),(.t 75)])⟩,⟨(some 77),none,(.not (.t 76))⟩])
 (.cond
 (.t 77)
 (.seq
 (.seq
 (.reg
 [⟨(some 78),none,(.mv (.t 20))⟩,⟨(some 79),none,(.call fn_evergreenbase_Is [(.t 78),(.c (.int .i64 1))])⟩,⟨(some 80),none,(.not (.t 79))⟩,⟨(some 81),none,(.mv (.t 80))⟩,⟨(some 82),(some (81,false)),(.mv (.t 18))⟩,⟨(some 83),(some (81,false)),(.cmp .neq .i64 (.t 82) (.c (.int .i64 0)))⟩,⟨(some 84),none,(.pick (.t 81) (.c (.bool true)) (.t 83))⟩,⟨(some 85),none,(.mv (.t 84))⟩,⟨(some 86),(some (85,false)),(.mv (.t 19))⟩,⟨(some 87),(some (85,false)),(.cmp .neq .i64 (.t 86) (.c (.int .i64 0)))⟩,⟨(some 88),none,(.pick (.t 85) (.c (.bool true)) (.t 87))⟩])
 (.cond
 (.t 88)
 (.seq
 (.reg
 [⟨(some 10),none,(.mv (.c (.bool false)))⟩])
 .ret)
 .skip))
 (.exit 1))
 .skip))
 (.seq
 (.drw
 [⟨(some 90),none,(.fa 0 (.t 5))⟩,⟨(some 91),none,(.lda 4 [(.int .i64),.slc,.slc,.slc] (.t 90))⟩,⟨(some 92),none,(.fa 4 (.t 5))⟩,⟨(some 93),none,(.ld .slc (.t 92))⟩,⟨(some 94),none,(.fa 5 (.t 5))⟩,⟨(some 95),none,(.ld .bool (.t 94))⟩,⟨(some 96),none,(.mv (.t 15))⟩,⟨(some 97),none,(.mv (.t 3))⟩,⟨(some 98),none,(.mv (.t 3))⟩,⟨(some 99),none,(.mv (.t 4))⟩,⟨(some 100),none,(.ar .add .i64 (.t 98) (.t 99))⟩,⟨(some 101),none,(.slc 1 (.t 96) (some (.t 97)) (some (.t 100)))⟩,⟨(some 102),none,(.mv (.t 17))⟩,⟨(some 103),none,(.call fn_evergreenref33_Run [(.t 91),(.t 93),(.t 95),(.t 101),(.t 102)])⟩,⟨(some 89),none,(.mv (.t 103))⟩,⟨(some 104),none,(.ext (.t 89) 0)⟩,⟨(some 105),none,(.ext (.t 89) 1)⟩,⟨(some 21),none,(.mv (.t 104))⟩,⟨(some 22),none,(.mv (.t 105))⟩]
 (.take 0 (.take 1 (.take 2 (.take 3 (.take 4 (.take 5 (.mov 6 (.mov 7 (.mov 8 (.mov 9 (.take 10 (.take 11 (.mov 12 (.bar 13 (.mov 14 (.mov 15 (.mov 16 (.mov 17 (.mov 18 .done))))))))))))))))))))
 (.seq
 (.reg
 [⟨(some 106),none,(.mv (.t 20))⟩,⟨(some 107),none,(.eqn .ifc true (.t 106))⟩,⟨(some 108),none,(.mv (.t 107))⟩,⟨(some 109),(some (108,false)),(.mv (.t 18))⟩,⟨(some 110),(some (108,false)),(.mv (.t 21))⟩,⟨(some 111),(some (108,false)),(.cmp .neq .i64 (.t 109) (.t 110))⟩,⟨(some 112),none,(.pick (.t 108) (.c (.bool true)) (.t 111))⟩,⟨(some 113),none,(.mv (.t 112))⟩,⟨(some 114),(some (113,false)),(.mv (.t 19))⟩,⟨(some 115),(some (113,false)),(.mv (.t 22))⟩,⟨(some 116),(some (113,false)),(.cmp .neq .i64 (.t 114) (.t 115))⟩,⟨(some 117),none,(.pick (.t 113) (.c (.bool true)) (.t 116))⟩])
 (.cond
 (.t 117)
 (.seq
 (.reg
 [⟨(some 10),none,(.mv (.c (.bool false)))⟩])
 .ret)
 .skip)))))))
 (.reg
 [⟨(some 118),none,(.ar .add .i64 (.t 59) (.c (.int .i64 1)))⟩,⟨(some 59),none,(.mv (.t 118))⟩])))))))
 (.seq
 (.reg
 [⟨(some 10),none,(.mv (.c (.bool true)))⟩])
 .ret))))))))
def ts_evergreenlaw33_TransferParts : List (Nat × Tr) := [(16,(.take 0 (.take 1 (.take 2 (.take 3 (.take 4 (.take 5 (.mov 6 (.mov 7 (.mov 8 (.mov 9 (.take 10 (.take 11 (.mov 12 (.bar 13 (.mov 14 (.mov 15 (.mov 16 (.mov 17 (.mov 18 .done))))))))))))))))))))]
set_option maxRecDepth 100000 in
set_option maxHeartbeats 4000000 in
theorem ok_evergreenlaw33_TransferParts : irOf Try.prog fn_evergreenlaw33_TransferParts [] ts_evergreenlaw33_TransferParts = some (119,[(.t 10)],ir_evergreenlaw33_TransferParts) := by kernel_rfl
end Go.Proofs.Ytoocnmfodhnpbaa
