/- The small forms of functions of the program, with the equations that say so: written by a program (irtool.py). No condition. -/
import Derived.Test.YtoocnmfodhnpbaaK7
import Derived.Test.YtoocnmfodhnpbaaProg
namespace Go.Proofs.Ytoocnmfodhnpbaa
open Go.EG
abbrev fn_evergreenlaw33_TransferCuts : Nat := 5
abbrev fn_evergreenlaw33_awake : Nat := 10
abbrev fn_evergreenlaw33_small : Nat := 11
abbrev fn_evergreenlaw33_begun : Nat := 12
abbrev fn_evergreenlaw33_chain : Nat := 21
abbrev ty_evergreenlaw33_In : Nat := 28
abbrev ty_api_Span : Nat := 60
def ir_evergreenlaw33_awake : C :=
 (.seq
 (.reg
 [⟨(some 0),none,(.mv (.c (.bool false)))⟩])
 (.seq
 (.reg
 [⟨(some 12),none,(.call fn_intern_New [(.c (.int .i64 10))])⟩,⟨(some 1),none,(.mv (.t 12))⟩])
 (.seq
 (.seq
 (.reg
 [⟨(some 13),none,(.mv (.t 1))⟩,⟨(some 14),none,(.eqn .ptr false (.t 13))⟩])
 (.cond
 (.t 14)
 (.seq
 (.reg
 [⟨(some 0),none,(.mv (.c (.bool false)))⟩])
 .ret)
 .skip))
 (.seq
 (.reg
 [⟨(some 16),none,(.mv (.t 1))⟩,⟨(some 17),none,(.bld [(.int .i64 0),(.int .u8 0),(.int .i64 0),(.int .i64 0),(.int .i64 0)] [(0,(1,(.c (.int .i64 1)))),(1,(1,(.c (.int .u8 97))))])⟩,⟨(some 18),none,(.bld [(.int .i64 0),(.int .u8 0),(.int .i64 0),(.int .i64 0),(.int .i64 0)] [(0,(1,(.c (.int .i64 1)))),(1,(1,(.c (.int .u8 98))))])⟩,⟨(some 19),none,(.bld [(.int .i64 0),(.int .u8 0),(.int .i64 0),(.int .i64 0),(.int .i64 0)] [(0,(1,(.c (.int .i64 2)))),(2,(1,(.c (.int .i64 1)))),(3,(1,(.c (.int .i64 2))))])⟩,⟨(some 20),none,(.bld [(.int .i64 0),(.int .u8 0),(.int .i64 0),(.int .i64 0),(.int .i64 0)] [(0,(1,(.c (.int .i64 3)))),(2,(1,(.c (.int .i64 1)))),(4,(1,(.c (.int .i64 2))))])⟩,⟨(some 21),none,(.bld [(.int .i64 0),(.int .u8 0),(.int .i64 0),(.int .i64 0),(.int .i64 0)] [(0,(1,(.c (.int .i64 2)))),(2,(1,(.c (.int .i64 3)))),(3,(1,(.c (.int .i64 4))))])⟩,⟨(some 22),none,(.bsl 22 ty_api_Rule 5 5 [(.int .i64 0),(.int .u8 0),(.int .i64 0),(.int .i64 0),(.int .i64 0),(.int .i64 0),(.int .u8 0),(.int .i64 0),(.int .i64 0),(.int .i64 0),(.int .i64 0),(.int .u8 0),(.int .i64 0),(.int .i64 0),(.int .i64 0),(.int .i64 0),(.int .u8 0),(.int .i64 0),(.int .i64 0),(.int .i64 0),(.int .i64 0),(.int .u8 0),(.int .i64 0),(.int .i64 0),(.int .i64 0)] [(0,(5,(.t 17))),(5,(5,(.t 18))),(10,(5,(.t 19))),(15,(5,(.t 20))),(20,(5,(.t 21)))])⟩,⟨(some 23),none,(.call fn_P_intern_Store_Import [(.t 16),(.t 22)])⟩,⟨(some 15),none,(.mv (.t 23))⟩,⟨(some 24),none,(.ext (.t 15) 0)⟩,⟨(some 25),none,(.ext (.t 15) 1)⟩,⟨(some 2),none,(.mv (.t 24))⟩,⟨(some 3),none,(.mv (.t 25))⟩])
 (.seq
 (.reg
 [⟨(some 4),none,(.alc 4 ty_api_Letters [(.int .u64 0),(.int .u64 0),(.int .u64 0),(.int .u64 0)])⟩])
 (.seq
 (.reg
 [⟨(some 26),none,(.iaa 1 4 (.t 4) (.c (.int .i64 1)))⟩,⟨none,none,(.st 1 (.t 26) (.c (.int .u64 8589934592)))⟩])
 (.seq
 (.reg
 [⟨(some 28),none,(.mv (.t 1))⟩,⟨(some 29),none,(.lda 4 [(.int .u64),(.int .u64),(.int .u64),(.int .u64)] (.t 4))⟩,⟨(some 30),none,(.call fn_evergreenlaw33_Letters [(.t 29)])⟩,⟨(some 31),none,(.bsl 31 ty_int 1 2 [(.int .i64 0),(.int .i64 0)] [(0,(1,(.c (.int .i64 0)))),(1,(1,(.c (.int .i64 1))))])⟩,⟨(some 32),none,(.call fn_transfer_New [(.t 28),(.t 30),(.t 31),(.c (.bool false))])⟩,⟨(some 27),none,(.mv (.t 32))⟩,⟨(some 33),none,(.ext (.t 27) 0)⟩,⟨(some 34),none,(.ext (.t 27) 1)⟩,⟨(some 5),none,(.mv (.t 33))⟩,⟨(some 6),none,(.mv (.t 34))⟩])
 (.seq
 (.reg
 [⟨(some 36),none,(.mv (.t 5))⟩,⟨(some 37),none,(.mv (.t 2))⟩,⟨(some 38),none,(.call fn_P_transfer_Table_Hits [(.t 36),(.t 37),(.c (.int .i64 0))])⟩,⟨(some 35),none,(.mv (.t 38))⟩,⟨(some 39),none,(.ext (.t 35) 0)⟩,⟨(some 40),none,(.ext (.t 35) 1)⟩,⟨(some 7),none,(.mv (.t 39))⟩,⟨(some 8),none,(.mv (.t 40))⟩])
 (.seq
 (.reg
 [⟨(some 42),none,(.mv (.t 5))⟩,⟨(some 43),none,(.mv (.t 2))⟩,⟨(some 44),none,(.call fn_P_transfer_Table_Part [(.t 42),(.t 43),(.c (.int .i64 1)),(.c (.int .i64 2)),(.c (.int .i64 0))])⟩,⟨(some 41),none,(.mv (.t 44))⟩,⟨(some 45),none,(.ext (.t 41) 0)⟩,⟨(some 46),none,(.ext (.t 41) 1)⟩,⟨(some 47),none,(.ext (.t 41) 2)⟩,⟨(some 9),none,(.mv (.t 45))⟩,⟨(some 10),none,(.mv (.t 46))⟩,⟨(some 11),none,(.mv (.t 47))⟩])
 (.seq
 (.reg
 [⟨(some 48),none,(.mv (.t 3))⟩,⟨(some 49),none,(.eqn .ifc false (.t 48))⟩,⟨(some 50),none,(.mv (.t 49))⟩,⟨(some 51),(some (50,true)),(.mv (.t 6))⟩,⟨(some 52),(some (50,true)),(.eqn .ifc false (.t 51))⟩,⟨(some 53),none,(.pick (.t 50) (.t 52) (.c (.bool false)))⟩,⟨(some 54),none,(.mv (.t 53))⟩,⟨(some 55),(some (54,true)),(.mv (.t 8))⟩,⟨(some 56),(some (54,true)),(.eqn .ifc false (.t 55))⟩,⟨(some 57),none,(.pick (.t 54) (.t 56) (.c (.bool false)))⟩,⟨(some 58),none,(.mv (.t 57))⟩,⟨(some 59),(some (58,true)),(.mv (.t 11))⟩,⟨(some 60),(some (58,true)),(.eqn .ifc false (.t 59))⟩,⟨(some 61),none,(.pick (.t 58) (.t 60) (.c (.bool false)))⟩,⟨(some 62),none,(.mv (.t 61))⟩,⟨(some 63),(some (62,true)),(.mv (.t 7))⟩,⟨(some 64),(some (62,true)),(.cmp .eql .i64 (.t 63) (.c (.int .i64 3)))⟩,⟨(some 65),none,(.pick (.t 62) (.t 64) (.c (.bool false)))⟩,⟨(some 66),none,(.mv (.t 65))⟩,⟨(some 67),(some (66,true)),(.mv (.t 9))⟩,⟨(some 68),(some (66,true)),(.cmp .eql .i64 (.t 67) (.c (.int .i64 1)))⟩,⟨(some 69),none,(.pick (.t 66) (.t 68) (.c (.bool false)))⟩,⟨(some 70),none,(.mv (.t 69))⟩,⟨(some 71),(some (70,true)),(.mv (.t 10))⟩,⟨(some 72),(some (70,true)),(.cmp .eql .i64 (.t 71) (.c (.int .i64 1)))⟩,⟨(some 73),none,(.pick (.t 70) (.t 72) (.c (.bool false)))⟩,⟨(some 0),none,(.mv (.t 73))⟩])
 .ret))))))))))
def ts_evergreenlaw33_awake : List (Nat × Tr) := []
set_option maxRecDepth 100000 in
set_option maxHeartbeats 4000000 in
theorem ok_evergreenlaw33_awake : irOf Try.prog fn_evergreenlaw33_awake [] ts_evergreenlaw33_awake = some (74,[(.t 0)],ir_evergreenlaw33_awake) := by kernel_rfl
def ir_evergreenlaw33_small : C :=
 (.seq
 (.reg
 [⟨(some 1),none,(.box 1 ty_evergreenlaw33_In (.t 0))⟩,⟨(some 2),none,(.mv (.c (.bool false)))⟩])
 (.seq
 (.seq
 (.reg
 [⟨(some 5),none,(.fa 0 (.t 1))⟩,⟨(some 6),none,(.fa 2 (.t 5))⟩,⟨(some 7),none,(.ld .slc (.t 6))⟩,⟨(some 8),none,(.lens (.t 7))⟩,⟨(some 9),none,(.cmp .gtr .i64 (.t 8) (.c (.int .i64 40)))⟩,⟨(some 10),none,(.mv (.t 9))⟩,⟨(some 11),(some (10,false)),(.fa 0 (.t 1))⟩,⟨(some 12),(some (10,false)),(.lda 4 [(.int .i64),.slc,.slc,.slc] (.t 11))⟩,⟨(some 13),(some (10,false)),(.call fn_machine_Check [(.t 12)])⟩,⟨(some 14),(some (10,false)),(.eqn .ifc true (.t 13))⟩,⟨(some 15),none,(.pick (.t 10) (.c (.bool true)) (.t 14))⟩,⟨(some 16),none,(.mv (.t 15))⟩,⟨(some 17),(some (16,false)),(.fa 4 (.t 1))⟩,⟨(some 18),(some (16,false)),(.ld .slc (.t 17))⟩,⟨(some 19),(some (16,false)),(.lens (.t 18))⟩,⟨(some 20),(some (16,false)),(.fa 0 (.t 1))⟩,⟨(some 21),(some (16,false)),(.fa 2 (.t 20))⟩,⟨(some 22),(some (16,false)),(.ld .slc (.t 21))⟩,⟨(some 23),(some (16,false)),(.lens (.t 22))⟩,⟨(some 24),(some (16,false)),(.cmp .neq .i64 (.t 19) (.t 23))⟩,⟨(some 25),none,(.pick (.t 16) (.c (.bool true)) (.t 24))⟩])
 (.cond
 (.t 25)
 (.seq
 (.reg
 [⟨(some 2),none,(.mv (.c (.bool false)))⟩])
 .ret)
 .skip))
 (.seq
 (.seq
 (.reg
 [⟨(some 26),none,(.fa 4 (.t 1))⟩,⟨(some 27),none,(.ld .slc (.t 26))⟩,⟨(some 28),none,(.lens (.t 27))⟩,⟨(some 29),none,(.mv (.c (.int .i64 0)))⟩])
 (.blk
 0
 (.loop
 (.seq
 (.reg
 [⟨(some 30),none,(.cmp .lss .i64 (.t 29) (.t 28))⟩])
 (.seq
 (.cond
 (.t 30)
 .skip
 (.exit 0))
 (.seq
 (.blk
 1
 (.seq
 (.reg
 [⟨(some 31),none,(.ia 1 (.t 27) (.t 29))⟩,⟨(some 32),none,(.ld (.int .i64) (.t 31))⟩,⟨(some 4),none,(.mv (.t 32))⟩])
 (.seq
 (.reg
 [⟨(some 33),none,(.mv (.t 4))⟩,⟨(some 34),none,(.cmp .lss .i64 (.t 33) (.c (.int .i64 0)))⟩,⟨(some 35),none,(.mv (.t 34))⟩,⟨(some 36),(some (35,false)),(.mv (.t 4))⟩,⟨(some 37),(some (35,false)),(.cmp .gtr .i64 (.t 36) (.c (.int .i64 1048576)))⟩,⟨(some 38),none,(.pick (.t 35) (.c (.bool true)) (.t 37))⟩])
 (.cond
 (.t 38)
 (.seq
 (.reg
 [⟨(some 2),none,(.mv (.c (.bool false)))⟩])
 .ret)
 .skip))))
 (.reg
 [⟨(some 39),none,(.ar .add .i64 (.t 29) (.c (.int .i64 1)))⟩,⟨(some 29),none,(.mv (.t 39))⟩])))))))
 (.seq
 (.reg
 [⟨(some 2),none,(.mv (.c (.bool true)))⟩])
 .ret))))
def ts_evergreenlaw33_small : List (Nat × Tr) := []
set_option maxRecDepth 100000 in
set_option maxHeartbeats 4000000 in
theorem ok_evergreenlaw33_small : irOf Try.prog fn_evergreenlaw33_small [] ts_evergreenlaw33_small = some (40,[(.t 2)],ir_evergreenlaw33_small) := by kernel_rfl
def ir_evergreenlaw33_begun : C :=
 (.seq
 (.reg
 [⟨(some 3),none,(.box 3 ty_evergreenlaw33_In (.t 0))⟩,⟨(some 6),none,(.mv (.c (.pointer none)))⟩,⟨(some 7),none,(.alc 7 ty_evergreenref12_Store [(.slice none 0 0),(.slice none 0 0)])⟩,⟨(some 8),none,(.mv (.c (.int .i64 0)))⟩,⟨(some 9),none,(.mv (.c (.bool false)))⟩])
 (.seq
 (.reg
 [⟨(some 17),none,(.call fn_intern_New [(.c (.int .i64 1000))])⟩,⟨(some 10),none,(.mv (.t 17))⟩])
 (.seq
 (.seq
 (.reg
 [⟨(some 18),none,(.mv (.t 10))⟩,⟨(some 19),none,(.eqn .ptr false (.t 18))⟩])
 (.cond
 (.t 19)
 (.seq
 (.reg
 [⟨(some 20),none,(.bld [(.slice none 0 0),(.slice none 0 0)] [])⟩,⟨(some 6),none,(.mv (.c (.pointer none)))⟩,⟨none,none,(.st 2 (.t 7) (.t 20))⟩,⟨(some 8),none,(.mv (.c (.int .i64 0)))⟩,⟨(some 9),none,(.mv (.c (.bool false)))⟩])
 .ret)
 .skip))
 (.seq
 (.reg
 [⟨(some 22),none,(.mv (.t 10))⟩,⟨(some 23),none,(.mv (.t 1))⟩,⟨(some 24),none,(.call fn_evergreenlaw12_Build [(.t 22),(.t 23)])⟩,⟨(some 21),none,(.mv (.t 24))⟩,⟨(some 25),none,(.ext (.t 21) 0)⟩,⟨(some 26),none,(.ext (.t 21) 1)⟩,⟨(some 11),none,(.mv (.t 25))⟩,⟨(some 12),none,(.mv (.t 26))⟩])
 (.seq
 (.reg
 [⟨(some 28),none,(.mv (.t 10))⟩,⟨(some 29),none,(.fa 0 (.t 3))⟩,⟨(some 30),none,(.lda 4 [(.int .i64),.slc,.slc,.slc] (.t 29))⟩,⟨(some 31),none,(.fa 4 (.t 3))⟩,⟨(some 32),none,(.ld .slc (.t 31))⟩,⟨(some 33),none,(.fa 5 (.t 3))⟩,⟨(some 34),none,(.ld .bool (.t 33))⟩,⟨(some 35),none,(.call fn_transfer_New [(.t 28),(.t 30),(.t 32),(.t 34)])⟩,⟨(some 27),none,(.mv (.t 35))⟩,⟨(some 36),none,(.ext (.t 27) 0)⟩,⟨(some 37),none,(.ext (.t 27) 1)⟩,⟨(some 13),none,(.mv (.t 36))⟩,⟨(some 14),none,(.mv (.t 37))⟩])
 (.seq
 (.seq
 (.reg
 [⟨(some 38),none,(.mv (.t 12))⟩,⟨(some 39),none,(.not (.t 38))⟩,⟨(some 40),none,(.mv (.t 39))⟩,⟨(some 41),(some (40,false)),(.mv (.t 14))⟩,⟨(some 42),(some (40,false)),(.eqn .ifc true (.t 41))⟩,⟨(some 43),none,(.pick (.t 40) (.c (.bool true)) (.t 42))⟩,⟨(some 44),none,(.mv (.t 43))⟩,⟨(some 45),(some (44,false)),(.mv (.t 13))⟩,⟨(some 46),(some (44,false)),(.eqn .ptr false (.t 45))⟩,⟨(some 47),none,(.pick (.t 44) (.c (.bool true)) (.t 46))⟩])
 (.cond
 (.t 47)
 (.seq
 (.reg
 [⟨(some 48),none,(.bld [(.slice none 0 0),(.slice none 0 0)] [])⟩,⟨(some 6),none,(.mv (.c (.pointer none)))⟩,⟨none,none,(.st 2 (.t 7) (.t 48))⟩,⟨(some 8),none,(.mv (.c (.int .i64 0)))⟩,⟨(some 9),none,(.mv (.c (.bool false)))⟩])
 .ret)
 .skip))
 (.seq
 (.reg
 [⟨(some 50),none,(.mv (.t 1))⟩,⟨(some 51),none,(.call fn_evergreenref12_Build [(.t 50)])⟩,⟨(some 49),none,(.mv (.t 51))⟩,⟨(some 52),none,(.ext (.t 49) 0)⟩,⟨(some 53),none,(.ext (.t 49) 1)⟩,⟨(some 15),none,(.alc 15 ty_evergreenref12_Store [(.slice none 0 0),(.slice none 0 0)])⟩,⟨none,none,(.st 2 (.t 15) (.t 52))⟩,⟨(some 16),none,(.mv (.t 53))⟩])
 (.seq
 (.drb
 [⟨(some 54),none,(.mv (.t 13))⟩,⟨(some 55),none,(.lda 2 [.slc,.slc] (.t 15))⟩,⟨(some 56),none,(.mv (.t 11))⟩,⟨(some 57),none,(.mv (.t 2))⟩,⟨(some 58),none,(.mv (.t 11))⟩,⟨(some 59),none,(.lens (.t 58))⟩,⟨(some 60),none,(.call fn_evergreenref12_Pick [(.t 57),(.t 59)])⟩,⟨(some 61),none,(.ia 1 (.t 56) (.t 60))⟩,⟨(some 62),none,(.ld (.int .i64) (.t 61))⟩,⟨(some 6),none,(.mv (.t 54))⟩,⟨none,none,(.st 2 (.t 7) (.t 55))⟩,⟨(some 8),none,(.mv (.t 62))⟩,⟨(some 9),none,(.mv (.c (.bool true)))⟩]
 (.mov 0 (.take 1 (.mov 2 (.mov 3 (.mov 4 (.take 5 (.take 6 (.take 7 (.take 8 (.mov 9 (.alt 10 true (.mov 11 (.mov 12 .done)) .nil))))))))))))
 .ret))))))))
def ts_evergreenlaw33_begun : List (Nat × Tr) := [(9,(.mov 0 (.take 1 (.mov 2 (.mov 3 (.mov 4 (.take 5 (.take 6 (.take 7 (.take 8 (.mov 9 (.alt 10 true (.mov 11 (.mov 12 .done)) .nil))))))))))))]
set_option maxRecDepth 100000 in
set_option maxHeartbeats 4000000 in
theorem ok_evergreenlaw33_begun : irOf Try.prog fn_evergreenlaw33_begun [2000009] ts_evergreenlaw33_begun = some (63,[(.t 6),(.c 7 2),(.t 8),(.t 9)],ir_evergreenlaw33_begun) := by kernel_rfl
def ir_evergreenlaw33_chain : C :=
 (.seq
 (.reg
 [⟨(some 7),none,(.box 7 ty_api_Span (.t 2))⟩,⟨(some 8),none,(.box 8 ty_api_Span (.t 3))⟩,⟨(some 10),none,(.mv (.c (.int .i64 0)))⟩,⟨(some 11),none,(.mv (.c (.int .i64 0)))⟩,⟨(some 12),none,(.mv (.c (.bool false)))⟩])
 (.seq
 (.seq
 (.reg
 [⟨(some 19),none,(.mv (.t 0))⟩,⟨(some 20),none,(.call fn_P_transfer_Table_Back [(.t 19)])⟩])
 (.cond
 (.t 20)
 (.reg
 [⟨(some 21),none,(.lda 2 [(.int .i64),(.int .i64)] (.t 8))⟩,⟨(some 22),none,(.lda 2 [(.int .i64),(.int .i64)] (.t 7))⟩,⟨none,none,(.st 2 (.t 7) (.t 21))⟩,⟨none,none,(.st 2 (.t 8) (.t 22))⟩])
 .skip))
 (.seq
 (.reg
 [⟨(some 24),none,(.mv (.t 0))⟩,⟨(some 25),none,(.mv (.t 1))⟩,⟨(some 26),none,(.fa 0 (.t 7))⟩,⟨(some 27),none,(.ld (.int .i64) (.t 26))⟩,⟨(some 28),none,(.fa 1 (.t 7))⟩,⟨(some 29),none,(.ld (.int .i64) (.t 28))⟩,⟨(some 30),none,(.mv (.t 4))⟩,⟨(some 31),none,(.call fn_P_transfer_Table_Part [(.t 24),(.t 25),(.t 27),(.t 29),(.t 30)])⟩,⟨(some 23),none,(.mv (.t 31))⟩,⟨(some 32),none,(.ext (.t 23) 0)⟩,⟨(some 33),none,(.ext (.t 23) 1)⟩,⟨(some 34),none,(.ext (.t 23) 2)⟩,⟨(some 13),none,(.mv (.t 32))⟩,⟨(some 14),none,(.mv (.t 33))⟩,⟨(some 15),none,(.mv (.t 34))⟩])
 (.seq
 (.reg
 [⟨(some 36),none,(.mv (.t 0))⟩,⟨(some 37),none,(.mv (.t 1))⟩,⟨(some 38),none,(.fa 0 (.t 8))⟩,⟨(some 39),none,(.ld (.int .i64) (.t 38))⟩,⟨(some 40),none,(.fa 1 (.t 8))⟩,⟨(some 41),none,(.ld (.int .i64) (.t 40))⟩,⟨(some 42),none,(.mv (.t 13))⟩,⟨(some 43),none,(.call fn_P_transfer_Table_Part [(.t 36),(.t 37),(.t 39),(.t 41),(.t 42)])⟩,⟨(some 35),none,(.mv (.t 43))⟩,⟨(some 44),none,(.ext (.t 35) 0)⟩,⟨(some 45),none,(.ext (.t 35) 1)⟩,⟨(some 46),none,(.ext (.t 35) 2)⟩,⟨(some 16),none,(.mv (.t 44))⟩,⟨(some 17),none,(.mv (.t 45))⟩,⟨(some 18),none,(.mv (.t 46))⟩])
 (.seq
 (.drw
 [⟨(some 47),none,(.mv (.t 16))⟩,⟨(some 48),none,(.mv (.t 14))⟩,⟨(some 49),none,(.mv (.t 17))⟩,⟨(some 50),none,(.ar .add .i64 (.t 48) (.t 49))⟩,⟨(some 51),none,(.mv (.t 15))⟩,⟨(some 52),none,(.eqn .ifc false (.t 51))⟩,⟨(some 53),none,(.mv (.t 52))⟩,⟨(some 54),(some (53,true)),(.mv (.t 18))⟩,⟨(some 55),(some (53,true)),(.eqn .ifc false (.t 54))⟩,⟨(some 56),none,(.pick (.t 53) (.t 55) (.c (.bool false)))⟩,⟨(some 10),none,(.mv (.t 47))⟩,⟨(some 11),none,(.mv (.t 50))⟩,⟨(some 12),none,(.mv (.t 56))⟩]
 (.mov 0 (.mov 1 (.mov 2 (.take 3 (.mov 4 (.take 5 (.mov 6 (.mov 7 (.take 8 (.take 9 (.mov 10 (.mov 11 (.mov 12 .done))))))))))))))
 .ret)))))
def ts_evergreenlaw33_chain : List (Nat × Tr) := [(5,(.mov 0 (.mov 1 (.mov 2 (.take 3 (.mov 4 (.take 5 (.mov 6 (.mov 7 (.take 8 (.take 9 (.mov 10 (.mov 11 (.mov 12 .done))))))))))))))]
set_option maxRecDepth 100000 in
set_option maxHeartbeats 4000000 in
theorem ok_evergreenlaw33_chain : irOf Try.prog fn_evergreenlaw33_chain [] ts_evergreenlaw33_chain = some (57,[(.t 10),(.t 11),(.t 12)],ir_evergreenlaw33_chain) := by kernel_rfl
def ir_evergreenlaw33_TransferCuts : C :=
 (.seq
 (.reg
 [⟨(some 7),none,(.box 7 ty_evergreenlaw33_In (.t 0))⟩,⟨(some 14),none,(.mv (.c (.bool false)))⟩])
 (.seq
 (.seq
 (.reg
 [⟨(some 31),none,(.call fn_evergreenlaw33_awake [])⟩,⟨(some 32),none,(.not (.t 31))⟩,⟨(some 33),none,(.mv (.t 32))⟩,⟨(some 34),(some (33,false)),(.mv (.t 1))⟩,⟨(some 35),(some (33,false)),(.lens (.t 34))⟩,⟨(some 36),(some (33,false)),(.cmp .gtr .i64 (.t 35) (.c (.int .i64 30)))⟩,⟨(some 37),none,(.pick (.t 33) (.c (.bool true)) (.t 36))⟩,⟨(some 38),none,(.mv (.t 37))⟩,⟨(some 39),(some (38,false)),(.lda 6 [(.int .i64),.slc,.slc,.slc,.slc,.bool] (.t 7))⟩,⟨(some 40),(some (38,false)),(.call fn_evergreenlaw33_small [(.t 39)])⟩,⟨(some 41),(some (38,false)),(.not (.t 40))⟩,⟨(some 42),none,(.pick (.t 38) (.c (.bool true)) (.t 41))⟩])
 (.cond
 (.t 42)
 (.seq
 (.reg
 [⟨(some 43),none,(.call fn_evergreenlaw33_awake [])⟩,⟨(some 14),none,(.mv (.t 43))⟩])
 .ret)
 .skip))
 (.seq
 (.reg
 [⟨(some 45),none,(.lda 6 [(.int .i64),.slc,.slc,.slc,.slc,.bool] (.t 7))⟩,⟨(some 46),none,(.mv (.t 1))⟩,⟨(some 47),none,(.mv (.t 2))⟩,⟨(some 48),none,(.call fn_evergreenlaw33_begun [(.t 45),(.t 46),(.t 47)])⟩,⟨(some 44),none,(.mv (.t 48))⟩,⟨(some 49),none,(.ext (.t 44) 0)⟩,⟨(some 50),none,(.ext (.t 44) 1)⟩,⟨(some 51),none,(.ext (.t 44) 2)⟩,⟨(some 52),none,(.ext (.t 44) 3)⟩,⟨(some 16),none,(.alc 16 ty_evergreenref12_Store [(.slice none 0 0),(.slice none 0 0)])⟩,⟨(some 15),none,(.mv (.t 49))⟩,⟨none,none,(.st 2 (.t 16) (.t 50))⟩,⟨(some 17),none,(.mv (.t 51))⟩,⟨(some 18),none,(.mv (.t 52))⟩])
 (.seq
 (.seq
 (.reg
 [⟨(some 53),none,(.mv (.t 18))⟩,⟨(some 54),none,(.not (.t 53))⟩])
 (.cond
 (.t 54)
 (.seq
 (.reg
 [⟨(some 14),none,(.mv (.c (.bool false)))⟩])
 .ret)
 .skip))
 (.seq
 (.reg
 [⟨(some 55),none,(.lda 2 [.slc,.slc] (.t 16))⟩,⟨(some 56),none,(.mv (.t 17))⟩,⟨(some 57),none,(.call fn_evergreenref12_Length [(.t 55),(.t 56)])⟩,⟨(some 19),none,(.mv (.t 57))⟩])
 (.seq
 (.reg
 [⟨(some 58),none,(.mv (.t 3))⟩,⟨(some 59),none,(.cv .u64 (.t 58))⟩,⟨(some 60),none,(.mv (.t 19))⟩,⟨(some 61),none,(.ar .add .i64 (.t 60) (.c (.int .i64 1)))⟩,⟨(some 62),none,(.cv .u64 (.t 61))⟩,⟨(some 63),none,(.dv true .u64 (.t 59) (.t 62))⟩,⟨(some 64),none,(.cv .i64 (.t 63))⟩,⟨(some 3),none,(.mv (.t 64))⟩])
 (.seq
 (.reg
 [⟨(some 65),none,(.mv (.t 4))⟩,⟨(some 66),none,(.cv .u64 (.t 65))⟩,⟨(some 67),none,(.mv (.t 19))⟩,⟨(some 68),none,(.mv (.t 3))⟩,⟨(some 69),none,(.ar .sub .i64 (.t 67) (.t 68))⟩,⟨(some 70),none,(.ar .add .i64 (.t 69) (.c (.int .i64 1)))⟩,⟨(some 71),none,(.cv .u64 (.t 70))⟩,⟨(some 72),none,(.dv true .u64 (.t 66) (.t 71))⟩,⟨(some 73),none,(.cv .i64 (.t 72))⟩,⟨(some 4),none,(.mv (.t 73))⟩])
 (.seq
 (.reg
 [⟨(some 74),none,(.mv (.t 5))⟩,⟨(some 75),none,(.cv .u64 (.t 74))⟩,⟨(some 76),none,(.mv (.t 4))⟩,⟨(some 77),none,(.ar .add .i64 (.t 76) (.c (.int .i64 1)))⟩,⟨(some 78),none,(.cv .u64 (.t 77))⟩,⟨(some 79),none,(.dv true .u64 (.t 75) (.t 78))⟩,⟨(some 80),none,(.cv .i64 (.t 79))⟩,⟨(some 5),none,(.mv (.t 80))⟩])
 (.seq
 (.reg
 [⟨(some 81),none,(.mv (.t 6))⟩,⟨(some 82),none,(.cv .u64 (.t 81))⟩,⟨(some 83),none,(.fa 0 (.t 7))⟩,⟨(some 84),none,(.fa 2 (.t 83))⟩,⟨(some 85),none,(.ld .slc (.t 84))⟩,⟨(some 86),none,(.lens (.t 85))⟩,⟨(some 87),none,(.cv .u64 (.t 86))⟩,⟨(some 88),none,(.dv true .u64 (.t 82) (.t 87))⟩,⟨(some 89),none,(.cv .i64 (.t 88))⟩,⟨(some 6),none,(.mv (.t 89))⟩])
 (.seq
 (.reg
 [⟨(some 91),none,(.mv (.t 15))⟩,⟨(some 92),none,(.mv (.t 17))⟩,⟨(some 93),none,(.mv (.t 3))⟩,⟨(some 94),none,(.mv (.t 4))⟩,⟨(some 95),none,(.mv (.t 6))⟩,⟨(some 96),none,(.call fn_P_transfer_Table_Part [(.t 91),(.t 92),(.t 93),(.t 94),(.t 95)])⟩,⟨(some 90),none,(.mv (.t 96))⟩,⟨(some 97),none,(.ext (.t 90) 0)⟩,⟨(some 98),none,(.ext (.t 90) 1)⟩,⟨(some 99),none,(.ext (.t 90) 2)⟩,⟨(some 20),none,(.mv (.t 97))⟩,⟨(some 21),none,(.mv (.t 98))⟩,⟨(some 22),none,(.mv (.t 99))⟩])
 (.seq
 (.reg
 [⟨(some 101),none,(.mv (.t 15))⟩,⟨(some 102),none,(.mv (.t 17))⟩,⟨(some 103),none,(.mv (.t 3))⟩,⟨(some 104),none,(.mv (.t 5))⟩,⟨(some 105),none,(.bld [(.int .i64 0),(.int .i64 0)] [(0,(1,(.t 103))),(1,(1,(.t 104)))])⟩,⟨(some 106),none,(.mv (.t 3))⟩,⟨(some 107),none,(.mv (.t 5))⟩,⟨(some 108),none,(.ar .add .i64 (.t 106) (.t 107))⟩,⟨(some 109),none,(.mv (.t 4))⟩,⟨(some 110),none,(.mv (.t 5))⟩,⟨(some 111),none,(.ar .sub .i64 (.t 109) (.t 110))⟩,⟨(some 112),none,(.bld [(.int .i64 0),(.int .i64 0)] [(0,(1,(.t 108))),(1,(1,(.t 111)))])⟩,⟨(some 113),none,(.mv (.t 6))⟩,⟨(some 114),none,(.call fn_evergreenlaw33_chain [(.t 101),(.t 102),(.t 105),(.t 112),(.t 113)])⟩,⟨(some 100),none,(.mv (.t 114))⟩,⟨(some 115),none,(.ext (.t 100) 0)⟩,⟨(some 116),none,(.ext (.t 100) 1)⟩,⟨(some 117),none,(.ext (.t 100) 2)⟩,⟨(some 23),none,(.mv (.t 115))⟩,⟨(some 24),none,(.mv (.t 116))⟩,⟨(some 18),none,(.mv (.t 117))⟩])
 (.seq
 (.seq
 (.reg
 [⟨(some 118),none,(.mv (.t 18))⟩,⟨(some 119),none,(.not (.t 118))⟩,⟨(some 120),none,(.mv (.t 119))⟩,⟨(some 121),(some (120,false)),(.mv (.t 24))⟩,⟨(some 122),(some (120,false)),(.cmp .gtr .i64 (.t 121) (.c (.int .i64 1152921504606846976)))⟩,⟨(some 123),none,(.pick (.t 120) (.c (.bool true)) (.t 122))⟩])
 (.cond
 (.t 123)
 (.seq
 (.reg
 [⟨(some 124),none,(.mv (.t 22))⟩,⟨(some 125),none,(.call fn_evergreenbase_Is [(.t 124),(.c (.int .i64 2))])⟩,⟨(some 126),none,(.mv (.t 125))⟩,⟨(some 127),(some (126,true)),(.mv (.t 20))⟩,⟨(some 128),(some (126,true)),(.cmp .eql .i64 (.t 127) (.c (.int .i64 0)))⟩,⟨(some 129),none,(.pick (.t 126) (.t 128) (.c (.bool false)))⟩,⟨(some 130),none,(.mv (.t 129))⟩,⟨(some 131),(some (130,true)),(.mv (.t 21))⟩,⟨(some 132),(some (130,true)),(.cmp .eql .i64 (.t 131) (.c (.int .i64 0)))⟩,⟨(some 133),none,(.pick (.t 130) (.t 132) (.c (.bool false)))⟩,⟨(some 14),none,(.mv (.t 133))⟩])
 .ret)
 .skip))
 (.seq
 (.seq
 (.reg
 [⟨(some 134),none,(.mv (.t 22))⟩,⟨(some 135),none,(.eqn .ifc true (.t 134))⟩,⟨(some 136),none,(.mv (.t 135))⟩,⟨(some 137),(some (136,false)),(.mv (.t 20))⟩,⟨(some 138),(some (136,false)),(.mv (.t 23))⟩,⟨(some 139),(some (136,false)),(.cmp .neq .i64 (.t 137) (.t 138))⟩,⟨(some 140),none,(.pick (.t 136) (.c (.bool true)) (.t 139))⟩,⟨(some 141),none,(.mv (.t 140))⟩,⟨(some 142),(some (141,false)),(.mv (.t 21))⟩,⟨(some 143),(some (141,false)),(.mv (.t 24))⟩,⟨(some 144),(some (141,false)),(.cmp .neq .i64 (.t 142) (.t 143))⟩,⟨(some 145),none,(.pick (.t 141) (.c (.bool true)) (.t 144))⟩])
 (.cond
 (.t 145)
 (.seq
 (.reg
 [⟨(some 14),none,(.mv (.c (.bool false)))⟩])
 .ret)
 .skip))
 (.seq
 (.reg
 [⟨(some 147),none,(.mv (.t 15))⟩,⟨(some 148),none,(.mv (.t 17))⟩,⟨(some 149),none,(.mv (.t 6))⟩,⟨(some 150),none,(.call fn_P_transfer_Table_End [(.t 147),(.t 148),(.t 149)])⟩,⟨(some 146),none,(.mv (.t 150))⟩,⟨(some 151),none,(.ext (.t 146) 0)⟩,⟨(some 152),none,(.ext (.t 146) 1)⟩,⟨(some 25),none,(.mv (.t 151))⟩,⟨(some 22),none,(.mv (.t 152))⟩])
 (.seq
 (.reg
 [⟨(some 154),none,(.mv (.t 15))⟩,⟨(some 155),none,(.mv (.t 17))⟩,⟨(some 156),none,(.mv (.t 6))⟩,⟨(some 157),none,(.call fn_P_transfer_Table_Hits [(.t 154),(.t 155),(.t 156)])⟩,⟨(some 153),none,(.mv (.t 157))⟩,⟨(some 158),none,(.ext (.t 153) 0)⟩,⟨(some 159),none,(.ext (.t 153) 1)⟩,⟨(some 26),none,(.mv (.t 158))⟩,⟨(some 27),none,(.mv (.t 159))⟩])
 (.seq
 (.reg
 [⟨(some 161),none,(.mv (.t 15))⟩,⟨(some 162),none,(.mv (.t 17))⟩,⟨(some 163),none,(.mv (.t 19))⟩,⟨(some 164),none,(.mv (.t 6))⟩,⟨(some 165),none,(.call fn_P_transfer_Table_Part [(.t 161),(.t 162),(.c (.int .i64 0)),(.t 163),(.t 164)])⟩,⟨(some 160),none,(.mv (.t 165))⟩,⟨(some 166),none,(.ext (.t 160) 0)⟩,⟨(some 167),none,(.ext (.t 160) 1)⟩,⟨(some 168),none,(.ext (.t 160) 2)⟩,⟨(some 28),none,(.mv (.t 166))⟩,⟨(some 29),none,(.mv (.t 167))⟩,⟨(some 30),none,(.mv (.t 168))⟩])
 (.seq
 (.seq
 (.reg
 [⟨(some 169),none,(.mv (.t 27))⟩,⟨(some 170),none,(.call fn_evergreenbase_Is [(.t 169),(.c (.int .i64 2))])⟩])
 (.cond
 (.t 170)
 (.seq
 (.reg
 [⟨(some 171),none,(.mv (.t 22))⟩,⟨(some 172),none,(.eqn .ifc false (.t 171))⟩,⟨(some 173),none,(.mv (.t 172))⟩,⟨(some 174),(some (173,true)),(.mv (.t 26))⟩,⟨(some 175),(some (173,true)),(.cmp .eql .i64 (.t 174) (.c (.int .i64 0)))⟩,⟨(some 176),none,(.pick (.t 173) (.t 175) (.c (.bool false)))⟩,⟨(some 177),none,(.mv (.t 176))⟩,⟨(some 178),(some (177,true)),(.mv (.t 30))⟩,⟨(some 179),(some (177,true)),(.call fn_evergreenbase_Is [(.t 178),(.c (.int .i64 2))])⟩,⟨(some 180),none,(.pick (.t 177) (.t 179) (.c (.bool false)))⟩,⟨(some 14),none,(.mv (.t 180))⟩])
 .ret)
 .skip))
 (.seq
 (.reg
 [⟨(some 181),none,(.mv (.t 22))⟩,⟨(some 182),none,(.eqn .ifc false (.t 181))⟩,⟨(some 183),none,(.mv (.t 182))⟩,⟨(some 184),(some (183,true)),(.mv (.t 27))⟩,⟨(some 185),(some (183,true)),(.eqn .ifc false (.t 184))⟩,⟨(some 186),none,(.pick (.t 183) (.t 185) (.c (.bool false)))⟩,⟨(some 187),none,(.mv (.t 186))⟩,⟨(some 188),(some (187,true)),(.mv (.t 30))⟩,⟨(some 189),(some (187,true)),(.eqn .ifc false (.t 188))⟩,⟨(some 190),none,(.pick (.t 187) (.t 189) (.c (.bool false)))⟩,⟨(some 191),none,(.mv (.t 190))⟩,⟨(some 192),(some (191,true)),(.mv (.t 25))⟩,⟨(some 193),(some (191,true)),(.mv (.t 28))⟩,⟨(some 194),(some (191,true)),(.cmp .eql .i64 (.t 192) (.t 193))⟩,⟨(some 195),none,(.pick (.t 191) (.t 194) (.c (.bool false)))⟩,⟨(some 196),none,(.mv (.t 195))⟩,⟨(some 197),(some (196,true)),(.mv (.t 26))⟩,⟨(some 198),(some (196,true)),(.mv (.t 29))⟩,⟨(some 199),(some (196,true)),(.cmp .eql .i64 (.t 197) (.t 198))⟩,⟨(some 200),none,(.pick (.t 196) (.t 199) (.c (.bool false)))⟩,⟨(some 14),none,(.mv (.t 200))⟩])
 .ret))))))))))))))))))
def ts_evergreenlaw33_TransferCuts : List (Nat × Tr) := []
set_option maxRecDepth 100000 in
set_option maxHeartbeats 4000000 in
theorem ok_evergreenlaw33_TransferCuts : irOf Try.prog fn_evergreenlaw33_TransferCuts [] ts_evergreenlaw33_TransferCuts = some (201,[(.t 14)],ir_evergreenlaw33_TransferCuts) := by kernel_rfl
end Go.Proofs.Ytoocnmfodhnpbaa
