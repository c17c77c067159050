/- The small forms of functions of the program, with the equations that say so: written by a program (irtool.py). No condition. -/
import Derived.Test.YtoocnmfodhnpbaaK7
import Derived.Test.YtoocnmfodhnpbaaProg
namespace Go.Proofs.Ytoocnmfodhnpbaa
open Go.EG
abbrev fn_evergreenlaw33_TransferKeeps : Nat := 8
abbrev fn_evergreenlaw33_awake : Nat := 10
abbrev fn_evergreenlaw33_small : Nat := 11
abbrev fn_evergreenlaw33_begun : Nat := 12
abbrev fn_collect_Reach : Nat := 36
abbrev fn_collect_Reach_1 : Nat := 63
abbrev fn_collect_known : Nat := 64
abbrev ty_evergreenlaw33_In : Nat := 28
abbrev ty_Sl_api_ID : Nat := 79
abbrev ty_map_api_ID_bool : Nat := 142
def ir_collect_known : C :=
 (.seq
 (.reg
 [⟨(some 4),none,(.mv (.c (.bool false)))⟩])
 (.seq
 (.reg
 [⟨(some 5),none,(.mv (.t 1))⟩,⟨(some 6),none,(.cmp .geq .i64 (.t 5) (.c (.int .i64 0)))⟩,⟨(some 7),none,(.mv (.t 6))⟩,⟨(some 8),(some (7,true)),(.mv (.t 1))⟩,⟨(some 9),(some (7,true)),(.mv (.t 0))⟩,⟨(some 10),(some (7,true)),(.call fn_P_intern_Store_Len [(.t 9)])⟩,⟨(some 11),(some (7,true)),(.cmp .leq .i64 (.t 8) (.t 10))⟩,⟨(some 12),none,(.pick (.t 7) (.t 11) (.c (.bool false)))⟩,⟨(some 4),none,(.mv (.t 12))⟩])
 .ret))
def ts_collect_known : List (Nat × Tr) := []
set_option maxRecDepth 100000 in
set_option maxHeartbeats 4000000 in
theorem ok_collect_known : irOf Try.prog fn_collect_known [] ts_collect_known = some (13,[(.t 4)],ir_collect_known) := by kernel_rfl
def ir_collect_Reach : C :=
 (.seq
 (.reg
 [⟨(some 4),none,(.mv (.c (.slice none 0 0)))⟩,⟨(some 5),none,(.mv (.c .nilIface))⟩])
 (.seq
 (.seq
 (.reg
 [⟨(some 16),none,(.mv (.t 0))⟩,⟨(some 17),none,(.eqn .ptr false (.t 16))⟩])
 (.cond
 (.t 17)
 (.seq
 (.reg
 [⟨(some 18),none,(.mki ty_api_Errno (.c (.int .i64 5)))⟩,⟨(some 4),none,(.mv (.c (.slice none 0 0)))⟩,⟨(some 5),none,(.mv (.t 18))⟩])
 .ret)
 .skip))
 (.seq
 (.reg
 [⟨(some 6),none,(.alc 6 ty_Sl_api_ID [(.slice none 0 0)])⟩])
 (.seq
 (.reg
 [⟨(some 19),none,(.mkm 19 (.int .i64) none)⟩,⟨none,none,(.mup (.int .i64) (.t 19) (.c (.int .i64 0)) (.c (.bool true)))⟩,⟨(some 20),none,(.mv (.t 19))⟩,⟨(some 7),none,(.alc 7 ty_map_api_ID_bool [(.map none)])⟩,⟨none,none,(.st 1 (.t 7) (.t 20))⟩])
 (.seq
 (.reg
 [⟨(some 21),none,(.mkf (.func 63) [] [(.t 7),(.t 6)])⟩,⟨(some 8),none,(.mv (.t 21))⟩])
 (.seq
 (.seq
 (.reg
 [⟨(some 22),none,(.mv (.t 1))⟩,⟨(some 23),none,(.lens (.t 22))⟩,⟨(some 24),none,(.mv (.c (.int .i64 0)))⟩])
 (.blk
 0
 (.loop
 (.seq
 (.reg
 [⟨(some 25),none,(.cmp .lss .i64 (.t 24) (.t 23))⟩])
 (.seq
 (.cond
 (.t 25)
 .skip
 (.exit 0))
 (.seq
 (.blk
 1
 (.seq
 (.reg
 [⟨(some 26),none,(.ia 1 (.t 22) (.t 24))⟩,⟨(some 27),none,(.ld (.int .i64) (.t 26))⟩,⟨(some 10),none,(.mv (.t 27))⟩])
 (.seq
 (.seq
 (.reg
 [⟨(some 28),none,(.mv (.t 0))⟩,⟨(some 29),none,(.mv (.t 10))⟩,⟨(some 30),none,(.call fn_collect_known [(.t 28),(.t 29)])⟩,⟨(some 31),none,(.not (.t 30))⟩])
 (.cond
 (.t 31)
 (.seq
 (.reg
 [⟨(some 32),none,(.mki ty_api_Errno (.c (.int .i64 1)))⟩,⟨(some 4),none,(.mv (.c (.slice none 0 0)))⟩,⟨(some 5),none,(.mv (.t 32))⟩])
 .ret)
 .skip))
 (.reg
 [⟨(some 33),none,(.mv (.t 8))⟩,⟨(some 34),none,(.mv (.t 10))⟩,⟨(some 35),none,(.cald (.t 33) [(.t 34)])⟩]))))
 (.reg
 [⟨(some 36),none,(.ar .add .i64 (.t 24) (.c (.int .i64 1)))⟩,⟨(some 24),none,(.mv (.t 36))⟩])))))))
 (.seq
 (.seq
 (.reg
 [⟨(some 11),none,(.mv (.c (.int .i64 0)))⟩])
 (.blk
 2
 (.loop
 (.seq
 (.seq
 (.reg
 [⟨(some 37),none,(.mv (.t 11))⟩,⟨(some 38),none,(.ld .slc (.t 6))⟩,⟨(some 39),none,(.lens (.t 38))⟩,⟨(some 40),none,(.cmp .lss .i64 (.t 37) (.t 39))⟩])
 (.cond
 (.t 40)
 .skip
 (.exit 2)))
 (.seq
 (.blk
 3
 (.seq
 (.reg
 [⟨(some 44),none,(.mv (.t 0))⟩,⟨(some 45),none,(.ld .slc (.t 6))⟩,⟨(some 46),none,(.mv (.t 11))⟩,⟨(some 47),none,(.ia 1 (.t 45) (.t 46))⟩,⟨(some 48),none,(.ld (.int .i64) (.t 47))⟩,⟨(some 49),none,(.call fn_P_intern_Store_Rule [(.t 44),(.t 48)])⟩,⟨(some 43),none,(.mv (.t 49))⟩,⟨(some 50),none,(.ext (.t 43) 0)⟩,⟨(some 51),none,(.ext (.t 43) 1)⟩,⟨(some 12),none,(.alc 12 ty_api_Rule [(.int .i64 0),(.int .u8 0),(.int .i64 0),(.int .i64 0),(.int .i64 0)])⟩,⟨none,none,(.st 5 (.t 12) (.t 50))⟩,⟨(some 13),none,(.mv (.t 51))⟩])
 (.seq
 (.seq
 (.reg
 [⟨(some 52),none,(.mv (.t 13))⟩,⟨(some 53),none,(.eqn .ifc true (.t 52))⟩])
 (.cond
 (.t 53)
 (.seq
 (.reg
 [⟨(some 54),none,(.mv (.t 13))⟩,⟨(some 4),none,(.mv (.c (.slice none 0 0)))⟩,⟨(some 5),none,(.mv (.t 54))⟩])
 .ret)
 .skip))
 (.seq
 (.reg
 [⟨(some 55),none,(.lda 5 [(.int .i64),(.int .u8),(.int .i64),(.int .i64),(.int .i64)] (.t 12))⟩,⟨(some 56),none,(.call fn_rule_Refs [(.t 55)])⟩,⟨(some 57),none,(.lens (.t 56))⟩,⟨(some 58),none,(.mv (.c (.int .i64 0)))⟩])
 (.blk
 4
 (.loop
 (.seq
 (.reg
 [⟨(some 59),none,(.cmp .lss .i64 (.t 58) (.t 57))⟩])
 (.seq
 (.cond
 (.t 59)
 .skip
 (.exit 4))
 (.seq
 (.blk
 5
 (.seq
 (.reg
 [⟨(some 60),none,(.ia 1 (.t 56) (.t 58))⟩,⟨(some 61),none,(.ld (.int .i64) (.t 60))⟩,⟨(some 15),none,(.mv (.t 61))⟩])
 (.reg
 [⟨(some 62),none,(.mv (.t 8))⟩,⟨(some 63),none,(.mv (.t 15))⟩,⟨(some 64),none,(.cald (.t 62) [(.t 63)])⟩])))
 (.reg
 [⟨(some 65),none,(.ar .add .i64 (.t 58) (.c (.int .i64 1)))⟩,⟨(some 58),none,(.mv (.t 65))⟩]))))))))))
 (.reg
 [⟨(some 41),none,(.mv (.t 11))⟩,⟨(some 42),none,(.ar .add .i64 (.t 41) (.c (.int .i64 1)))⟩,⟨(some 11),none,(.mv (.t 42))⟩]))))))
 (.seq
 (.reg
 [⟨(some 66),none,(.ld .slc (.t 6))⟩,⟨(some 67),none,(.call fn_slices_Sort_Sl_api_ID_api_ID [(.t 66)])⟩])
 (.seq
 (.reg
 [⟨(some 68),none,(.ld .slc (.t 6))⟩,⟨(some 4),none,(.mv (.t 68))⟩,⟨(some 5),none,(.mv (.c .nilIface))⟩])
 .ret)))))))))
def ts_collect_Reach : List (Nat × Tr) := []
set_option maxRecDepth 100000 in
set_option maxHeartbeats 4000000 in
theorem ok_collect_Reach : irOf Try.prog fn_collect_Reach [] ts_collect_Reach = some (69,[(.t 4),(.t 5)],ir_collect_Reach) := by kernel_rfl
def ir_collect_Reach_1 : C :=
 (.seq
 (.reg
 [⟨(some 4),none,(.ld .map (.t 1))⟩,⟨(some 5),none,(.mv (.t 0))⟩,⟨(some 6),none,(.lku (.int .i64) false (.bool false) (.t 4) (.t 5))⟩,⟨(some 7),none,(.not (.t 6))⟩])
 (.cond
 (.t 7)
 (.seq
 (.reg
 [⟨(some 8),none,(.ld .map (.t 1))⟩,⟨(some 9),none,(.mv (.t 0))⟩,⟨none,none,(.mup (.int .i64) (.t 8) (.t 9) (.c (.bool true)))⟩])
 (.reg
 [⟨(some 10),none,(.ld .slc (.t 2))⟩,⟨(some 11),none,(.mv (.t 0))⟩,⟨(some 12),none,(.bsl 12 ty_api_ID 1 1 [(.int .i64 0)] [(0,(1,(.t 11)))])⟩,⟨(some 13),none,(.app 13 ty_api_ID 1 8 (.t 10) (.t 12))⟩,⟨none,none,(.st 1 (.t 2) (.t 13))⟩]))
 .skip))
def ts_collect_Reach_1 : List (Nat × Tr) := []
set_option maxRecDepth 100000 in
set_option maxHeartbeats 4000000 in
theorem ok_collect_Reach_1 : irOf Try.prog fn_collect_Reach_1 [] ts_collect_Reach_1 = some (14,[],ir_collect_Reach_1) := by kernel_rfl
def ir_evergreenlaw33_awake : C :=
 (.seq
 (.reg
 [⟨(some 0),none,(.mv (.c (.bool false)))⟩])
 (.seq
 (.reg
 [⟨(some 12),none,(.call fn_intern_New [(.c (.int .i64 10))])⟩,⟨(some 1),none,(.mv (.t 12))⟩])
 (.seq
 (.seq
 (.reg
 [⟨(some 13),none,(.mv (.t 1))⟩,⟨(some 14),none,(.eqn .ptr false (.t 13))⟩])
 (.cond
 (.t 14)
 (.seq
 (.reg
 [⟨(some 0),none,(.mv (.c (.bool false)))⟩])
 .ret)
 .skip))
 (.seq
 (.reg
 [⟨(some 16),none,(.mv (.t 1))⟩,⟨(some 17),none,(.bld [(.int .i64 0),(.int .u8 0),(.int .i64 0),(.int .i64 0),(.int .i64 0)] [(0,(1,(.c (.int .i64 1)))),(1,(1,(.c (.int .u8 97))))])⟩,⟨(some 18),none,(.bld [(.int .i64 0),(.int .u8 0),(.int .i64 0),(.int .i64 0),(.int .i64 0)] [(0,(1,(.c (.int .i64 1)))),(1,(1,(.c (.int .u8 98))))])⟩,⟨(some 19),none,(.bld [(.int .i64 0),(.int .u8 0),(.int .i64 0),(.int .i64 0),(.int .i64 0)] [(0,(1,(.c (.int .i64 2)))),(2,(1,(.c (.int .i64 1)))),(3,(1,(.c (.int .i64 2))))])⟩,⟨(some 20),none,(.bld [(.int .i64 0),(.int .u8 0),(.int .i64 0),(.int .i64 0),(.int .i64 0)] [(0,(1,(.c (.int .i64 3)))),(2,(1,(.c (.int .i64 1)))),(4,(1,(.c (.int .i64 2))))])⟩,⟨(some 21),none,(.bld [(.int .i64 0),(.int .u8 0),(.int .i64 0),(.int .i64 0),(.int .i64 0)] [(0,(1,(.c (.int .i64 2)))),(2,(1,(.c (.int .i64 3)))),(3,(1,(.c (.int .i64 4))))])⟩,⟨(some 22),none,(.bsl 22 ty_api_Rule 5 5 [(.int .i64 0),(.int .u8 0),(.int .i64 0),(.int .i64 0),(.int .i64 0),(.int .i64 0),(.int .u8 0),(.int .i64 0),(.int .i64 0),(.int .i64 0),(.int .i64 0),(.int .u8 0),(.int .i64 0),(.int .i64 0),(.int .i64 0),(.int .i64 0),(.int .u8 0),(.int .i64 0),(.int .i64 0),(.int .i64 0),(.int .i64 0),(.int .u8 0),(.int .i64 0),(.int .i64 0),(.int .i64 0)] [(0,(5,(.t 17))),(5,(5,(.t 18))),(10,(5,(.t 19))),(15,(5,(.t 20))),(20,(5,(.t 21)))])⟩,⟨(some 23),none,(.call fn_P_intern_Store_Import [(.t 16),(.t 22)])⟩,⟨(some 15),none,(.mv (.t 23))⟩,⟨(some 24),none,(.ext (.t 15) 0)⟩,⟨(some 25),none,(.ext (.t 15) 1)⟩,⟨(some 2),none,(.mv (.t 24))⟩,⟨(some 3),none,(.mv (.t 25))⟩])
 (.seq
 (.reg
 [⟨(some 4),none,(.alc 4 ty_api_Letters [(.int .u64 0),(.int .u64 0),(.int .u64 0),(.int .u64 0)])⟩])
 (.seq
 (.reg
 [⟨(some 26),none,(.iaa 1 4 (.t 4) (.c (.int .i64 1)))⟩,⟨none,none,(.st 1 (.t 26) (.c (.int .u64 8589934592)))⟩])
 (.seq
 (.reg
 [⟨(some 28),none,(.mv (.t 1))⟩,⟨(some 29),none,(.lda 4 [(.int .u64),(.int .u64),(.int .u64),(.int .u64)] (.t 4))⟩,⟨(some 30),none,(.call fn_evergreenlaw33_Letters [(.t 29)])⟩,⟨(some 31),none,(.bsl 31 ty_int 1 2 [(.int .i64 0),(.int .i64 0)] [(0,(1,(.c (.int .i64 0)))),(1,(1,(.c (.int .i64 1))))])⟩,⟨(some 32),none,(.call fn_transfer_New [(.t 28),(.t 30),(.t 31),(.c (.bool false))])⟩,⟨(some 27),none,(.mv (.t 32))⟩,⟨(some 33),none,(.ext (.t 27) 0)⟩,⟨(some 34),none,(.ext (.t 27) 1)⟩,⟨(some 5),none,(.mv (.t 33))⟩,⟨(some 6),none,(.mv (.t 34))⟩])
 (.seq
 (.reg
 [⟨(some 36),none,(.mv (.t 5))⟩,⟨(some 37),none,(.mv (.t 2))⟩,⟨(some 38),none,(.call fn_P_transfer_Table_Hits [(.t 36),(.t 37),(.c (.int .i64 0))])⟩,⟨(some 35),none,(.mv (.t 38))⟩,⟨(some 39),none,(.ext (.t 35) 0)⟩,⟨(some 40),none,(.ext (.t 35) 1)⟩,⟨(some 7),none,(.mv (.t 39))⟩,⟨(some 8),none,(.mv (.t 40))⟩])
 (.seq
 (.reg
 [⟨(some 42),none,(.mv (.t 5))⟩,⟨(some 43),none,(.mv (.t 2))⟩,⟨(some 44),none,(.call fn_P_transfer_Table_Part [(.t 42),(.t 43),(.c (.int .i64 1)),(.c (.int .i64 2)),(.c (.int .i64 0))])⟩,⟨(some 41),none,(.mv (.t 44))⟩,⟨(some 45),none,(.ext (.t 41) 0)⟩,⟨(some 46),none,(.ext (.t 41) 1)⟩,⟨(some 47),none,(.ext (.t 41) 2)⟩,⟨(some 9),none,(.mv (.t 45))⟩,⟨(some 10),none,(.mv (.t 46))⟩,⟨(some 11),none,(.mv (.t 47))⟩])
 (.seq
 (.reg
 [⟨(some 48),none,(.mv (.t 3))⟩,⟨(some 49),none,(.eqn .ifc false (.t 48))⟩,⟨(some 50),none,(.mv (.t 49))⟩,⟨(some 51),(some (50,true)),(.mv (.t 6))⟩,⟨(some 52),(some (50,true)),(.eqn .ifc false (.t 51))⟩,⟨(some 53),none,(.pick (.t 50) (.t 52) (.c (.bool false)))⟩,⟨(some 54),none,(.mv (.t 53))⟩,⟨(some 55),(some (54,true)),(.mv (.t 8))⟩,⟨(some 56),(some (54,true)),(.eqn .ifc false (.t 55))⟩,⟨(some 57),none,(.pick (.t 54) (.t 56) (.c (.bool false)))⟩,⟨(some 58),none,(.mv (.t 57))⟩,⟨(some 59),(some (58,true)),(.mv (.t 11))⟩,⟨(some 60),(some (58,true)),(.eqn .ifc false (.t 59))⟩,⟨(some 61),none,(.pick (.t 58) (.t 60) (.c (.bool false)))⟩,⟨(some 62),none,(.mv (.t 61))⟩,⟨(some 63),(some (62,true)),(.mv (.t 7))⟩,⟨(some 64),(some (62,true)),(.cmp .eql .i64 (.t 63) (.c (.int .i64 3)))⟩,⟨(some 65),none,(.pick (.t 62) (.t 64) (.c (.bool false)))⟩,⟨(some 66),none,(.mv (.t 65))⟩,⟨(some 67),(some (66,true)),(.mv (.t 9))⟩,⟨(some 68),(some (66,true)),(.cmp .eql .i64 (.t 67) (.c (.int .i64 1)))⟩,⟨(some 69),none,(.pick (.t 66) (.t 68) (.c (.bool false)))⟩,⟨(some 70),none,(.mv (.t 69))⟩,⟨(some 71),(some (70,true)),(.mv (.t 10))⟩,⟨(some 72),(some (70,true)),(.cmp .eql .i64 (.t 71) (.c (.int .i64 1)))⟩,⟨(some 73),none,(.pick (.t 70) (.t 72) (.c (.bool false)))⟩,⟨(some 0),none,(.mv (.t 73))⟩])
 .ret))))))))))
def ts_evergreenlaw33_awake : List (Nat × Tr) := []
set_option maxRecDepth 100000 in
set_option maxHeartbeats 4000000 in
theorem ok_evergreenlaw33_awake : irOf Try.prog fn_evergreenlaw33_awake [] ts_evergreenlaw33_awake = some (74,[(.t 0)],ir_evergreenlaw33_awake) := by kernel_rfl
def ir_evergreenlaw33_small : C :=
 (.seq
 (.reg
 [⟨(some 1),none,(.box 1 ty_evergreenlaw33_In (.t 0))⟩,⟨(some 2),none,(.mv (.c (.bool false)))⟩])
 (.seq
 (.seq
 (.reg
 [⟨(some 5),none,(.fa 0 (.t 1))⟩,⟨(some 6),none,(.fa 2 (.t 5))⟩,⟨(some 7),none,(.ld .slc (.t 6))⟩,⟨(some 8),none,(.lens (.t 7))⟩,⟨(some 9),none,(.cmp .gtr .i64 (.t 8) (.c (.int .i64 40)))⟩,⟨(some 10),none,(.mv (.t 9))⟩,⟨(some 11),(some (10,false)),(.fa 0 (.t 1))⟩,⟨(some 12),(some (10,false)),(.lda 4 [(.int .i64),.slc,.slc,.slc] (.t 11))⟩,⟨(some 13),(some (10,false)),(.call fn_machine_Check [(.t 12)])⟩,⟨(some 14),(some (10,false)),(.eqn .ifc true (.t 13))⟩,⟨(some 15),none,(.pick (.t 10) (.c (.bool true)) (.t 14))⟩,⟨(some 16),none,(.mv (.t 15))⟩,⟨(some 17),(some (16,false)),(.fa 4 (.t 1))⟩,⟨(some 18),(some (16,false)),(.ld .slc (.t 17))⟩,⟨(some 19),(some (16,false)),(.lens (.t 18))⟩,⟨(some 20),(some (16,false)),(.fa 0 (.t 1))⟩,⟨(some 21),(some (16,false)),(.fa 2 (.t 20))⟩,⟨(some 22),(some (16,false)),(.ld .slc (.t 21))⟩,⟨(some 23),(some (16,false)),(.lens (.t 22))⟩,⟨(some 24),(some (16,false)),(.cmp .neq .i64 (.t 19) (.t 23))⟩,⟨(some 25),none,(.pick (.t 16) (.c (.bool true)) (.t 24))⟩])
 (.cond
 (.t 25)
 (.seq
 (.reg
 [⟨(some 2),none,(.mv (.c (.bool false)))⟩])
 .ret)
 .skip))
 (.seq
 (.seq
 (.reg
 [⟨(some 26),none,(.fa 4 (.t 1))⟩,⟨(some 27),none,(.ld .slc (.t 26))⟩,⟨(some 28),none,(.lens (.t 27))⟩,⟨(some 29),none,(.mv (.c (.int .i64 0)))⟩])
 (.blk
 0
 (.loop
 (.seq
 (.reg
 [⟨(some 30),none,(.cmp .lss .i64 (.t 29) (.t 28))⟩])
 (.seq
 (.cond
 (.t 30)
 .skip
 (.exit 0))
 (.seq
 (.blk
 1
 (.seq
 (.reg
 [⟨(some 31),none,(.ia 1 (.t 27) (.t 29))⟩,⟨(some 32),none,(.ld (.int .i64) (.t 31))⟩,⟨(some 4),none,(.mv (.t 32))⟩])
 (.seq
 (.reg
 [⟨(some 33),none,(.mv (.t 4))⟩,⟨(some 34),none,(.cmp .lss .i64 (.t 33) (.c (.int .i64 0)))⟩,⟨(some 35),none,(.mv (.t 34))⟩,⟨(some 36),(some (35,false)),(.mv (.t 4))⟩,⟨(some 37),(some (35,false)),(.cmp .gtr .i64 (.t 36) (.c (.int .i64 1048576)))⟩,⟨(some 38),none,(.pick (.t 35) (.c (.bool true)) (.t 37))⟩])
 (.cond
 (.t 38)
 (.seq
 (.reg
 [⟨(some 2),none,(.mv (.c (.bool false)))⟩])
 .ret)
 .skip))))
 (.reg
 [⟨(some 39),none,(.ar .add .i64 (.t 29) (.c (.int .i64 1)))⟩,⟨(some 29),none,(.mv (.t 39))⟩])))))))
 (.seq
 (.reg
 [⟨(some 2),none,(.mv (.c (.bool true)))⟩])
 .ret))))
def ts_evergreenlaw33_small : List (Nat × Tr) := []
set_option maxRecDepth 100000 in
set_option maxHeartbeats 4000000 in
theorem ok_evergreenlaw33_small : irOf Try.prog fn_evergreenlaw33_small [] ts_evergreenlaw33_small = some (40,[(.t 2)],ir_evergreenlaw33_small) := by kernel_rfl
def ir_evergreenlaw33_begun : C :=
 (.seq
 (.reg
 [⟨(some 3),none,(.box 3 ty_evergreenlaw33_In (.t 0))⟩,⟨(some 6),none,(.mv (.c (.pointer none)))⟩,⟨(some 7),none,(.alc 7 ty_evergreenref12_Store [(.slice none 0 0),(.slice none 0 0)])⟩,⟨(some 8),none,(.mv (.c (.int .i64 0)))⟩,⟨(some 9),none,(.mv (.c (.bool false)))⟩])
 (.seq
 (.reg
 [⟨(some 17),none,(.call fn_intern_New [(.c (.int .i64 1000))])⟩,⟨(some 10),none,(.mv (.t 17))⟩])
 (.seq
 (.seq
 (.reg
 [⟨(some 18),none,(.mv (.t 10))⟩,⟨(some 19),none,(.eqn .ptr false (.t 18))⟩])
 (.cond
 (.t 19)
 (.seq
 (.reg
 [⟨(some 20),none,(.bld [(.slice none 0 0),(.slice none 0 0)] [])⟩,⟨(some 6),none,(.mv (.c (.pointer none)))⟩,⟨none,none,(.st 2 (.t 7) (.t 20))⟩,⟨(some 8),none,(.mv (.c (.int .i64 0)))⟩,⟨(some 9),none,(.mv (.c (.bool false)))⟩])
 .ret)
 .skip))
 (.seq
 (.reg
 [⟨(some 22),none,(.mv (.t 10))⟩,⟨(some 23),none,(.mv (.t 1))⟩,⟨(some 24),none,(.call fn_evergreenlaw12_Build [(.t 22),(.t 23)])⟩,⟨(some 21),none,(.mv (.t 24))⟩,⟨(some 25),none,(.ext (.t 21) 0)⟩,⟨(some 26),none,(.ext (.t 21) 1)⟩,⟨(some 11),none,(.mv (.t 25))⟩,⟨(some 12),none,(.mv (.t 26))⟩])
 (.seq
 (.reg
 [⟨(some 28),none,(.mv (.t 10))⟩,⟨(some 29),none,(.fa 0 (.t 3))⟩,⟨(some 30),none,(.lda 4 [(.int .i64),.slc,.slc,.slc] (.t 29))⟩,⟨(some 31),none,(.fa 4 (.t 3))⟩,⟨(some 32),none,(.ld .slc (.t 31))⟩,⟨(some 33),none,(.fa 5 (.t 3))⟩,⟨(some 34),none,(.ld .bool (.t 33))⟩,⟨(some 35),none,(.call fn_transfer_New [(.t 28),(.t 30),(.t 32),(.t 34)])⟩,⟨(some 27),none,(.mv (.t 35))⟩,⟨(some 36),none,(.ext (.t 27) 0)⟩,⟨(some 37),none,(.ext (.t 27) 1)⟩,⟨(some 13),none,(.mv (.t 36))⟩,⟨(some 14),none,(.mv (.t 37))⟩])
 (.seq
 (.seq
 (.reg
 [⟨(some 38),none,(.mv (.t 12))⟩,⟨(some 39),none,(.not (.t 38))⟩,⟨(some 40),none,(.mv (.t 39))⟩,⟨(some 41),(some (40,false)),(.mv (.t 14))⟩,⟨(some 42),(some (40,false)),(.eqn .ifc true (.t 41))⟩,⟨(some 43),none,(.pick (.t 40) (.c (.bool true)) (.t 42))⟩,⟨(some 44),none,(.mv (.t 43))⟩,⟨(some 45),(some (44,false)),(.mv (.t 13))⟩,⟨(some 46),(some (44,false)),(.eqn .ptr false (.t 45))⟩,⟨(some 47),none,(.pick (.t 44) (.c (.bool true)) (.t 46))⟩])
 (.cond
 (.t 47)
 (.seq
 (.reg
 [⟨(some 48),none,(.bld [(.slice none 0 0),(.slice none 0 0)] [])⟩,⟨(some 6),none,(.mv (.c (.pointer none)))⟩,⟨none,none,(.st 2 (.t 7) (.t 48))⟩,⟨(some 8),none,(.mv (.c (.int .i64 0)))⟩,⟨(some 9),none,(.mv (.c (.bool false)))⟩])
 .ret)
 .skip))
 (.seq
 (.reg
 [⟨(some 50),none,(.mv (.t 1))⟩,⟨(some 51),none,(.call fn_evergreenref12_Build [(.t 50)])⟩,⟨(some 49),none,(.mv (.t 51))⟩,⟨(some 52),none,(.ext (.t 49) 0)⟩,⟨(some 53),none,(.ext (.t 49) 1)⟩,⟨(some 15),none,(.alc 15 ty_evergreenref12_Store [(.slice none 0 0),(.slice none 0 0)])⟩,⟨none,none,(.st 2 (.t 15) (.t 52))⟩,⟨(some 16),none,(.mv (.t 53))⟩])
 (.seq
 (.drb
 [⟨(some 54),none,(.mv (.t 13))⟩,⟨(some 55),none,(.lda 2 [.slc,.slc] (.t 15))⟩,⟨(some 56),none,(.mv (.t 11))⟩,⟨(some 57),none,(.mv (.t 2))⟩,⟨(some 58),none,(.mv (.t 11))⟩,⟨(some 59),none,(.lens (.t 58))⟩,⟨(some 60),none,(.call fn_evergreenref12_Pick [(.t 57),(.t 59)])⟩,⟨(some 61),none,(.ia 1 (.t 56) (.t 60))⟩,⟨(some 62),none,(.ld (.int .i64) (.t 61))⟩,⟨(some 6),none,(.mv (.t 54))⟩,⟨none,none,(.st 2 (.t 7) (.t 55))⟩,⟨(some 8),none,(.mv (.t 62))⟩,⟨(some 9),none,(.mv (.c (.bool true)))⟩]
 (.mov 0 (.take 1 (.mov 2 (.mov 3 (.mov 4 (.take 5 (.take 6 (.take 7 (.take 8 (.mov 9 (.alt 10 true (.mov 11 (.mov 12 .done)) .nil))))))))))))
 .ret))))))))
def ts_evergreenlaw33_begun : List (Nat × Tr) := [(9,(.mov 0 (.take 1 (.mov 2 (.mov 3 (.mov 4 (.take 5 (.take 6 (.take 7 (.take 8 (.mov 9 (.alt 10 true (.mov 11 (.mov 12 .done)) .nil))))))))))))]
set_option maxRecDepth 100000 in
set_option maxHeartbeats 4000000 in
theorem ok_evergreenlaw33_begun : irOf Try.prog fn_evergreenlaw33_begun [2000009] ts_evergreenlaw33_begun = some (63,[(.t 6),(.c 7 2),(.t 8),(.t 9)],ir_evergreenlaw33_begun) := by kernel_rfl
def ir_evergreenlaw33_TransferKeeps : C :=
 (.seq
 (.reg
 [⟨(some 3),none,(.box 3 ty_evergreenlaw33_In (.t 0))⟩,⟨(some 6),none,(.mv (.c (.bool false)))⟩])
 (.seq
 (.seq
 (.reg
 [⟨(some 30),none,(.call fn_evergreenlaw33_awake [])⟩,⟨(some 31),none,(.not (.t 30))⟩,⟨(some 32),none,(.mv (.t 31))⟩,⟨(some 33),(some (32,false)),(.mv (.t 1))⟩,⟨(some 34),(some (32,false)),(.lens (.t 33))⟩,⟨(some 35),(some (32,false)),(.cmp .gtr .i64 (.t 34) (.c (.int .i64 30)))⟩,⟨(some 36),none,(.pick (.t 32) (.c (.bool true)) (.t 35))⟩,⟨(some 37),none,(.mv (.t 36))⟩,⟨(some 38),(some (37,false)),(.mv (.t 2))⟩,⟨(some 39),(some (37,false)),(.lens (.t 38))⟩,⟨(some 40),(some (37,false)),(.cmp .gtr .i64 (.t 39) (.c (.int .i64 12)))⟩,⟨(some 41),none,(.pick (.t 37) (.c (.bool true)) (.t 40))⟩,⟨(some 42),none,(.mv (.t 41))⟩,⟨(some 43),(some (42,false)),(.lda 6 [(.int .i64),.slc,.slc,.slc,.slc,.bool] (.t 3))⟩,⟨(some 44),(some (42,false)),(.call fn_evergreenlaw33_small [(.t 43)])⟩,⟨(some 45),(some (42,false)),(.not (.t 44))⟩,⟨(some 46),none,(.pick (.t 42) (.c (.bool true)) (.t 45))⟩])
 (.cond
 (.t 46)
 (.seq
 (.reg
 [⟨(some 47),none,(.call fn_evergreenlaw33_awake [])⟩,⟨(some 6),none,(.mv (.t 47))⟩])
 .ret)
 .skip))
 (.seq
 (.reg
 [⟨(some 49),none,(.lda 6 [(.int .i64),.slc,.slc,.slc,.slc,.bool] (.t 3))⟩,⟨(some 50),none,(.mv (.t 1))⟩,⟨(some 51),none,(.call fn_evergreenlaw33_begun [(.t 49),(.t 50),(.c (.int .i64 0))])⟩,⟨(some 48),none,(.mv (.t 51))⟩,⟨(some 52),none,(.ext (.t 48) 0)⟩,⟨(some 53),none,(.ext (.t 48) 1)⟩,⟨(some 54),none,(.ext (.t 48) 2)⟩,⟨(some 55),none,(.ext (.t 48) 3)⟩,⟨(some 8),none,(.alc 8 ty_evergreenref12_Store [(.slice none 0 0),(.slice none 0 0)])⟩,⟨(some 7),none,(.mv (.t 52))⟩,⟨none,none,(.st 2 (.t 8) (.t 53))⟩,⟨(some 9),none,(.mv (.t 54))⟩,⟨(some 10),none,(.mv (.t 55))⟩])
 (.seq
 (.seq
 (.reg
 [⟨(some 56),none,(.mv (.t 10))⟩,⟨(some 57),none,(.not (.t 56))⟩])
 (.cond
 (.t 57)
 (.seq
 (.reg
 [⟨(some 6),none,(.mv (.c (.bool false)))⟩])
 .ret)
 .skip))
 (.seq
 (.reg
 [⟨(some 58),none,(.mv (.t 7))⟩,⟨(some 59),none,(.call fn_P_transfer_Table_Store [(.t 58)])⟩,⟨(some 11),none,(.mv (.t 59))⟩])
 (.seq
 (.reg
 [⟨(some 60),none,(.mv (.t 11))⟩,⟨(some 61),none,(.call fn_P_intern_Store_Len [(.t 60)])⟩,⟨(some 12),none,(.mv (.t 61))⟩])
 (.seq
 (.reg
 [⟨(some 13),none,(.mv (.c (.slice none 0 0)))⟩])
 (.seq
 (.seq
 (.reg
 [⟨(some 62),none,(.mv (.t 2))⟩,⟨(some 63),none,(.lens (.t 62))⟩,⟨(some 64),none,(.mv (.c (.int .i64 0)))⟩])
 (.blk
 0
 (.loop
 (.seq
 (.reg
 [⟨(some 65),none,(.cmp .lss .i64 (.t 64) (.t 63))⟩])
 (.seq
 (.cond
 (.t 65)
 .skip
 (.exit 0))
 (.seq
 (.blk
 1
 (.seq
 (.reg
 [⟨(some 66),none,(.ia 1 (.t 62) (.t 64))⟩,⟨(some 67),none,(.ld (.int .i64) (.t 66))⟩,⟨(some 15),none,(.mv (.t 67))⟩])
 (.seq
 (.reg
 [⟨(some 68),none,(.mv (.t 15))⟩,⟨(some 69),none,(.fa 0 (.t 8))⟩,⟨(some 70),none,(.ld .slc (.t 69))⟩,⟨(some 71),none,(.lens (.t 70))⟩,⟨(some 72),none,(.ar .add .i64 (.t 71) (.c (.int .i64 1)))⟩,⟨(some 73),none,(.call fn_evergreenref12_Pick [(.t 68),(.t 72)])⟩,⟨(some 16),none,(.mv (.t 73))⟩])
 (.seq
 (.reg
 [⟨(some 74),none,(.mv (.t 15))⟩,⟨(some 75),none,(.dvr false .i64 (.t 74) (.c (.int .i64 7)))⟩,⟨(some 76),none,(.fa 0 (.t 3))⟩,⟨(some 77),none,(.fa 2 (.t 76))⟩,⟨(some 78),none,(.ld .slc (.t 77))⟩,⟨(some 79),none,(.lens (.t 78))⟩,⟨(some 80),none,(.call fn_evergreenref12_Pick [(.t 75),(.t 79)])⟩,⟨(some 17),none,(.mv (.t 80))⟩])
 (.seq
 (.reg
 [⟨(some 81),none,(.mv (.t 13))⟩,⟨(some 82),none,(.mv (.t 16))⟩,⟨(some 83),none,(.bsl 83 ty_api_ID 1 1 [(.int .i64 0)] [(0,(1,(.t 82)))])⟩,⟨(some 84),none,(.app 84 ty_api_ID 1 8 (.t 81) (.t 83))⟩,⟨(some 13),none,(.mv (.t 84))⟩])
 (.seq
 (.reg
 [⟨(some 86),none,(.mv (.t 11))⟩,⟨(some 87),none,(.fa 0 (.t 3))⟩,⟨(some 88),none,(.lda 4 [(.int .i64),.slc,.slc,.slc] (.t 87))⟩,⟨(some 89),none,(.fa 4 (.t 3))⟩,⟨(some 90),none,(.ld .slc (.t 89))⟩,⟨(some 91),none,(.fa 5 (.t 3))⟩,⟨(some 92),none,(.ld .bool (.t 91))⟩,⟨(some 93),none,(.call fn_transfer_New [(.t 86),(.t 88),(.t 90),(.t 92)])⟩,⟨(some 85),none,(.mv (.t 93))⟩,⟨(some 94),none,(.ext (.t 85) 0)⟩,⟨(some 95),none,(.ext (.t 85) 1)⟩,⟨(some 18),none,(.mv (.t 94))⟩,⟨(some 19),none,(.mv (.t 95))⟩])
 (.seq
 (.reg
 [⟨(some 97),none,(.mv (.t 7))⟩,⟨(some 98),none,(.mv (.t 16))⟩,⟨(some 99),none,(.mv (.t 17))⟩,⟨(some 100),none,(.call fn_P_transfer_Table_End [(.t 97),(.t 98),(.t 99)])⟩,⟨(some 96),none,(.mv (.t 100))⟩,⟨(some 101),none,(.ext (.t 96) 0)⟩,⟨(some 102),none,(.ext (.t 96) 1)⟩,⟨(some 20),none,(.mv (.t 101))⟩,⟨(some 21),none,(.mv (.t 102))⟩])
 (.seq
 (.reg
 [⟨(some 104),none,(.mv (.t 18))⟩,⟨(some 105),none,(.mv (.t 16))⟩,⟨(some 106),none,(.mv (.t 17))⟩,⟨(some 107),none,(.call fn_P_transfer_Table_End [(.t 104),(.t 105),(.t 106)])⟩,⟨(some 103),none,(.mv (.t 107))⟩,⟨(some 108),none,(.ext (.t 103) 0)⟩,⟨(some 109),none,(.ext (.t 103) 1)⟩,⟨(some 22),none,(.mv (.t 108))⟩,⟨(some 23),none,(.mv (.t 109))⟩])
 (.seq
 (.reg
 [⟨(some 111),none,(.mv (.t 7))⟩,⟨(some 112),none,(.mv (.t 16))⟩,⟨(some 113),none,(.mv (.t 17))⟩,⟨(some 114),none,(.call fn_P_transfer_Table_Hits [(.t 111),(.t 112),(.t 113)])⟩,⟨(some 110),none,(.mv (.t 114))⟩,⟨(some 115),none,(.ext (.t 110) 0)⟩,⟨(some 116),none,(.ext (.t 110) 1)⟩,⟨(some 24),none,(.mv (.t 115))⟩,⟨(some 25),none,(.mv (.t 116))⟩])
 (.seq
 (.reg
 [⟨(some 118),none,(.mv (.t 18))⟩,⟨(some 119),none,(.mv (.t 16))⟩,⟨(some 120),none,(.mv (.t 17))⟩,⟨(some 121),none,(.call fn_P_transfer_Table_Hits [(.t 118),(.t 119),(.t 120)])⟩,⟨(some 117),none,(.mv (.t 121))⟩,⟨(some 122),none,(.ext (.t 117) 0)⟩,⟨(some 123),none,(.ext (.t 117) 1)⟩,⟨(some 26),none,(.mv (.t 122))⟩,⟨(some 27),none,(.mv (.t 123))⟩])
 (.seq
 (.reg
 [⟨(some 125),none,(.mv (.t 11))⟩,⟨(some 126),none,(.mv (.t 13))⟩,⟨(some 127),none,(.call fn_collect_Reach [(.t 125),(.t 126)])⟩,⟨(some 124),none,(.mv (.t 127))⟩,⟨(some 128),none,(.ext (.t 124) 0)⟩,⟨(some 129),none,(.ext (.t 124) 1)⟩,⟨(some 28),none,(.mv (.t 128))⟩,⟨(some 29),none,(.mv (.t 129))⟩])
 (.seq
 (.reg
 [⟨(some 130),none,(.mv (.t 19))⟩,⟨(some 131),none,(.eqn .ifc true (.t 130))⟩,⟨(some 132),none,(.mv (.t 131))⟩,⟨(some 133),(some (132,false)),(.mv (.t 21))⟩,⟨(some 134),(some (132,false)),(.eqn .ifc true (.t 133))⟩,⟨(some 135),none,(.pick (.t 132) (.c (.bool true)) (.t 134))⟩,⟨(some 136),none,(.mv (.t 135))⟩,⟨(some 137),(some (136,false)),(.mv (.t 23))⟩,⟨(some 138),(some (136,false)),(.eqn .ifc true (.t 137))⟩,⟨(some 139),none,(.pick (.t 136) (.c (.bool true)) (.t 138))⟩,⟨(some 140),none,(.mv (.t 139))⟩,⟨(some 141),(some (140,false)),(.mv (.t 29))⟩,⟨(some 142),(some (140,false)),(.eqn .ifc true (.t 141))⟩,⟨(some 143),none,(.pick (.t 140) (.c (.bool true)) (.t 142))⟩,⟨(some 144),none,(.mv (.t 143))⟩,⟨(some 145),(some (144,false)),(.mv (.t 20))⟩,⟨(some 146),(some (144,false)),(.mv (.t 22))⟩,⟨(some 147),(some (144,false)),(.cmp .neq .i64 (.t 145) (.t 146))⟩,⟨(some 148),none,(.pick (.t 144) (.c (.bool true)) (.t 147))⟩,⟨(some 149),none,(.mv (.t 148))⟩,⟨(some 150),(some (149,false)),(.mv (.t 24))⟩,⟨(some 151),(some (149,false)),(.mv (.t 26))⟩,⟨(some 152),(some (149,false)),(.cmp .neq .i64 (.t 150) (.t 151))⟩,⟨(some 153),none,(.pick (.t 149) (.c (.bool true)) (.t 152))⟩,⟨(some 154),none,(.mv (.t 153))⟩,⟨(some 155),(some (154,false)),(.mv (.t 25))⟩,⟨(some 156),(some (154,false)),(.call fn_evergreenbase_Num [(.t 155)])⟩,⟨(some 157),(some (154,false)),(.mv (.t 27))⟩,⟨(some 158),(some (154,false)),(.call fn_evergreenbase_Num [(.t 157)])⟩,⟨(some 159),(some (154,false)),(.cmp .neq .i64 (.t 156) (.t 158))⟩,⟨(some 160),none,(.pick (.t 154) (.c (.bool true)) (.t 159))⟩,⟨(some 161),none,(.mv (.t 160))⟩,⟨(some 162),(some (161,false)),(.mv (.t 7))⟩,⟨(some 163),(some (161,false)),(.call fn_P_transfer_Table_Rules [(.t 162)])⟩,⟨(some 164),(some (161,false)),(.cmp .lss .i64 (.t 163) (.c (.int .i64 0)))⟩,⟨(some 165),none,(.pick (.t 161) (.c (.bool true)) (.t 164))⟩,⟨(some 166),none,(.mv (.t 165))⟩,⟨(some 167),(some (166,false)),(.mv (.t 7))⟩,⟨(some 168),(some (166,false)),(.call fn_P_transfer_Table_Rules [(.t 167)])⟩,⟨(some 169),(some (166,false)),(.mv (.t 28))⟩,⟨(some 170),(some (166,false)),(.lens (.t 169))⟩,⟨(some 171),(some (166,false)),(.cmp .gtr .i64 (.t 168) (.t 170))⟩,⟨(some 172),none,(.pick (.t 166) (.c (.bool true)) (.t 171))⟩,⟨(some 173),none,(.mv (.t 172))⟩,⟨(some 174),(some (173,false)),(.mv (.t 11))⟩,⟨(some 175),(some (173,false)),(.call fn_P_intern_Store_Len [(.t 174)])⟩,⟨(some 176),(some (173,false)),(.mv (.t 12))⟩,⟨(some 177),(some (173,false)),(.cmp .neq .i64 (.t 175) (.t 176))⟩,⟨(some 178),none,(.pick (.t 173) (.c (.bool true)) (.t 177))⟩])
 (.cond
 (.t 178)
 (.seq
 (.reg
 [⟨(some 6),none,(.mv (.c (.bool false)))⟩])
 .ret)
 .skip)))))))))))))
 (.reg
 [⟨(some 179),none,(.ar .add .i64 (.t 64) (.c (.int .i64 1)))⟩,⟨(some 64),none,(.mv (.t 179))⟩])))))))
 (.seq
 (.reg
 [⟨(some 6),none,(.mv (.c (.bool true)))⟩])
 .ret)))))))))
def ts_evergreenlaw33_TransferKeeps : List (Nat × Tr) := []
set_option maxRecDepth 100000 in
set_option maxHeartbeats 4000000 in
theorem ok_evergreenlaw33_TransferKeeps : irOf Try.prog fn_evergreenlaw33_TransferKeeps [75] ts_evergreenlaw33_TransferKeeps = some (180,[(.t 6)],ir_evergreenlaw33_TransferKeeps) := by kernel_rfl
end Go.Proofs.Ytoocnmfodhnpbaa
