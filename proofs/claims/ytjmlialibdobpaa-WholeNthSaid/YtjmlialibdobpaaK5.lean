/- The small forms of functions of the program, with the equations that say so: written by a program (irtool.py). No condition. -/
import Derived.Test.YtjmlialibdobpaaK3
import Derived.Test.YtjmlialibdobpaaProg
namespace Go.Proofs.Ytjmlialibdobpaa
open Go.EG
abbrev fn_transfer_New : Nat := 10
abbrev fn_machine_Check : Nat := 25
abbrev fn_transfer_clone : Nat := 26
abbrev fn_slices_Clone_Sl_int_int : Nat := 27
abbrev fn_P_transfer_Table_Machine : Nat := 33
abbrev fn_P_transfer_Table_Part : Nat := 34
abbrev fn_slices_Clone_Sl_bool_bool : Nat := 45
abbrev fn_P_transfer_Table_Store : Nat := 46
abbrev fn_P_transfer_Table_Back : Nat := 47
abbrev fn_parts_Of : Nat := 52
abbrev fn_slices_Reverse_Sl_parts_Part_parts_Part : Nat := 53
abbrev fn_P_transfer_Table_check : Nat := 54
abbrev fn_P_transfer_Table_learn : Nat := 55
abbrev fn_transfer_effect_run : Nat := 56
abbrev fn_P_transfer_Table_Hits : Nat := 57
abbrev fn_parts_pair : Nat := 72
abbrev fn_parts_power : Nat := 73
abbrev fn_parts_copies : Nat := 74
abbrev fn_slices_Reverse_Sl_parts_piece_parts_piece : Nat := 75
abbrev fn_P_transfer_Table_entry : Nat := 77
abbrev fn_P_transfer_Table_effect : Nat := 78
abbrev fn_P_transfer_Table_End : Nat := 81
abbrev fn_transfer_join : Nat := 88
abbrev ty_int : Nat := 3
abbrev ty_bool : Nat := 4
abbrev ty_uint8 : Nat := 5
abbrev ty_Sl_int : Nat := 27
abbrev ty_api_Machine : Nat := 31
abbrev ty_transfer_Table : Nat := 84
abbrev ty_parts_Part : Nat := 111
abbrev ty_transfer_effect : Nat := 123
abbrev ty_transfer_entry : Nat := 126
abbrev ty_parts_piece : Nat := 146
def ir_slices_Clone_Sl_int_int : C :=
 (.seq
 (.reg
 [⟨(some 2),none,(.mv (.c (.slice none 0 0)))⟩])
 (.seq
 (.seq
 (.reg
 [⟨(some 3),none,(.mv (.t 0))⟩,⟨(some 4),none,(.eqn .slc false (.t 3))⟩])
 (.cond
 (.t 4)
 (.seq
 (.reg
 [⟨(some 2),none,(.mv (.c (.slice none 0 0)))⟩])
 .ret)
 .skip))
 (.seq
 (.reg
 [⟨(some 5),none,(.bsl 5 ty_int 1 0 [] [])⟩,⟨(some 6),none,(.mv (.t 0))⟩,⟨(some 7),none,(.app 7 ty_int 1 8 (.t 5) (.t 6))⟩,⟨(some 2),none,(.mv (.t 7))⟩])
 .ret)))
def ts_slices_Clone_Sl_int_int : List (Nat × Tr) := []
set_option maxRecDepth 100000 in
set_option maxHeartbeats 4000000 in
theorem ok_slices_Clone_Sl_int_int : irOf Try.prog fn_slices_Clone_Sl_int_int [] ts_slices_Clone_Sl_int_int = some (8,[(.t 2)],ir_slices_Clone_Sl_int_int) := by kernel_rfl
def ir_slices_Clone_Sl_bool_bool : C :=
 (.seq
 (.reg
 [⟨(some 2),none,(.mv (.c (.slice none 0 0)))⟩])
 (.seq
 (.seq
 (.reg
 [⟨(some 3),none,(.mv (.t 0))⟩,⟨(some 4),none,(.eqn .slc false (.t 3))⟩])
 (.cond
 (.t 4)
 (.seq
 (.reg
 [⟨(some 2),none,(.mv (.c (.slice none 0 0)))⟩])
 .ret)
 .skip))
 (.seq
 (.reg
 [⟨(some 5),none,(.bsl 5 ty_bool 1 0 [] [])⟩,⟨(some 6),none,(.mv (.t 0))⟩,⟨(some 7),none,(.app 7 ty_bool 1 1 (.t 5) (.t 6))⟩,⟨(some 2),none,(.mv (.t 7))⟩])
 .ret)))
def ts_slices_Clone_Sl_bool_bool : List (Nat × Tr) := []
set_option maxRecDepth 100000 in
set_option maxHeartbeats 4000000 in
theorem ok_slices_Clone_Sl_bool_bool : irOf Try.prog fn_slices_Clone_Sl_bool_bool [] ts_slices_Clone_Sl_bool_bool = some (8,[(.t 2)],ir_slices_Clone_Sl_bool_bool) := by kernel_rfl
def ir_machine_Check : C :=
 (.seq
 (.reg
 [⟨(some 1),none,(.box 1 ty_api_Machine (.t 0))⟩,⟨(some 2),none,(.mv (.c .nilIface))⟩])
 (.seq
 (.reg
 [⟨(some 11),none,(.fa 2 (.t 1))⟩,⟨(some 12),none,(.ld .slc (.t 11))⟩,⟨(some 13),none,(.lens (.t 12))⟩,⟨(some 3),none,(.mv (.t 13))⟩])
 (.seq
 (.seq
 (.reg
 [⟨(some 14),none,(.fa 1 (.t 1))⟩,⟨(some 15),none,(.ld .slc (.t 14))⟩,⟨(some 16),none,(.lens (.t 15))⟩,⟨(some 17),none,(.cmp .neq .i64 (.t 16) (.c (.int .i64 256)))⟩,⟨(some 18),none,(.mv (.t 17))⟩,⟨(some 19),(some (18,false)),(.mv (.t 3))⟩,⟨(some 20),(some (18,false)),(.cmp .eql .i64 (.t 19) (.c (.int .i64 0)))⟩,⟨(some 21),none,(.pick (.t 18) (.c (.bool true)) (.t 20))⟩,⟨(some 22),none,(.mv (.t 21))⟩,⟨(some 23),(some (22,false)),(.fa 3 (.t 1))⟩,⟨(some 24),(some (22,false)),(.ld .slc (.t 23))⟩,⟨(some 25),(some (22,false)),(.lens (.t 24))⟩,⟨(some 26),(some (22,false)),(.mv (.t 3))⟩,⟨(some 27),(some (22,false)),(.cmp .neq .i64 (.t 25) (.t 26))⟩,⟨(some 28),none,(.pick (.t 22) (.c (.bool true)) (.t 27))⟩,⟨(some 29),none,(.mv (.t 28))⟩,⟨(some 30),(some (29,false)),(.fa 0 (.t 1))⟩,⟨(some 31),(some (29,false)),(.ld (.int .i64) (.t 30))⟩,⟨(some 32),(some (29,false)),(.cmp .lss .i64 (.t 31) (.c (.int .i64 0)))⟩,⟨(some 33),none,(.pick (.t 29) (.c (.bool true)) (.t 32))⟩,⟨(some 34),none,(.mv (.t 33))⟩,⟨(some 35),(some (34,false)),(.fa 0 (.t 1))⟩,⟨(some 36),(some (34,false)),(.ld (.int .i64) (.t 35))⟩,⟨(some 37),(some (34,false)),(.mv (.t 3))⟩,⟨(some 38),(some (34,false)),(.cmp .geq .i64 (.t 36) (.t 37))⟩,⟨(some 39),none,(.pick (.t 34) (.c (.bool true)) (.t 38))⟩])
 (.cond
 (.t 39)
 (.seq
 (.reg
 [⟨(some 40),none,(.mki ty_api_Errno (.c (.int .i64 4)))⟩,⟨(some 2),none,(.mv (.t 40))⟩])
 .ret)
 .skip))
 (.seq
 (.reg
 [⟨(some 41),none,(.fa 2 (.t 1))⟩,⟨(some 42),none,(.ld .slc (.t 41))⟩,⟨(some 43),none,(.ia 1 (.t 42) (.c (.int .i64 0)))⟩,⟨(some 44),none,(.ld .slc (.t 43))⟩,⟨(some 45),none,(.lens (.t 44))⟩,⟨(some 4),none,(.mv (.t 45))⟩])
 (.seq
 (.seq
 (.reg
 [⟨(some 46),none,(.mv (.t 4))⟩,⟨(some 47),none,(.cmp .lss .i64 (.t 46) (.c (.int .i64 1)))⟩,⟨(some 48),none,(.mv (.t 47))⟩,⟨(some 49),(some (48,false)),(.mv (.t 4))⟩,⟨(some 50),(some (48,false)),(.cmp .gtr .i64 (.t 49) (.c (.int .i64 256)))⟩,⟨(some 51),none,(.pick (.t 48) (.c (.bool true)) (.t 50))⟩])
 (.cond
 (.t 51)
 (.seq
 (.reg
 [⟨(some 52),none,(.mki ty_api_Errno (.c (.int .i64 4)))⟩,⟨(some 2),none,(.mv (.t 52))⟩])
 .ret)
 .skip))
 (.seq
 (.seq
 (.reg
 [⟨(some 53),none,(.fa 2 (.t 1))⟩,⟨(some 54),none,(.ld .slc (.t 53))⟩,⟨(some 55),none,(.lens (.t 54))⟩,⟨(some 56),none,(.mv (.c (.int .i64 0)))⟩])
 (.blk
 0
 (.loop
 (.seq
 (.reg
 [⟨(some 57),none,(.cmp .lss .i64 (.t 56) (.t 55))⟩])
 (.seq
 (.cond
 (.t 57)
 .skip
 (.exit 0))
 (.seq
 (.blk
 1
 (.seq
 (.reg
 [⟨(some 58),none,(.ia 1 (.t 54) (.t 56))⟩,⟨(some 59),none,(.ld .slc (.t 58))⟩,⟨(some 6),none,(.mv (.t 59))⟩])
 (.seq
 (.seq
 (.reg
 [⟨(some 60),none,(.mv (.t 6))⟩,⟨(some 61),none,(.lens (.t 60))⟩,⟨(some 62),none,(.mv (.t 4))⟩,⟨(some 63),none,(.cmp .neq .i64 (.t 61) (.t 62))⟩])
 (.cond
 (.t 63)
 (.seq
 (.reg
 [⟨(some 64),none,(.mki ty_api_Errno (.c (.int .i64 4)))⟩,⟨(some 2),none,(.mv (.t 64))⟩])
 .ret)
 .skip))
 (.seq
 (.reg
 [⟨(some 65),none,(.mv (.t 6))⟩,⟨(some 66),none,(.lens (.t 65))⟩,⟨(some 67),none,(.mv (.c (.int .i64 0)))⟩])
 (.blk
 2
 (.loop
 (.seq
 (.reg
 [⟨(some 68),none,(.cmp .lss .i64 (.t 67) (.t 66))⟩])
 (.seq
 (.cond
 (.t 68)
 .skip
 (.exit 2))
 (.seq
 (.blk
 3
 (.seq
 (.reg
 [⟨(some 69),none,(.ia 1 (.t 65) (.t 67))⟩,⟨(some 70),none,(.ld (.int .i64) (.t 69))⟩,⟨(some 8),none,(.mv (.t 70))⟩])
 (.seq
 (.reg
 [⟨(some 71),none,(.mv (.t 8))⟩,⟨(some 72),none,(.cmp .lss .i64 (.t 71) (.c (.int .i64 0)))⟩,⟨(some 73),none,(.mv (.t 72))⟩,⟨(some 74),(some (73,false)),(.mv (.t 8))⟩,⟨(some 75),(some (73,false)),(.mv (.t 3))⟩,⟨(some 76),(some (73,false)),(.cmp .geq .i64 (.t 74) (.t 75))⟩,⟨(some 77),none,(.pick (.t 73) (.c (.bool true)) (.t 76))⟩])
 (.cond
 (.t 77)
 (.seq
 (.reg
 [⟨(some 78),none,(.mki ty_api_Errno (.c (.int .i64 4)))⟩,⟨(some 2),none,(.mv (.t 78))⟩])
 .ret)
 .skip))))
 (.reg
 [⟨(some 79),none,(.ar .add .i64 (.t 67) (.c (.int .i64 1)))⟩,⟨(some 67),none,(.mv (.t 79))⟩]))))))))))
 (.reg
 [⟨(some 80),none,(.ar .add .i64 (.t 56) (.c (.int .i64 1)))⟩,⟨(some 56),none,(.mv (.t 80))⟩])))))))
 (.seq
 (.seq
 (.reg
 [⟨(some 81),none,(.fa 1 (.t 1))⟩,⟨(some 82),none,(.ld .slc (.t 81))⟩,⟨(some 83),none,(.lens (.t 82))⟩,⟨(some 84),none,(.mv (.c (.int .i64 0)))⟩])
 (.blk
 4
 (.loop
 (.seq
 (.reg
 [⟨(some 85),none,(.cmp .lss .i64 (.t 84) (.t 83))⟩])
 (.seq
 (.cond
 (.t 85)
 .skip
 (.exit 4))
 (.seq
 (.blk
 5
 (.seq
 (.reg
 [⟨(some 86),none,(.ia 1 (.t 82) (.t 84))⟩,⟨(some 87),none,(.ld (.int .i64) (.t 86))⟩,⟨(some 10),none,(.mv (.t 87))⟩])
 (.seq
 (.reg
 [⟨(some 88),none,(.mv (.t 10))⟩,⟨(some 89),none,(.cmp .lss .i64 (.t 88) (.c (.int .i64 0)))⟩,⟨(some 90),none,(.mv (.t 89))⟩,⟨(some 91),(some (90,false)),(.mv (.t 10))⟩,⟨(some 92),(some (90,false)),(.mv (.t 4))⟩,⟨(some 93),(some (90,false)),(.cmp .geq .i64 (.t 91) (.t 92))⟩,⟨(some 94),none,(.pick (.t 90) (.c (.bool true)) (.t 93))⟩])
 (.cond
 (.t 94)
 (.seq
 (.reg
 [⟨(some 95),none,(.mki ty_api_Errno (.c (.int .i64 4)))⟩,⟨(some 2),none,(.mv (.t 95))⟩])
 .ret)
 .skip))))
 (.reg
 [⟨(some 96),none,(.ar .add .i64 (.t 84) (.c (.int .i64 1)))⟩,⟨(some 84),none,(.mv (.t 96))⟩])))))))
 (.seq
 (.seq
 (.reg
 [⟨(some 97),none,(.mv (.t 3))⟩,⟨(some 98),none,(.cmp .gtr .i64 (.t 97) (.c (.int .i64 256)))⟩])
 (.cond
 (.t 98)
 (.seq
 (.reg
 [⟨(some 99),none,(.mki ty_api_Errno (.c (.int .i64 9)))⟩,⟨(some 2),none,(.mv (.t 99))⟩])
 .ret)
 .skip))
 (.seq
 (.reg
 [⟨(some 2),none,(.mv (.c .nilIface))⟩])
 .ret)))))))))
def ts_machine_Check : List (Nat × Tr) := []
set_option maxRecDepth 100000 in
set_option maxHeartbeats 4000000 in
theorem ok_machine_Check : irOf Try.prog fn_machine_Check [] ts_machine_Check = some (100,[(.t 2)],ir_machine_Check) := by kernel_rfl
def ir_parts_pair : C :=
 (.seq
 (.reg
 [⟨(some 5),none,(.box 5 ty_api_Rule (.t 1))⟩,⟨(some 6),none,(.box 6 ty_parts_piece (.t 2))⟩,⟨(some 8),none,(.mv (.c (.slice none 0 0)))⟩])
 (.seq
 (.seq
 (.reg
 [⟨(some 10),none,(.fa 1 (.t 6))⟩,⟨(some 11),none,(.ld (.int .i64) (.t 10))⟩,⟨(some 12),none,(.mv (.t 3))⟩,⟨(some 13),none,(.cmp .geq .i64 (.t 11) (.t 12))⟩])
 (.cond
 (.t 13)
 (.seq
 (.reg
 [⟨(some 14),none,(.mv (.t 0))⟩,⟨(some 15),none,(.fa 3 (.t 5))⟩,⟨(some 16),none,(.ld (.int .i64) (.t 15))⟩,⟨(some 17),none,(.fa 1 (.t 6))⟩,⟨(some 18),none,(.ld (.int .i64) (.t 17))⟩,⟨(some 19),none,(.mv (.t 3))⟩,⟨(some 20),none,(.ar .sub .i64 (.t 18) (.t 19))⟩,⟨(some 21),none,(.fa 2 (.t 6))⟩,⟨(some 22),none,(.ld (.int .i64) (.t 21))⟩,⟨(some 23),none,(.bld [(.int .i64 0),(.int .i64 0),(.int .i64 0)] [(0,(1,(.t 16))),(1,(1,(.t 20))),(2,(1,(.t 22)))])⟩,⟨(some 24),none,(.bsl 24 ty_parts_piece 3 1 [(.int .i64 0),(.int .i64 0),(.int .i64 0)] [(0,(3,(.t 23)))])⟩,⟨(some 25),none,(.app 25 ty_parts_piece 3 24 (.t 14) (.t 24))⟩,⟨(some 8),none,(.mv (.t 25))⟩])
 .ret)
 .skip))
 (.seq
 (.reg
 [⟨(some 26),none,(.fa 2 (.t 6))⟩,⟨(some 27),none,(.ld (.int .i64) (.t 26))⟩,⟨(some 28),none,(.mv (.t 3))⟩,⟨(some 29),none,(.fa 1 (.t 6))⟩,⟨(some 30),none,(.ld (.int .i64) (.t 29))⟩,⟨(some 31),none,(.ar .sub .i64 (.t 28) (.t 30))⟩,⟨(some 32),none,(.mm false .i64 (.t 27) (.t 31))⟩,⟨(some 9),none,(.mv (.t 32))⟩])
 (.seq
 (.reg
 [⟨(some 33),none,(.mv (.t 0))⟩,⟨(some 34),none,(.fa 2 (.t 5))⟩,⟨(some 35),none,(.ld (.int .i64) (.t 34))⟩,⟨(some 36),none,(.fa 1 (.t 6))⟩,⟨(some 37),none,(.ld (.int .i64) (.t 36))⟩,⟨(some 38),none,(.mv (.t 9))⟩,⟨(some 39),none,(.bld [(.int .i64 0),(.int .i64 0),(.int .i64 0)] [(0,(1,(.t 35))),(1,(1,(.t 37))),(2,(1,(.t 38)))])⟩,⟨(some 40),none,(.fa 3 (.t 5))⟩,⟨(some 41),none,(.ld (.int .i64) (.t 40))⟩,⟨(some 42),none,(.fa 2 (.t 6))⟩,⟨(some 43),none,(.ld (.int .i64) (.t 42))⟩,⟨(some 44),none,(.mv (.t 9))⟩,⟨(some 45),none,(.ar .sub .i64 (.t 43) (.t 44))⟩,⟨(some 46),none,(.bld [(.int .i64 0),(.int .i64 0),(.int .i64 0)] [(0,(1,(.t 41))),(1,(1,(.c (.int .i64 0)))),(2,(1,(.t 45)))])⟩,⟨(some 47),none,(.bsl 47 ty_parts_piece 3 2 [(.int .i64 0),(.int .i64 0),(.int .i64 0),(.int .i64 0),(.int .i64 0),(.int .i64 0)] [(0,(3,(.t 39))),(3,(3,(.t 46)))])⟩,⟨(some 48),none,(.app 48 ty_parts_piece 3 24 (.t 33) (.t 47))⟩,⟨(some 8),none,(.mv (.t 48))⟩])
 .ret))))
def ts_parts_pair : List (Nat × Tr) := []
set_option maxRecDepth 100000 in
set_option maxHeartbeats 4000000 in
theorem ok_parts_pair : irOf Try.prog fn_parts_pair [] ts_parts_pair = some (49,[(.t 8)],ir_parts_pair) := by kernel_rfl
def ir_parts_power : C :=
 (.seq
 (.reg
 [⟨(some 5),none,(.box 5 ty_api_Rule (.t 1))⟩,⟨(some 6),none,(.box 6 ty_parts_piece (.t 2))⟩,⟨(some 8),none,(.mv (.c (.slice none 0 0)))⟩])
 (.seq
 (.seq
 (.reg
 [⟨(some 12),none,(.fa 1 (.t 6))⟩,⟨(some 13),none,(.ld (.int .i64) (.t 12))⟩,⟨(some 14),none,(.mv (.t 3))⟩,⟨(some 15),none,(.dv true .i64 (.t 13) (.t 14))⟩,⟨(some 9),none,(.mv (.t 15))⟩])
 (.seq
 (.reg
 [⟨(some 16),none,(.mv (.t 9))⟩,⟨(some 17),none,(.cmp .gtr .i64 (.t 16) (.c (.int .i64 0)))⟩])
 (.cond
 (.t 17)
 (.seq
 (.reg
 [⟨(some 18),none,(.fa 2 (.t 6))⟩,⟨(some 19),none,(.ld (.int .i64) (.t 18))⟩,⟨(some 20),none,(.mv (.t 3))⟩,⟨(some 21),none,(.mv (.t 9))⟩,⟨(some 22),none,(.ar .sub .i64 (.t 20) (.t 21))⟩,⟨(some 23),none,(.mm false .i64 (.t 19) (.t 22))⟩,⟨(some 10),none,(.mv (.t 23))⟩])
 (.seq
 (.reg
 [⟨(some 24),none,(.mv (.t 0))⟩,⟨(some 25),none,(.fa 2 (.t 5))⟩,⟨(some 26),none,(.ld (.int .i64) (.t 25))⟩,⟨(some 27),none,(.mv (.t 9))⟩,⟨(some 28),none,(.mv (.t 10))⟩,⟨(some 29),none,(.bld [(.int .i64 0),(.int .i64 0),(.int .i64 0)] [(0,(1,(.t 26))),(1,(1,(.t 27))),(2,(1,(.t 28)))])⟩,⟨(some 30),none,(.bsl 30 ty_parts_piece 3 1 [(.int .i64 0),(.int .i64 0),(.int .i64 0)] [(0,(3,(.t 29)))])⟩,⟨(some 31),none,(.app 31 ty_parts_piece 3 24 (.t 24) (.t 30))⟩,⟨(some 0),none,(.mv (.t 31))⟩])
 (.seq
 (.reg
 [⟨(some 32),none,(.fa 1 (.t 6))⟩,⟨(some 33),none,(.ld (.int .i64) (.t 32))⟩,⟨(some 34),none,(.mv (.t 10))⟩,⟨(some 35),none,(.ar .add .i64 (.t 33) (.t 34))⟩,⟨(some 36),none,(.fa 1 (.t 6))⟩,⟨none,none,(.st 1 (.t 36) (.t 35))⟩])
 (.reg
 [⟨(some 37),none,(.fa 2 (.t 6))⟩,⟨(some 38),none,(.ld (.int .i64) (.t 37))⟩,⟨(some 39),none,(.mv (.t 10))⟩,⟨(some 40),none,(.ar .sub .i64 (.t 38) (.t 39))⟩,⟨(some 41),none,(.fa 2 (.t 6))⟩,⟨none,none,(.st 1 (.t 41) (.t 40))⟩]))))
 .skip)))
 (.seq
 (.reg
 [⟨(some 42),none,(.fa 2 (.t 6))⟩,⟨(some 43),none,(.ld (.int .i64) (.t 42))⟩,⟨(some 44),none,(.mv (.t 3))⟩,⟨(some 45),none,(.dv true .i64 (.t 43) (.t 44))⟩,⟨(some 11),none,(.mv (.t 45))⟩])
 (.seq
 (.reg
 [⟨(some 46),none,(.mv (.t 0))⟩,⟨(some 47),none,(.fa 0 (.t 6))⟩,⟨(some 48),none,(.ld (.int .i64) (.t 47))⟩,⟨(some 49),none,(.fa 1 (.t 6))⟩,⟨(some 50),none,(.ld (.int .i64) (.t 49))⟩,⟨(some 51),none,(.fa 2 (.t 6))⟩,⟨(some 52),none,(.ld (.int .i64) (.t 51))⟩,⟨(some 53),none,(.mv (.t 11))⟩,⟨(some 54),none,(.ar .sub .i64 (.t 52) (.t 53))⟩,⟨(some 55),none,(.bld [(.int .i64 0),(.int .i64 0),(.int .i64 0)] [(0,(1,(.t 48))),(1,(1,(.t 50))),(2,(1,(.t 54)))])⟩,⟨(some 56),none,(.fa 2 (.t 5))⟩,⟨(some 57),none,(.ld (.int .i64) (.t 56))⟩,⟨(some 58),none,(.mv (.t 11))⟩,⟨(some 59),none,(.bld [(.int .i64 0),(.int .i64 0),(.int .i64 0)] [(0,(1,(.t 57))),(1,(1,(.c (.int .i64 0)))),(2,(1,(.t 58)))])⟩,⟨(some 60),none,(.bsl 60 ty_parts_piece 3 2 [(.int .i64 0),(.int .i64 0),(.int .i64 0),(.int .i64 0),(.int .i64 0),(.int .i64 0)] [(0,(3,(.t 55))),(3,(3,(.t 59)))])⟩,⟨(some 61),none,(.app 61 ty_parts_piece 3 24 (.t 46) (.t 60))⟩,⟨(some 8),none,(.mv (.t 61))⟩])
 .ret))))
def ts_parts_power : List (Nat × Tr) := []
set_option maxRecDepth 100000 in
set_option maxHeartbeats 4000000 in
theorem ok_parts_power : irOf Try.prog fn_parts_power [] ts_parts_power = some (62,[(.t 8)],ir_parts_power) := by kernel_rfl
def ir_parts_copies : C :=
 (.seq
 (.reg
 [⟨(some 3),none,(.box 3 ty_api_Rule (.t 0))⟩,⟨(some 4),none,(.box 4 ty_parts_piece (.t 1))⟩,⟨(some 6),none,(.alc 6 ty_parts_Part [(.int .i64 0),(.int .i64 0),(.int .i64 0)])⟩])
 (.seq
 (.seq
 (.reg
 [⟨(some 7),none,(.fa 2 (.t 4))⟩,⟨(some 8),none,(.ld (.int .i64) (.t 7))⟩,⟨(some 9),none,(.mv (.t 2))⟩,⟨(some 10),none,(.cmp .eql .i64 (.t 8) (.t 9))⟩])
 (.cond
 (.t 10)
 (.seq
 (.reg
 [⟨(some 11),none,(.fa 2 (.t 3))⟩,⟨(some 12),none,(.ld (.int .i64) (.t 11))⟩,⟨(some 13),none,(.bld [(.int .i64 0),(.int .i64 0),(.int .i64 0)] [(0,(1,(.t 12))),(2,(1,(.c (.int .i64 1))))])⟩,⟨none,none,(.st 3 (.t 6) (.t 13))⟩])
 .ret)
 .skip))
 (.seq
 (.drw
 [⟨(some 14),none,(.fa 2 (.t 3))⟩,⟨(some 15),none,(.ld (.int .i64) (.t 14))⟩,⟨(some 16),none,(.fa 0 (.t 4))⟩,⟨(some 17),none,(.ld (.int .i64) (.t 16))⟩,⟨(some 18),none,(.fa 2 (.t 4))⟩,⟨(some 19),none,(.ld (.int .i64) (.t 18))⟩,⟨(some 20),none,(.mv (.t 2))⟩,⟨(some 21),none,(.dv false .i64 (.t 19) (.t 20))⟩,⟨(some 22),none,(.bld [(.int .i64 0),(.int .i64 0),(.int .i64 0)] [(0,(1,(.t 15))),(1,(1,(.t 17))),(2,(1,(.t 21)))])⟩,⟨none,none,(.st 3 (.t 6) (.t 22))⟩]
 (.take 0 (.take 1 (.take 2 (.take 3 (.take 4 (.take 5 (.mov 6 (.take 7 (.take 8 (.bar 9 .done)))))))))))
 .ret)))
def ts_parts_copies : List (Nat × Tr) := [(3,(.take 0 (.take 1 (.take 2 (.take 3 (.take 4 (.take 5 (.mov 6 (.take 7 (.take 8 (.bar 9 .done)))))))))))]
set_option maxRecDepth 100000 in
set_option maxHeartbeats 4000000 in
theorem ok_parts_copies : irOf Try.prog fn_parts_copies [] ts_parts_copies = some (23,[(.c 6 3)],ir_parts_copies) := by kernel_rfl
def ir_slices_Reverse_Sl_parts_piece_parts_piece : C :=
 (.seq
 (.reg
 [⟨(some 4),none,(.mv (.t 0))⟩,⟨(some 5),none,(.lens (.t 4))⟩,⟨(some 6),none,(.ar .sub .i64 (.t 5) (.c (.int .i64 1)))⟩,⟨(some 2),none,(.mv (.c (.int .i64 0)))⟩,⟨(some 3),none,(.mv (.t 6))⟩])
 (.blk
 0
 (.loop
 (.seq
 (.seq
 (.reg
 [⟨(some 7),none,(.mv (.t 2))⟩,⟨(some 8),none,(.mv (.t 3))⟩,⟨(some 9),none,(.cmp .lss .i64 (.t 7) (.t 8))⟩])
 (.cond
 (.t 9)
 .skip
 (.exit 0)))
 (.seq
 (.blk
 1
 (.drw
 [⟨(some 14),none,(.mv (.t 0))⟩,⟨(some 15),none,(.mv (.t 2))⟩,⟨(some 16),none,(.mv (.t 0))⟩,⟨(some 17),none,(.mv (.t 3))⟩,⟨(some 18),none,(.mv (.t 0))⟩,⟨(some 19),none,(.mv (.t 3))⟩,⟨(some 20),none,(.ia 3 (.t 18) (.t 19))⟩,⟨(some 21),none,(.lda 3 [(.int .i64),(.int .i64),(.int .i64)] (.t 20))⟩,⟨(some 22),none,(.mv (.t 0))⟩,⟨(some 23),none,(.mv (.t 2))⟩,⟨(some 24),none,(.ia 3 (.t 22) (.t 23))⟩,⟨(some 25),none,(.lda 3 [(.int .i64),(.int .i64),(.int .i64)] (.t 24))⟩,⟨(some 26),none,(.ia 3 (.t 14) (.t 15))⟩,⟨none,none,(.st 3 (.t 26) (.t 21))⟩,⟨(some 27),none,(.ia 3 (.t 16) (.t 17))⟩,⟨none,none,(.st 3 (.t 27) (.t 25))⟩]
 (.mov 0 (.mov 1 (.mov 2 (.mov 3 (.mov 4 (.mov 5 (.take 6 (.take 7 (.mov 8 (.mov 9 (.take 10 (.take 11 (.take 12 (.bar 13 (.take 14 (.bar 15 .done))))))))))))))))))
 (.reg
 [⟨(some 10),none,(.mv (.t 2))⟩,⟨(some 11),none,(.ar .add .i64 (.t 10) (.c (.int .i64 1)))⟩,⟨(some 12),none,(.mv (.t 3))⟩,⟨(some 13),none,(.ar .sub .i64 (.t 12) (.c (.int .i64 1)))⟩,⟨(some 2),none,(.mv (.t 11))⟩,⟨(some 3),none,(.mv (.t 13))⟩]))))))
def ts_slices_Reverse_Sl_parts_piece_parts_piece : List (Nat × Tr) := [(3,(.mov 0 (.mov 1 (.mov 2 (.mov 3 (.mov 4 (.mov 5 (.take 6 (.take 7 (.mov 8 (.mov 9 (.take 10 (.take 11 (.take 12 (.bar 13 (.take 14 (.bar 15 .done)))))))))))))))))]
set_option maxRecDepth 100000 in
set_option maxHeartbeats 4000000 in
theorem ok_slices_Reverse_Sl_parts_piece_parts_piece : irOf Try.prog fn_slices_Reverse_Sl_parts_piece_parts_piece [] ts_slices_Reverse_Sl_parts_piece_parts_piece = some (28,[],ir_slices_Reverse_Sl_parts_piece_parts_piece) := by kernel_rfl
def ir_slices_Reverse_Sl_parts_Part_parts_Part : C :=
 (.seq
 (.reg
 [⟨(some 4),none,(.mv (.t 0))⟩,⟨(some 5),none,(.lens (.t 4))⟩,⟨(some 6),none,(.ar .sub .i64 (.t 5) (.c (.int .i64 1)))⟩,⟨(some 2),none,(.mv (.c (.int .i64 0)))⟩,⟨(some 3),none,(.mv (.t 6))⟩])
 (.blk
 0
 (.loop
 (.seq
 (.seq
 (.reg
 [⟨(some 7),none,(.mv (.t 2))⟩,⟨(some 8),none,(.mv (.t 3))⟩,⟨(some 9),none,(.cmp .lss .i64 (.t 7) (.t 8))⟩])
 (.cond
 (.t 9)
 .skip
 (.exit 0)))
 (.seq
 (.blk
 1
 (.drw
 [⟨(some 14),none,(.mv (.t 0))⟩,⟨(some 15),none,(.mv (.t 2))⟩,⟨(some 16),none,(.mv (.t 0))⟩,⟨(some 17),none,(.mv (.t 3))⟩,⟨(some 18),none,(.mv (.t 0))⟩,⟨(some 19),none,(.mv (.t 3))⟩,⟨(some 20),none,(.ia 3 (.t 18) (.t 19))⟩,⟨(some 21),none,(.lda 3 [(.int .i64),(.int .i64),(.int .i64)] (.t 20))⟩,⟨(some 22),none,(.mv (.t 0))⟩,⟨(some 23),none,(.mv (.t 2))⟩,⟨(some 24),none,(.ia 3 (.t 22) (.t 23))⟩,⟨(some 25),none,(.lda 3 [(.int .i64),(.int .i64),(.int .i64)] (.t 24))⟩,⟨(some 26),none,(.ia 3 (.t 14) (.t 15))⟩,⟨none,none,(.st 3 (.t 26) (.t 21))⟩,⟨(some 27),none,(.ia 3 (.t 16) (.t 17))⟩,⟨none,none,(.st 3 (.t 27) (.t 25))⟩]
 (.mov 0 (.mov 1 (.mov 2 (.mov 3 (.mov 4 (.mov 5 (.take 6 (.take 7 (.mov 8 (.mov 9 (.take 10 (.take 11 (.take 12 (.bar 13 (.take 14 (.bar 15 .done))))))))))))))))))
 (.reg
 [⟨(some 10),none,(.mv (.t 2))⟩,⟨(some 11),none,(.ar .add .i64 (.t 10) (.c (.int .i64 1)))⟩,⟨(some 12),none,(.mv (.t 3))⟩,⟨(some 13),none,(.ar .sub .i64 (.t 12) (.c (.int .i64 1)))⟩,⟨(some 2),none,(.mv (.t 11))⟩,⟨(some 3),none,(.mv (.t 13))⟩]))))))
def ts_slices_Reverse_Sl_parts_Part_parts_Part : List (Nat × Tr) := [(3,(.mov 0 (.mov 1 (.mov 2 (.mov 3 (.mov 4 (.mov 5 (.take 6 (.take 7 (.mov 8 (.mov 9 (.take 10 (.take 11 (.take 12 (.bar 13 (.take 14 (.bar 15 .done)))))))))))))))))]
set_option maxRecDepth 100000 in
set_option maxHeartbeats 4000000 in
theorem ok_slices_Reverse_Sl_parts_Part_parts_Part : irOf Try.prog fn_slices_Reverse_Sl_parts_Part_parts_Part [] ts_slices_Reverse_Sl_parts_Part_parts_Part = some (28,[],ir_slices_Reverse_Sl_parts_Part_parts_Part) := by kernel_rfl
def ir_parts_Of : C :=
 (.seq
 (.reg
 [⟨(some 8),none,(.mv (.c (.slice none 0 0)))⟩,⟨(some 9),none,(.mv (.c .nilIface))⟩])
 (.seq
 (.reg
 [⟨(some 10),none,(.mv (.c (.slice none 0 0)))⟩])
 (.seq
 (.reg
 [⟨(some 11),none,(.mv (.c (.slice none 0 0)))⟩])
 (.seq
 (.reg
 [⟨(some 18),none,(.mv (.t 1))⟩,⟨(some 19),none,(.mv (.t 2))⟩,⟨(some 20),none,(.mv (.t 3))⟩,⟨(some 21),none,(.bld [(.int .i64 0),(.int .i64 0),(.int .i64 0)] [(0,(1,(.t 18))),(1,(1,(.t 19))),(2,(1,(.t 20)))])⟩,⟨(some 22),none,(.bsl 22 ty_parts_piece 3 1 [(.int .i64 0),(.int .i64 0),(.int .i64 0)] [(0,(3,(.t 21)))])⟩,⟨(some 12),none,(.mv (.t 22))⟩])
 (.seq
 (.blk
 0
 (.loop
 (.seq
 (.seq
 (.reg
 [⟨(some 23),none,(.mv (.t 12))⟩,⟨(some 24),none,(.lens (.t 23))⟩,⟨(some 25),none,(.cmp .gtr .i64 (.t 24) (.c (.int .i64 0)))⟩])
 (.cond
 (.t 25)
 .skip
 (.exit 0)))
 (.blk
 1
 (.seq
 (.reg
 [⟨(some 26),none,(.mv (.t 12))⟩,⟨(some 27),none,(.mv (.t 12))⟩,⟨(some 28),none,(.lens (.t 27))⟩,⟨(some 29),none,(.ar .sub .i64 (.t 28) (.c (.int .i64 1)))⟩,⟨(some 30),none,(.ia 3 (.t 26) (.t 29))⟩,⟨(some 31),none,(.lda 3 [(.int .i64),(.int .i64),(.int .i64)] (.t 30))⟩,⟨(some 13),none,(.alc 13 ty_parts_piece [(.int .i64 0),(.int .i64 0),(.int .i64 0)])⟩,⟨none,none,(.st 3 (.t 13) (.t 31))⟩])
 (.seq
 (.reg
 [⟨(some 32),none,(.mv (.t 12))⟩,⟨(some 33),none,(.mv (.t 12))⟩,⟨(some 34),none,(.lens (.t 33))⟩,⟨(some 35),none,(.ar .sub .i64 (.t 34) (.c (.int .i64 1)))⟩,⟨(some 36),none,(.slo 3 (.t 32) (some (.t 35)))⟩,⟨(some 12),none,(.mv (.t 36))⟩])
 (.seq
 (.seq
 (.reg
 [⟨(some 37),none,(.fa 2 (.t 13))⟩,⟨(some 38),none,(.ld (.int .i64) (.t 37))⟩,⟨(some 39),none,(.cmp .leq .i64 (.t 38) (.c (.int .i64 0)))⟩,⟨(some 40),none,(.mv (.t 39))⟩,⟨(some 41),(some (40,false)),(.fa 0 (.t 13))⟩,⟨(some 42),(some (40,false)),(.ld (.int .i64) (.t 41))⟩,⟨(some 43),(some (40,false)),(.cmp .eql .i64 (.t 42) (.c (.int .i64 0)))⟩,⟨(some 44),none,(.pick (.t 40) (.c (.bool true)) (.t 43))⟩])
 (.cond
 (.t 44)
 (.exit 1)
 .skip))
 (.seq
 (.reg
 [⟨(some 46),none,(.mv (.t 0))⟩,⟨(some 47),none,(.fa 0 (.t 13))⟩,⟨(some 48),none,(.ld (.int .i64) (.t 47))⟩,⟨(some 49),none,(.call fn_P_intern_Store_Weight [(.t 46),(.t 48)])⟩,⟨(some 45),none,(.mv (.t 49))⟩,⟨(some 50),none,(.ext (.t 45) 0)⟩,⟨(some 51),none,(.ext (.t 45) 1)⟩,⟨(some 14),none,(.alc 14 ty_api_Weight [(.int .i64 0),(.int .i64 0),(.int .i64 0),(.int .i64 0),(.int .u64 0),(.int .u64 0)])⟩,⟨none,none,(.st 6 (.t 14) (.t 50))⟩,⟨(some 15),none,(.mv (.t 51))⟩])
 (.seq
 (.seq
 (.reg
 [⟨(some 52),none,(.mv (.t 15))⟩,⟨(some 53),none,(.eqn .ifc true (.t 52))⟩])
 (.cond
 (.t 53)
 (.seq
 (.reg
 [⟨(some 54),none,(.mv (.t 15))⟩,⟨(some 8),none,(.mv (.c (.slice none 0 0)))⟩,⟨(some 9),none,(.mv (.t 54))⟩])
 .ret)
 .skip))
 (.seq
 (.seq
 (.reg
 [⟨(some 55),none,(.fa 2 (.t 13))⟩,⟨(some 56),none,(.ld (.int .i64) (.t 55))⟩,⟨(some 57),none,(.fa 0 (.t 14))⟩,⟨(some 58),none,(.ld (.int .i64) (.t 57))⟩,⟨(some 59),none,(.cmp .geq .i64 (.t 56) (.t 58))⟩])
 (.cond
 (.t 59)
 (.seq
 (.reg
 [⟨(some 60),none,(.mv (.t 10))⟩,⟨(some 61),none,(.fa 0 (.t 13))⟩,⟨(some 62),none,(.ld (.int .i64) (.t 61))⟩,⟨(some 63),none,(.bld [(.int .i64 0),(.int .i64 0),(.int .i64 0)] [(0,(1,(.t 62))),(2,(1,(.c (.int .i64 1))))])⟩,⟨(some 64),none,(.bsl 64 ty_parts_Part 3 1 [(.int .i64 0),(.int .i64 0),(.int .i64 0)] [(0,(3,(.t 63)))])⟩,⟨(some 65),none,(.app 65 ty_parts_Part 3 24 (.t 60) (.t 64))⟩,⟨(some 10),none,(.mv (.t 65))⟩])
 (.exit 1))
 .skip))
 (.seq
 (.reg
 [⟨(some 67),none,(.mv (.t 0))⟩,⟨(some 68),none,(.fa 0 (.t 13))⟩,⟨(some 69),none,(.ld (.int .i64) (.t 68))⟩,⟨(some 70),none,(.call fn_P_intern_Store_Rule [(.t 67),(.t 69)])⟩,⟨(some 66),none,(.mv (.t 70))⟩,⟨(some 71),none,(.ext (.t 66) 0)⟩,⟨(some 72),none,(.ext (.t 66) 1)⟩,⟨(some 16),none,(.alc 16 ty_api_Rule [(.int .i64 0),(.int .u8 0),(.int .i64 0),(.int .i64 0),(.int .i64 0)])⟩,⟨none,none,(.st 5 (.t 16) (.t 71))⟩,⟨(some 15),none,(.mv (.t 72))⟩])
 (.seq
 (.seq
 (.reg
 [⟨(some 73),none,(.mv (.t 15))⟩,⟨(some 74),none,(.eqn .ifc true (.t 73))⟩])
 (.cond
 (.t 74)
 (.seq
 (.reg
 [⟨(some 75),none,(.mv (.t 15))⟩,⟨(some 8),none,(.mv (.c (.slice none 0 0)))⟩,⟨(some 9),none,(.mv (.t 75))⟩])
 .ret)
 .skip))
 (.seq
 (.reg
 [⟨(some 77),none,(.mv (.t 0))⟩,⟨(some 78),none,(.fa 2 (.t 16))⟩,⟨(some 79),none,(.ld (.int .i64) (.t 78))⟩,⟨(some 80),none,(.call fn_P_intern_Store_Weight [(.t 77),(.t 79)])⟩,⟨(some 76),none,(.mv (.t 80))⟩,⟨(some 81),none,(.ext (.t 76) 0)⟩,⟨(some 82),none,(.ext (.t 76) 1)⟩,⟨(some 17),none,(.alc 17 ty_api_Weight [(.int .i64 0),(.int .i64 0),(.int .i64 0),(.int .i64 0),(.int .u64 0),(.int .u64 0)])⟩,⟨none,none,(.st 6 (.t 17) (.t 81))⟩,⟨(some 15),none,(.mv (.t 82))⟩])
 (.seq
 (.seq
 (.reg
 [⟨(some 83),none,(.mv (.t 15))⟩,⟨(some 84),none,(.eqn .ifc true (.t 83))⟩])
 (.cond
 (.t 84)
 (.seq
 (.reg
 [⟨(some 85),none,(.mv (.t 15))⟩,⟨(some 8),none,(.mv (.c (.slice none 0 0)))⟩,⟨(some 9),none,(.mv (.t 85))⟩])
 .ret)
 .skip))
 (.seq
 (.reg
 [⟨(some 86),none,(.mv (.t 11))⟩,⟨(some 87),none,(.slo 3 (.t 86) (some (.c (.int .i64 0))))⟩,⟨(some 11),none,(.mv (.t 87))⟩])
 (.seq
 (.blk
 2
 (.seq
 (.reg
 [⟨(some 89),none,(.fa 0 (.t 16))⟩,⟨(some 90),none,(.ld (.int .i64) (.t 89))⟩,⟨(some 91),none,(.cmp .eql .i64 (.t 90) (.c (.int .i64 2)))⟩,⟨(some 88),none,(.mv (.t 91))⟩])
 (.cond
 (.t 88)
 (.reg
 [⟨(some 92),none,(.mv (.t 11))⟩,⟨(some 93),none,(.lda 5 [(.int .i64),(.int .u8),(.int .i64),(.int .i64),(.int .i64)] (.t 16))⟩,⟨(some 94),none,(.lda 3 [(.int .i64),(.int .i64),(.int .i64)] (.t 13))⟩,⟨(some 95),none,(.fa 0 (.t 17))⟩,⟨(some 96),none,(.ld (.int .i64) (.t 95))⟩,⟨(some 97),none,(.call fn_parts_pair [(.t 92),(.t 93),(.t 94),(.t 96)])⟩,⟨(some 11),none,(.mv (.t 97))⟩])
 (.seq
 (.reg
 [⟨(some 99),none,(.fa 0 (.t 16))⟩,⟨(some 100),none,(.ld (.int .i64) (.t 99))⟩,⟨(some 101),none,(.cmp .eql .i64 (.t 100) (.c (.int .i64 3)))⟩,⟨(some 102),none,(.mv (.t 101))⟩,⟨(some 103),(some (102,true)),(.fa 1 (.t 13))⟩,⟨(some 104),(some (102,true)),(.ld (.int .i64) (.t 103))⟩,⟨(some 105),(some (102,true)),(.fa 0 (.t 17))⟩,⟨(some 106),(some (102,true)),(.ld (.int .i64) (.t 105))⟩,⟨(some 107),(some (102,true)),(.dv true .i64 (.t 104) (.t 106))⟩,⟨(some 108),(some (102,true)),(.cmp .neq .i64 (.t 107) (.c (.int .i64 0)))⟩,⟨(some 109),(some (102,true)),(.mv (.t 108))⟩,⟨(some 110),(some (109,false)),(.fa 2 (.t 13))⟩,⟨(some 111),(some (109,false)),(.ld (.int .i64) (.t 110))⟩,⟨(some 112),(some (109,false)),(.fa 0 (.t 17))⟩,⟨(some 113),(some (109,false)),(.ld (.int .i64) (.t 112))⟩,⟨(some 114),(some (109,false)),(.dv true .i64 (.t 111) (.t 113))⟩,⟨(some 115),(some (109,false)),(.cmp .neq .i64 (.t 114) (.c (.int .i64 0)))⟩,⟨(some 116),(some (102,true)),(.pick (.t 109) (.c (.bool true)) (.t 115))⟩,⟨(some 117),none,(.pick (.t 102) (.t 116) (.c (.bool false)))⟩,⟨(some 98),none,(.mv (.t 117))⟩])
 (.cond
 (.t 98)
 (.reg
 [⟨(some 118),none,(.mv (.t 11))⟩,⟨(some 119),none,(.lda 5 [(.int .i64),(.int .u8),(.int .i64),(.int .i64),(.int .i64)] (.t 16))⟩,⟨(some 120),none,(.lda 3 [(.int .i64),(.int .i64),(.int .i64)] (.t 13))⟩,⟨(some 121),none,(.fa 0 (.t 17))⟩,⟨(some 122),none,(.ld (.int .i64) (.t 121))⟩,⟨(some 123),none,(.call fn_parts_power [(.t 118),(.t 119),(.t 120),(.t 122)])⟩,⟨(some 11),none,(.mv (.t 123))⟩])
 (.seq
 (.reg
 [⟨(some 125),none,(.fa 0 (.t 16))⟩,⟨(some 126),none,(.ld (.int .i64) (.t 125))⟩,⟨(some 127),none,(.cmp .eql .i64 (.t 126) (.c (.int .i64 3)))⟩,⟨(some 124),none,(.mv (.t 127))⟩])
 (.cond
 (.t 124)
 (.reg
 [⟨(some 128),none,(.mv (.t 10))⟩,⟨(some 129),none,(.lda 5 [(.int .i64),(.int .u8),(.int .i64),(.int .i64),(.int .i64)] (.t 16))⟩,⟨(some 130),none,(.lda 3 [(.int .i64),(.int .i64),(.int .i64)] (.t 13))⟩,⟨(some 131),none,(.fa 0 (.t 17))⟩,⟨(some 132),none,(.ld (.int .i64) (.t 131))⟩,⟨(some 133),none,(.call fn_parts_copies [(.t 129),(.t 130),(.t 132)])⟩,⟨(some 134),none,(.bsl 134 ty_parts_Part 3 1 [(.int .i64 0),(.int .i64 0),(.int .i64 0)] [(0,(3,(.t 133)))])⟩,⟨(some 135),none,(.app 135 ty_parts_Part 3 24 (.t 128) (.t 134))⟩,⟨(some 10),none,(.mv (.t 135))⟩])
 .skip)))))))
 (.seq
 (.reg
 [⟨(some 136),none,(.mv (.t 11))⟩,⟨(some 137),none,(.call fn_slices_Reverse_Sl_parts_piece_parts_piece [(.t 136)])⟩])
 (.reg
 [⟨(some 138),none,(.mv (.t 12))⟩,⟨(some 139),none,(.mv (.t 11))⟩,⟨(some 140),none,(.app 140 ty_parts_piece 3 24 (.t 138) (.t 139))⟩,⟨(some 12),none,(.mv (.t 140))⟩]))))))))))))))))))
 (.seq
 (.reg
 [⟨(some 141),none,(.mv (.t 10))⟩,⟨(some 8),none,(.mv (.t 141))⟩,⟨(some 9),none,(.mv (.c .nilIface))⟩])
 .ret))))))
def ts_parts_Of : List (Nat × Tr) := []
set_option maxRecDepth 100000 in
set_option maxHeartbeats 4000000 in
theorem ok_parts_Of : irOf Try.prog fn_parts_Of [36,87] ts_parts_Of = some (142,[(.t 8),(.t 9)],ir_parts_Of) := by kernel_rfl
def ir_transfer_clone : C :=
 (.seq
 (.reg
 [⟨(some 1),none,(.box 1 ty_api_Machine (.t 0))⟩,⟨(some 2),none,(.alc 2 ty_api_Machine [(.int .i64 0),(.slice none 0 0),(.slice none 0 0),(.slice none 0 0)])⟩])
 (.seq
 (.reg
 [⟨(some 6),none,(.fa 2 (.t 1))⟩,⟨(some 7),none,(.ld .slc (.t 6))⟩,⟨(some 8),none,(.lens (.t 7))⟩,⟨(some 9),none,(.mks 9 ty_Sl_int 1 24 [(.slice none 0 0)] (.t 8) (.t 8))⟩,⟨(some 3),none,(.mv (.t 9))⟩])
 (.seq
 (.seq
 (.reg
 [⟨(some 10),none,(.fa 2 (.t 1))⟩,⟨(some 11),none,(.ld .slc (.t 10))⟩,⟨(some 12),none,(.lens (.t 11))⟩,⟨(some 13),none,(.mv (.c (.int .i64 0)))⟩])
 (.blk
 0
 (.loop
 (.seq
 (.reg
 [⟨(some 14),none,(.cmp .lss .i64 (.t 13) (.t 12))⟩])
 (.seq
 (.cond
 (.t 14)
 .skip
 (.exit 0))
 (.seq
 (.blk
 1
 (.seq
 (.reg
 [⟨(some 15),none,(.mv (.t 13))⟩,⟨(some 16),none,(.ia 1 (.t 11) (.t 13))⟩,⟨(some 17),none,(.ld .slc (.t 16))⟩,⟨(some 4),none,(.mv (.t 15))⟩,⟨(some 5),none,(.mv (.t 17))⟩])
 (.reg
 [⟨(some 18),none,(.mv (.t 3))⟩,⟨(some 19),none,(.mv (.t 4))⟩,⟨(some 20),none,(.mv (.t 5))⟩,⟨(some 21),none,(.call fn_slices_Clone_Sl_int_int [(.t 20)])⟩,⟨(some 22),none,(.ia 1 (.t 18) (.t 19))⟩,⟨none,none,(.st 1 (.t 22) (.t 21))⟩])))
 (.reg
 [⟨(some 23),none,(.ar .add .i64 (.t 13) (.c (.int .i64 1)))⟩,⟨(some 13),none,(.mv (.t 23))⟩])))))))
 (.seq
 (.drw
 [⟨(some 24),none,(.fa 0 (.t 1))⟩,⟨(some 25),none,(.ld (.int .i64) (.t 24))⟩,⟨(some 26),none,(.fa 1 (.t 1))⟩,⟨(some 27),none,(.ld .slc (.t 26))⟩,⟨(some 28),none,(.call fn_slices_Clone_Sl_int_int [(.t 27)])⟩,⟨(some 29),none,(.mv (.t 3))⟩,⟨(some 30),none,(.fa 3 (.t 1))⟩,⟨(some 31),none,(.ld .slc (.t 30))⟩,⟨(some 32),none,(.call fn_slices_Clone_Sl_bool_bool [(.t 31)])⟩,⟨(some 33),none,(.bld [(.int .i64 0),(.slice none 0 0),(.slice none 0 0),(.slice none 0 0)] [(0,(1,(.t 25))),(1,(1,(.t 28))),(2,(1,(.t 29))),(3,(1,(.t 32)))])⟩,⟨none,none,(.st 4 (.t 2) (.t 33))⟩]
 (.take 0 (.take 1 (.take 2 (.take 3 (.mov 5 (.take 6 (.take 7 (.alt 4 true (.alt 8 true (.take 9 (.bar 10 .done)) .nil) .nil)))))))))
 .ret))))
def ts_transfer_clone : List (Nat × Tr) := [(7,(.take 0 (.take 1 (.take 2 (.take 3 (.mov 5 (.take 6 (.take 7 (.alt 4 true (.alt 8 true (.take 9 (.bar 10 .done)) .nil) .nil)))))))))]
set_option maxRecDepth 100000 in
set_option maxHeartbeats 4000000 in
theorem ok_transfer_clone : irOf Try.prog fn_transfer_clone [] ts_transfer_clone = some (34,[(.c 2 4)],ir_transfer_clone) := by kernel_rfl
def ir_transfer_effect_run : C :=
 (.seq
 (.reg
 [⟨(some 3),none,(.box 3 ty_transfer_effect (.t 0))⟩,⟨(some 6),none,(.mv (.c (.int .i64 0)))⟩,⟨(some 7),none,(.mv (.c (.int .i64 0)))⟩])
 (.seq
 (.drw
 [⟨(some 8),none,(.fa 0 (.t 3))⟩,⟨(some 9),none,(.ld .slc (.t 8))⟩,⟨(some 10),none,(.mv (.t 1))⟩,⟨(some 11),none,(.ia 1 (.t 9) (.t 10))⟩,⟨(some 12),none,(.ld (.int .u8) (.t 11))⟩,⟨(some 13),none,(.cv .i64 (.t 12))⟩,⟨(some 14),none,(.mv (.t 2))⟩,⟨(some 15),none,(.fa 1 (.t 3))⟩,⟨(some 16),none,(.ld .slc (.t 15))⟩,⟨(some 17),none,(.mv (.t 1))⟩,⟨(some 18),none,(.ia 1 (.t 16) (.t 17))⟩,⟨(some 19),none,(.ld (.int .i64) (.t 18))⟩,⟨(some 20),none,(.ar .add .i64 (.t 14) (.t 19))⟩,⟨(some 21),none,(.mm false .i64 (.t 20) (.c (.int .i64 1152921504606846977)))⟩,⟨(some 6),none,(.mv (.t 13))⟩,⟨(some 7),none,(.mv (.t 21))⟩]
 (.take 0 (.take 1 (.mov 2 (.take 3 (.take 4 (.take 5 (.mov 6 (.take 7 (.take 8 (.mov 9 (.take 10 (.take 11 (.take 12 (.take 13 (.mov 14 (.mov 15 .done)))))))))))))))))
 .ret))
def ts_transfer_effect_run : List (Nat × Tr) := [(1,(.take 0 (.take 1 (.mov 2 (.take 3 (.take 4 (.take 5 (.mov 6 (.take 7 (.take 8 (.mov 9 (.take 10 (.take 11 (.take 12 (.take 13 (.mov 14 (.mov 15 .done)))))))))))))))))]
set_option maxRecDepth 100000 in
set_option maxHeartbeats 4000000 in
theorem ok_transfer_effect_run : irOf Try.prog fn_transfer_effect_run [] ts_transfer_effect_run = some (22,[(.t 6),(.t 7)],ir_transfer_effect_run) := by kernel_rfl
def ir_transfer_join : C :=
 (.seq
 (.reg
 [⟨(some 2),none,(.box 2 ty_transfer_effect (.t 0))⟩,⟨(some 3),none,(.box 3 ty_transfer_effect (.t 1))⟩,⟨(some 4),none,(.alc 4 ty_transfer_effect [(.slice none 0 0),(.slice none 0 0)])⟩])
 (.cut
 (.drw
 [⟨(some 9),none,(.fa 0 (.t 2))⟩,⟨(some 10),none,(.ld .slc (.t 9))⟩,⟨(some 11),none,(.lens (.t 10))⟩,⟨(some 12),none,(.mks 12 ty_uint8 1 1 [(.int .u8 0)] (.t 11) (.t 11))⟩,⟨(some 13),none,(.fa 0 (.t 2))⟩,⟨(some 14),none,(.ld .slc (.t 13))⟩,⟨(some 15),none,(.lens (.t 14))⟩,⟨(some 16),none,(.mks 16 ty_int 1 8 [(.int .i64 0)] (.t 15) (.t 15))⟩,⟨(some 17),none,(.bld [(.slice none 0 0),(.slice none 0 0)] [(0,(1,(.t 12))),(1,(1,(.t 16)))])⟩,⟨(some 5),none,(.alc 5 ty_transfer_effect [(.slice none 0 0),(.slice none 0 0)])⟩,⟨none,none,(.st 2 (.t 5) (.t 17))⟩]
 (.take 0 (.take 1 (.take 2 (.take 4 (.take 5 (.take 6 (.alt 3 true (.alt 7 true (.take 8 (.alt 9 true (.bar 10 .done) .nil)) (.alt 9 true (.alt 7 true (.take 8 (.bar 10 .done)) .nil) .nil)) (.alt 7 true (.alt 3 true (.take 8 (.alt 9 true (.bar 10 .done) .nil)) (.alt 9 true (.alt 3 true (.take 8 (.bar 10 .done)) .nil) .nil)) (.alt 9 true (.alt 3 true (.alt 7 true (.take 8 (.bar 10 .done)) .nil) (.alt 7 true (.alt 3 true (.take 8 (.bar 10 .done)) .nil) .nil)) .nil))))))))))
 (.seq
 (.seq
 (.reg
 [⟨(some 18),none,(.fa 0 (.t 2))⟩,⟨(some 19),none,(.ld .slc (.t 18))⟩,⟨(some 20),none,(.lens (.t 19))⟩,⟨(some 21),none,(.mv (.c (.int .i64 0)))⟩])
 (.blk
 0
 (.loop
 (.seq
 (.reg
 [⟨(some 22),none,(.cmp .lss .i64 (.t 21) (.t 20))⟩])
 (.seq
 (.cond
 (.t 22)
 .skip
 (.exit 0))
 (.seq
 (.blk
 1
 (.seq
 (.reg
 [⟨(some 23),none,(.mv (.t 21))⟩,⟨(some 6),none,(.mv (.t 23))⟩])
 (.seq
 (.drw
 [⟨(some 25),none,(.lda 2 [.slc,.slc] (.t 3))⟩,⟨(some 26),none,(.fa 0 (.t 2))⟩,⟨(some 27),none,(.ld .slc (.t 26))⟩,⟨(some 28),none,(.mv (.t 6))⟩,⟨(some 29),none,(.ia 1 (.t 27) (.t 28))⟩,⟨(some 30),none,(.ld (.int .u8) (.t 29))⟩,⟨(some 31),none,(.cv .i64 (.t 30))⟩,⟨(some 32),none,(.fa 1 (.t 2))⟩,⟨(some 33),none,(.ld .slc (.t 32))⟩,⟨(some 34),none,(.mv (.t 6))⟩,⟨(some 35),none,(.ia 1 (.t 33) (.t 34))⟩,⟨(some 36),none,(.ld (.int .i64) (.t 35))⟩,⟨(some 37),none,(.call fn_transfer_effect_run [(.t 25),(.t 31),(.t 36)])⟩,⟨(some 24),none,(.mv (.t 37))⟩,⟨(some 38),none,(.ext (.t 24) 0)⟩,⟨(some 39),none,(.ext (.t 24) 1)⟩,⟨(some 7),none,(.mv (.t 38))⟩,⟨(some 8),none,(.mv (.t 39))⟩]
 (.take 0 (.take 1 (.take 2 (.mov 3 (.take 4 (.take 5 (.take 6 (.take 7 (.take 8 (.mov 9 (.take 10 (.take 11 (.bar 12 (.mov 13 (.mov 14 (.mov 15 (.mov 16 (.mov 17 .done)))))))))))))))))))
 (.seq
 (.reg
 [⟨(some 40),none,(.fa 0 (.t 5))⟩,⟨(some 41),none,(.ld .slc (.t 40))⟩,⟨(some 42),none,(.mv (.t 6))⟩,⟨(some 43),none,(.mv (.t 7))⟩,⟨(some 44),none,(.cv .u8 (.t 43))⟩,⟨(some 45),none,(.ia 1 (.t 41) (.t 42))⟩,⟨none,none,(.st 1 (.t 45) (.t 44))⟩])
 (.reg
 [⟨(some 46),none,(.fa 1 (.t 5))⟩,⟨(some 47),none,(.ld .slc (.t 46))⟩,⟨(some 48),none,(.mv (.t 6))⟩,⟨(some 49),none,(.mv (.t 8))⟩,⟨(some 50),none,(.ia 1 (.t 47) (.t 48))⟩,⟨none,none,(.st 1 (.t 50) (.t 49))⟩])))))
 (.reg
 [⟨(some 51),none,(.ar .add .i64 (.t 21) (.c (.int .i64 1)))⟩,⟨(some 21),none,(.mv (.t 51))⟩])))))))
 (.seq
 (.reg
 [⟨(some 52),none,(.lda 2 [.slc,.slc] (.t 5))⟩,⟨none,none,(.st 2 (.t 4) (.t 52))⟩])
 .ret))))
def ts_transfer_join : List (Nat × Tr) := [(1,(.take 0 (.take 1 (.take 2 (.take 4 (.take 5 (.take 6 (.alt 3 true (.alt 7 true (.take 8 (.alt 9 true (.bar 10 .done) .nil)) (.alt 9 true (.alt 7 true (.take 8 (.bar 10 .done)) .nil) .nil)) (.alt 7 true (.alt 3 true (.take 8 (.alt 9 true (.bar 10 .done) .nil)) (.alt 9 true (.alt 3 true (.take 8 (.bar 10 .done)) .nil) .nil)) (.alt 9 true (.alt 3 true (.alt 7 true (.take 8 (.bar 10 .done)) .nil) (.alt 7 true (.alt 3 true (.take 8 (.bar 10 .done)) .nil) .nil)) .nil)))))))))),(5,(.take 0 (.take 1 (.take 2 (.mov 3 (.take 4 (.take 5 (.take 6 (.take 7 (.take 8 (.mov 9 (.take 10 (.take 11 (.bar 12 (.mov 13 (.mov 14 (.mov 15 (.mov 16 (.mov 17 .done)))))))))))))))))))]
set_option maxRecDepth 100000 in
set_option maxHeartbeats 4000000 in
theorem ok_transfer_join : irOf Try.prog fn_transfer_join [1000018] ts_transfer_join = some (53,[(.c 4 2)],ir_transfer_join) := by kernel_rfl
def ir_P_transfer_Table_entry : C :=
 (.seq
 (.reg
 [⟨(some 3),none,(.box 3 ty_api_Rule (.t 1))⟩,⟨(some 4),none,(.alc 4 ty_transfer_entry [(.slice none 0 0),(.slice none 0 0),(.slice none 0 0)])⟩])
 (.seq
 (.seq
 (.reg
 [⟨(some 17),none,(.fa 0 (.t 3))⟩,⟨(some 18),none,(.ld (.int .i64) (.t 17))⟩])
 (.blk
 0
 (.seq
 (.reg
 [⟨(some 20),none,(.cmp .eql .i64 (.t 18) (.c (.int .i64 2)))⟩,⟨(some 19),none,(.mv (.t 20))⟩])
 (.cond
 (.t 19)
 (.seq
 (.drw
 [⟨(some 21),none,(.mv (.t 0))⟩,⟨(some 22),none,(.nil (.t 21))⟩,⟨(some 23),none,(.fa 7 (.t 22))⟩,⟨(some 24),none,(.ld .map (.t 23))⟩,⟨(some 25),none,(.fa 2 (.t 3))⟩,⟨(some 26),none,(.ld (.int .i64) (.t 25))⟩,⟨(some 27),none,(.lku (.int .i64) false (.agg [(.slice none 0 0),(.slice none 0 0),(.slice none 0 0)].toArray) (.t 24) (.t 26))⟩,⟨(some 28),none,(.fls 0 2 (.t 27))⟩,⟨(some 29),none,(.mv (.t 0))⟩,⟨(some 30),none,(.nil (.t 29))⟩,⟨(some 31),none,(.fa 7 (.t 30))⟩,⟨(some 32),none,(.ld .map (.t 31))⟩,⟨(some 33),none,(.fa 3 (.t 3))⟩,⟨(some 34),none,(.ld (.int .i64) (.t 33))⟩,⟨(some 35),none,(.lku (.int .i64) false (.agg [(.slice none 0 0),(.slice none 0 0),(.slice none 0 0)].toArray) (.t 32) (.t 34))⟩,⟨(some 36),none,(.fls 0 2 (.t 35))⟩,⟨(some 5),none,(.alc 5 ty_transfer_effect [(.slice none 0 0),(.slice none 0 0)])⟩,⟨(some 6),none,(.alc 6 ty_transfer_effect [(.slice none 0 0),(.slice none 0 0)])⟩,⟨none,none,(.st 2 (.t 5) (.t 28))⟩,⟨none,none,(.st 2 (.t 6) (.t 36))⟩]
 (.mov 0 (.take 1 (.take 2 (.take 3 (.take 4 (.take 5 (.take 6 (.take 7 (.mov 8 (.take 9 (.take 10 (.take 11 (.take 12 (.take 13 (.take 14 (.take 15 (.alt 16 true (.alt 17 true (.alt 18 true (.bar 19 .done) .nil) .nil) (.alt 17 true (.alt 16 true (.alt 18 true (.bar 19 .done) .nil) .nil) .nil)))))))))))))))))))
 (.seq
 (.seq
 (.reg
 [⟨(some 37),none,(.mv (.t 0))⟩,⟨(some 38),none,(.nil (.t 37))⟩,⟨(some 39),none,(.fa 6 (.t 38))⟩,⟨(some 40),none,(.ld .bool (.t 39))⟩])
 (.cond
 (.t 40)
 (.reg
 [⟨(some 41),none,(.lda 2 [.slc,.slc] (.t 6))⟩,⟨(some 42),none,(.lda 2 [.slc,.slc] (.t 5))⟩,⟨none,none,(.st 2 (.t 5) (.t 41))⟩,⟨none,none,(.st 2 (.t 6) (.t 42))⟩])
 .skip))
 (.seq
 (.reg
 [⟨(some 43),none,(.lda 2 [.slc,.slc] (.t 5))⟩,⟨(some 44),none,(.lda 2 [.slc,.slc] (.t 6))⟩,⟨(some 45),none,(.call fn_transfer_join [(.t 43),(.t 44)])⟩,⟨(some 46),none,(.bld [(.slice none 0 0),(.slice none 0 0),(.slice none 0 0)] [(0,(2,(.t 45)))])⟩,⟨none,none,(.st 3 (.t 4) (.t 46))⟩])
 .ret)))
 (.seq
 (.reg
 [⟨(some 48),none,(.cmp .eql .i64 (.t 18) (.c (.int .i64 3)))⟩,⟨(some 47),none,(.mv (.t 48))⟩])
 (.cond
 (.t 47)
 (.seq
 (.drw
 [⟨(some 49),none,(.mv (.t 0))⟩,⟨(some 50),none,(.nil (.t 49))⟩,⟨(some 51),none,(.fa 7 (.t 50))⟩,⟨(some 52),none,(.ld .map (.t 51))⟩,⟨(some 53),none,(.fa 2 (.t 3))⟩,⟨(some 54),none,(.ld (.int .i64) (.t 53))⟩,⟨(some 55),none,(.lku (.int .i64) false (.agg [(.slice none 0 0),(.slice none 0 0),(.slice none 0 0)].toArray) (.t 52) (.t 54))⟩,⟨(some 56),none,(.fls 0 2 (.t 55))⟩,⟨(some 7),none,(.alc 7 ty_transfer_effect [(.slice none 0 0),(.slice none 0 0)])⟩,⟨none,none,(.st 2 (.t 7) (.t 56))⟩]
 (.mov 0 (.take 1 (.take 2 (.take 3 (.take 4 (.take 5 (.take 6 (.take 7 (.alt 8 true (.bar 9 .done) .nil))))))))))
 (.seq
 (.reg
 [⟨(some 57),none,(.lda 2 [.slc,.slc] (.t 7))⟩,⟨(some 58),none,(.bsl 58 ty_transfer_effect 2 1 [(.slice none 0 0),(.slice none 0 0)] [(0,(2,(.t 57)))])⟩,⟨(some 8),none,(.mv (.t 58))⟩])
 (.seq
 (.drw
 [⟨(some 59),none,(.lda 2 [.slc,.slc] (.t 7))⟩,⟨(some 60),none,(.fa 4 (.t 3))⟩,⟨(some 61),none,(.ld (.int .i64) (.t 60))⟩,⟨(some 62),none,(.bit .and .i64 (.t 61) (.c (.int .i64 1)))⟩,⟨(some 63),none,(.cmp .eql .i64 (.t 62) (.c (.int .i64 1)))⟩,⟨(some 9),none,(.alc 9 ty_transfer_effect [(.slice none 0 0),(.slice none 0 0)])⟩,⟨none,none,(.st 2 (.t 9) (.t 59))⟩,⟨(some 10),none,(.mv (.t 63))⟩]
 (.take 0 (.take 1 (.take 2 (.take 3 (.take 4 (.alt 5 true (.alt 6 true (.mov 7 .done) .nil) .nil)))))))
 (.seq
 (.seq
 (.reg
 [⟨(some 64),none,(.fa 4 (.t 3))⟩,⟨(some 65),none,(.ld (.int .i64) (.t 64))⟩,⟨(some 66),none,(.sh false .i64 (.t 65) (.c (.int .u64 1)))⟩,⟨(some 11),none,(.mv (.t 66))⟩])
 (.blk
 1
 (.loop
 (.seq
 (.seq
 (.reg
 [⟨(some 67),none,(.mv (.t 11))⟩,⟨(some 68),none,(.cmp .gtr .i64 (.t 67) (.c (.int .i64 0)))⟩])
 (.cond
 (.t 68)
 .skip
 (.exit 1)))
 (.seq
 (.blk
 2
 (.seq
 (.reg
 [⟨(some 71),none,(.lda 2 [.slc,.slc] (.t 7))⟩,⟨(some 72),none,(.lda 2 [.slc,.slc] (.t 7))⟩,⟨(some 73),none,(.call fn_transfer_join [(.t 71),(.t 72)])⟩,⟨none,none,(.st 2 (.t 7) (.t 73))⟩])
 (.seq
 (.reg
 [⟨(some 74),none,(.mv (.t 8))⟩,⟨(some 75),none,(.lda 2 [.slc,.slc] (.t 7))⟩,⟨(some 76),none,(.bsl 76 ty_transfer_effect 2 1 [(.slice none 0 0),(.slice none 0 0)] [(0,(2,(.t 75)))])⟩,⟨(some 77),none,(.app 77 ty_transfer_effect 2 48 (.t 74) (.t 76))⟩,⟨(some 8),none,(.mv (.t 77))⟩])
 (.blk
 3
 (.seq
 (.reg
 [⟨(some 79),none,(.mv (.t 11))⟩,⟨(some 80),none,(.bit .and .i64 (.t 79) (.c (.int .i64 1)))⟩,⟨(some 81),none,(.cmp .eql .i64 (.t 80) (.c (.int .i64 1)))⟩,⟨(some 82),none,(.mv (.t 81))⟩,⟨(some 83),(some (82,true)),(.mv (.t 10))⟩,⟨(some 84),none,(.pick (.t 82) (.t 83) (.c (.bool false)))⟩,⟨(some 78),none,(.mv (.t 84))⟩])
 (.cond
 (.t 78)
 (.reg
 [⟨(some 85),none,(.lda 2 [.slc,.slc] (.t 9))⟩,⟨(some 86),none,(.lda 2 [.slc,.slc] (.t 7))⟩,⟨(some 87),none,(.call fn_transfer_join [(.t 85),(.t 86)])⟩,⟨none,none,(.st 2 (.t 9) (.t 87))⟩])
 (.seq
 (.reg
 [⟨(some 89),none,(.mv (.t 11))⟩,⟨(some 90),none,(.bit .and .i64 (.t 89) (.c (.int .i64 1)))⟩,⟨(some 91),none,(.cmp .eql .i64 (.t 90) (.c (.int .i64 1)))⟩,⟨(some 88),none,(.mv (.t 91))⟩])
 (.cond
 (.t 88)
 (.reg
 [⟨(some 92),none,(.lda 2 [.slc,.slc] (.t 7))⟩,⟨none,none,(.st 2 (.t 9) (.t 92))⟩,⟨(some 10),none,(.mv (.c (.bool true)))⟩])
 .skip))))))))
 (.reg
 [⟨(some 69),none,(.mv (.t 11))⟩,⟨(some 70),none,(.sh false .i64 (.t 69) (.c (.int .u64 1)))⟩,⟨(some 11),none,(.mv (.t 70))⟩]))))))
 (.seq
 (.reg
 [⟨(some 93),none,(.lda 2 [.slc,.slc] (.t 9))⟩,⟨(some 94),none,(.mv (.t 8))⟩,⟨(some 95),none,(.bld [(.slice none 0 0),(.slice none 0 0),(.slice none 0 0)] [(0,(2,(.t 93))),(2,(1,(.t 94)))])⟩,⟨none,none,(.st 3 (.t 4) (.t 95))⟩])
 .ret)))))
 .skip))))))
 (.seq
 (.reg
 [⟨(some 96),none,(.mv (.t 0))⟩,⟨(some 97),none,(.nil (.t 96))⟩,⟨(some 98),none,(.fa 1 (.t 97))⟩,⟨(some 99),none,(.fa 2 (.t 98))⟩,⟨(some 100),none,(.ld .slc (.t 99))⟩,⟨(some 101),none,(.lens (.t 100))⟩,⟨(some 12),none,(.mv (.t 101))⟩])
 (.cut
 (.drw
 [⟨(some 102),none,(.mv (.t 12))⟩,⟨(some 103),none,(.mks 103 ty_uint8 1 1 [(.int .u8 0)] (.t 102) (.t 102))⟩,⟨(some 104),none,(.mv (.t 12))⟩,⟨(some 105),none,(.mks 105 ty_int 1 8 [(.int .i64 0)] (.t 104) (.t 104))⟩,⟨(some 106),none,(.bld [(.slice none 0 0),(.slice none 0 0)] [(0,(1,(.t 103))),(1,(1,(.t 105)))])⟩,⟨(some 13),none,(.alc 13 ty_transfer_effect [(.slice none 0 0),(.slice none 0 0)])⟩,⟨none,none,(.st 2 (.t 13) (.t 106))⟩]
 (.mov 0 (.mov 2 (.alt 1 true (.alt 3 true (.take 4 (.alt 5 true (.alt 6 false .done .nil) .nil)) (.alt 5 true (.alt 3 true (.take 4 (.alt 6 false .done .nil)) .nil) .nil)) (.alt 3 true (.alt 1 true (.take 4 (.alt 5 true (.alt 6 false .done .nil) .nil)) (.alt 5 true (.alt 1 true (.take 4 (.alt 6 false .done .nil)) .nil) .nil)) (.alt 5 true (.alt 1 true (.alt 3 true (.take 4 (.alt 6 false .done .nil)) .nil) (.alt 3 true (.alt 1 true (.take 4 (.alt 6 false .done .nil)) .nil) .nil)) .nil))))))
 (.seq
 (.seq
 (.reg
 [⟨(some 107),none,(.mv (.t 0))⟩,⟨(some 108),none,(.nil (.t 107))⟩,⟨(some 109),none,(.fa 1 (.t 108))⟩,⟨(some 110),none,(.fa 2 (.t 109))⟩,⟨(some 111),none,(.ld .slc (.t 110))⟩,⟨(some 112),none,(.lens (.t 111))⟩,⟨(some 113),none,(.mv (.c (.int .i64 0)))⟩])
 (.blk
 4
 (.loop
 (.seq
 (.reg
 [⟨(some 114),none,(.cmp .lss .i64 (.t 113) (.t 112))⟩])
 (.seq
 (.cond
 (.t 114)
 .skip
 (.exit 4))
 (.seq
 (.blk
 5
 (.seq
 (.reg
 [⟨(some 115),none,(.mv (.t 113))⟩,⟨(some 116),none,(.ia 1 (.t 111) (.t 113))⟩,⟨(some 117),none,(.ld .slc (.t 116))⟩,⟨(some 14),none,(.mv (.t 115))⟩,⟨(some 15),none,(.mv (.t 117))⟩])
 (.seq
 (.drw
 [⟨(some 118),none,(.mv (.t 15))⟩,⟨(some 119),none,(.mv (.t 0))⟩,⟨(some 120),none,(.nil (.t 119))⟩,⟨(some 121),none,(.fa 1 (.t 120))⟩,⟨(some 122),none,(.fa 1 (.t 121))⟩,⟨(some 123),none,(.ld .slc (.t 122))⟩,⟨(some 124),none,(.fa 1 (.t 3))⟩,⟨(some 125),none,(.ld (.int .u8) (.t 124))⟩,⟨(some 126),none,(.ia 1 (.t 123) (.t 125))⟩,⟨(some 127),none,(.ld (.int .i64) (.t 126))⟩,⟨(some 128),none,(.ia 1 (.t 118) (.t 127))⟩,⟨(some 129),none,(.ld (.int .i64) (.t 128))⟩,⟨(some 16),none,(.mv (.t 129))⟩]
 (.mov 0 (.mov 1 (.take 2 (.take 3 (.take 4 (.take 5 (.take 6 (.take 7 (.take 8 (.take 9 (.take 10 (.take 11 (.mov 12 .done))))))))))))))
 (.seq
 (.reg
 [⟨(some 130),none,(.fa 0 (.t 13))⟩,⟨(some 131),none,(.ld .slc (.t 130))⟩,⟨(some 132),none,(.mv (.t 14))⟩,⟨(some 133),none,(.mv (.t 16))⟩,⟨(some 134),none,(.cv .u8 (.t 133))⟩,⟨(some 135),none,(.ia 1 (.t 131) (.t 132))⟩,⟨none,none,(.st 1 (.t 135) (.t 134))⟩])
 (.drw
 [⟨(some 136),none,(.fa 1 (.t 13))⟩,⟨(some 137),none,(.ld .slc (.t 136))⟩,⟨(some 138),none,(.mv (.t 14))⟩,⟨(some 139),none,(.mv (.t 0))⟩,⟨(some 140),none,(.nil (.t 139))⟩,⟨(some 141),none,(.fa 5 (.t 140))⟩,⟨(some 142),none,(.ld .slc (.t 141))⟩,⟨(some 143),none,(.mv (.t 16))⟩,⟨(some 144),none,(.ia 1 (.t 142) (.t 143))⟩,⟨(some 145),none,(.ld (.int .i64) (.t 144))⟩,⟨(some 146),none,(.ia 1 (.t 137) (.t 138))⟩,⟨none,none,(.st 1 (.t 146) (.t 145))⟩]
 (.take 0 (.take 1 (.mov 2 (.mov 3 (.take 4 (.take 5 (.take 6 (.mov 7 (.take 8 (.take 9 (.take 10 (.bar 11 .done)))))))))))))))))
 (.reg
 [⟨(some 147),none,(.ar .add .i64 (.t 113) (.c (.int .i64 1)))⟩,⟨(some 113),none,(.mv (.t 147))⟩])))))))
 (.seq
 (.reg
 [⟨(some 148),none,(.lda 2 [.slc,.slc] (.t 13))⟩,⟨(some 149),none,(.bld [(.slice none 0 0),(.slice none 0 0),(.slice none 0 0)] [(0,(2,(.t 148)))])⟩,⟨none,none,(.st 3 (.t 4) (.t 149))⟩])
 .ret))))))
def ts_P_transfer_Table_entry : List (Nat × Tr) := [(3,(.mov 0 (.take 1 (.take 2 (.take 3 (.take 4 (.take 5 (.take 6 (.take 7 (.mov 8 (.take 9 (.take 10 (.take 11 (.take 12 (.take 13 (.take 14 (.take 15 (.alt 16 true (.alt 17 true (.alt 18 true (.bar 19 .done) .nil) .nil) (.alt 17 true (.alt 16 true (.alt 18 true (.bar 19 .done) .nil) .nil) .nil))))))))))))))))))),(8,(.mov 0 (.take 1 (.take 2 (.take 3 (.take 4 (.take 5 (.take 6 (.take 7 (.alt 8 true (.bar 9 .done) .nil)))))))))),(10,(.take 0 (.take 1 (.take 2 (.take 3 (.take 4 (.alt 5 true (.alt 6 true (.mov 7 .done) .nil) .nil))))))),(22,(.mov 0 (.mov 2 (.alt 1 true (.alt 3 true (.take 4 (.alt 5 true (.alt 6 false .done .nil) .nil)) (.alt 5 true (.alt 3 true (.take 4 (.alt 6 false .done .nil)) .nil) .nil)) (.alt 3 true (.alt 1 true (.take 4 (.alt 5 true (.alt 6 false .done .nil) .nil)) (.alt 5 true (.alt 1 true (.take 4 (.alt 6 false .done .nil)) .nil) .nil)) (.alt 5 true (.alt 1 true (.alt 3 true (.take 4 (.alt 6 false .done .nil)) .nil) (.alt 3 true (.alt 1 true (.take 4 (.alt 6 false .done .nil)) .nil) .nil)) .nil)))))),(26,(.mov 0 (.mov 1 (.take 2 (.take 3 (.take 4 (.take 5 (.take 6 (.take 7 (.take 8 (.take 9 (.take 10 (.take 11 (.mov 12 .done)))))))))))))),(28,(.take 0 (.take 1 (.mov 2 (.mov 3 (.take 4 (.take 5 (.take 6 (.mov 7 (.take 8 (.take 9 (.take 10 (.bar 11 .done)))))))))))))]
set_option maxRecDepth 100000 in
set_option maxHeartbeats 4000000 in
theorem ok_P_transfer_Table_entry : irOf Try.prog fn_P_transfer_Table_entry [1000107] ts_P_transfer_Table_entry = some (150,[(.c 4 3)],ir_P_transfer_Table_entry) := by kernel_rfl
def ir_P_transfer_Table_learn : C :=
 (.seq
 (.reg
 [⟨(some 4),none,(.mv (.c .nilIface))⟩])
 (.seq
 (.seq
 (.reg
 [⟨(some 16),none,(.mv (.t 1))⟩,⟨(some 17),none,(.cmp .eql .i64 (.t 16) (.c (.int .i64 0)))⟩])
 (.cond
 (.t 17)
 (.seq
 (.reg
 [⟨(some 4),none,(.mv (.c .nilIface))⟩])
 .ret)
 .skip))
 (.seq
 (.reg
 [⟨(some 18),none,(.mv (.t 1))⟩,⟨(some 19),none,(.bsl 19 ty_api_ID 1 1 [(.int .i64 0)] [(0,(1,(.t 18)))])⟩,⟨(some 5),none,(.mv (.t 19))⟩])
 (.seq
 (.blk
 0
 (.loop
 (.seq
 (.seq
 (.reg
 [⟨(some 20),none,(.mv (.t 5))⟩,⟨(some 21),none,(.lens (.t 20))⟩,⟨(some 22),none,(.cmp .gtr .i64 (.t 21) (.c (.int .i64 0)))⟩])
 (.cond
 (.t 22)
 .skip
 (.exit 0)))
 (.blk
 1
 (.seq
 (.reg
 [⟨(some 23),none,(.mv (.t 5))⟩,⟨(some 24),none,(.mv (.t 5))⟩,⟨(some 25),none,(.lens (.t 24))⟩,⟨(some 26),none,(.ar .sub .i64 (.t 25) (.c (.int .i64 1)))⟩,⟨(some 27),none,(.ia 1 (.t 23) (.t 26))⟩,⟨(some 28),none,(.ld (.int .i64) (.t 27))⟩,⟨(some 6),none,(.mv (.t 28))⟩])
 (.seq
 (.seq
 (.reg
 [⟨(some 30),none,(.mv (.t 0))⟩,⟨(some 31),none,(.nil (.t 30))⟩,⟨(some 32),none,(.fa 7 (.t 31))⟩,⟨(some 33),none,(.ld .map (.t 32))⟩,⟨(some 34),none,(.mv (.t 6))⟩,⟨(some 35),none,(.lku (.int .i64) true (.agg [(.slice none 0 0),(.slice none 0 0),(.slice none 0 0)].toArray) (.t 33) (.t 34))⟩,⟨(some 29),none,(.mv (.t 35))⟩,⟨(some 36),none,(.ext (.t 29) 0)⟩,⟨(some 37),none,(.ext (.t 29) 1)⟩,⟨(some 7),none,(.alc 7 ty_transfer_entry [(.slice none 0 0),(.slice none 0 0),(.slice none 0 0)])⟩,⟨none,none,(.st 3 (.t 7) (.t 36))⟩,⟨(some 8),none,(.mv (.t 37))⟩])
 (.seq
 (.reg
 [⟨(some 38),none,(.mv (.t 8))⟩])
 (.cond
 (.t 38)
 (.seq
 (.reg
 [⟨(some 39),none,(.mv (.t 5))⟩,⟨(some 40),none,(.mv (.t 5))⟩,⟨(some 41),none,(.lens (.t 40))⟩,⟨(some 42),none,(.ar .sub .i64 (.t 41) (.c (.int .i64 1)))⟩,⟨(some 43),none,(.slo 1 (.t 39) (some (.t 42)))⟩,⟨(some 5),none,(.mv (.t 43))⟩])
 (.exit 1))
 .skip)))
 (.seq
 (.reg
 [⟨(some 45),none,(.mv (.t 0))⟩,⟨(some 46),none,(.nil (.t 45))⟩,⟨(some 47),none,(.fa 0 (.t 46))⟩,⟨(some 48),none,(.ld .ptr (.t 47))⟩,⟨(some 49),none,(.mv (.t 6))⟩,⟨(some 50),none,(.call fn_P_intern_Store_Rule [(.t 48),(.t 49)])⟩,⟨(some 44),none,(.mv (.t 50))⟩,⟨(some 51),none,(.ext (.t 44) 0)⟩,⟨(some 52),none,(.ext (.t 44) 1)⟩,⟨(some 9),none,(.alc 9 ty_api_Rule [(.int .i64 0),(.int .u8 0),(.int .i64 0),(.int .i64 0),(.int .i64 0)])⟩,⟨none,none,(.st 5 (.t 9) (.t 51))⟩,⟨(some 10),none,(.mv (.t 52))⟩])
 (.seq
 (.seq
 (.reg
 [⟨(some 53),none,(.mv (.t 10))⟩,⟨(some 54),none,(.eqn .ifc true (.t 53))⟩])
 (.cond
 (.t 54)
 (.seq
 (.reg
 [⟨(some 55),none,(.mv (.t 10))⟩,⟨(some 4),none,(.mv (.t 55))⟩])
 .ret)
 .skip))
 (.seq
 (.reg
 [⟨(some 11),none,(.mv (.c (.bool true)))⟩])
 (.seq
 (.seq
 (.reg
 [⟨(some 56),none,(.lda 5 [(.int .i64),(.int .u8),(.int .i64),(.int .i64),(.int .i64)] (.t 9))⟩,⟨(some 57),none,(.call fn_rule_Refs [(.t 56)])⟩,⟨(some 58),none,(.lens (.t 57))⟩,⟨(some 59),none,(.mv (.c (.int .i64 0)))⟩])
 (.blk
 2
 (.loop
 (.seq
 (.reg
 [⟨(some 60),none,(.cmp .lss .i64 (.t 59) (.t 58))⟩])
 (.seq
 (.cond
 (.t 60)
 .skip
 (.exit 2))
 (.seq
 (.blk
 3
 (.seq
 (.reg
 [⟨(some 61),none,(.ia 1 (.t 57) (.t 59))⟩,⟨(some 62),none,(.ld (.int .i64) (.t 61))⟩,⟨(some 13),none,(.mv (.t 62))⟩])
 (.seq
 (.reg
 [⟨(some 64),none,(.mv (.t 0))⟩,⟨(some 65),none,(.nil (.t 64))⟩,⟨(some 66),none,(.fa 7 (.t 65))⟩,⟨(some 67),none,(.ld .map (.t 66))⟩,⟨(some 68),none,(.mv (.t 13))⟩,⟨(some 69),none,(.lku (.int .i64) true (.agg [(.slice none 0 0),(.slice none 0 0),(.slice none 0 0)].toArray) (.t 67) (.t 68))⟩,⟨(some 63),none,(.mv (.t 69))⟩,⟨(some 70),none,(.ext (.t 63) 0)⟩,⟨(some 71),none,(.ext (.t 63) 1)⟩,⟨(some 14),none,(.alc 14 ty_transfer_entry [(.slice none 0 0),(.slice none 0 0),(.slice none 0 0)])⟩,⟨none,none,(.st 3 (.t 14) (.t 70))⟩,⟨(some 15),none,(.mv (.t 71))⟩])
 (.seq
 (.reg
 [⟨(some 72),none,(.mv (.t 15))⟩,⟨(some 73),none,(.not (.t 72))⟩])
 (.cond
 (.t 73)
 (.seq
 (.reg
 [⟨(some 74),none,(.mv (.t 5))⟩,⟨(some 75),none,(.mv (.t 13))⟩,⟨(some 76),none,(.bsl 76 ty_api_ID 1 1 [(.int .i64 0)] [(0,(1,(.t 75)))])⟩,⟨(some 77),none,(.app 77 ty_api_ID 1 8 (.t 74) (.t 76))⟩,⟨(some 5),none,(.mv (.t 77))⟩])
 (.reg
 [⟨(some 11),none,(.mv (.c (.bool false)))⟩]))
 .skip)))))
 (.reg
 [⟨(some 78),none,(.ar .add .i64 (.t 59) (.c (.int .i64 1)))⟩,⟨(some 59),none,(.mv (.t 78))⟩])))))))
 (.seq
 (.reg
 [⟨(some 79),none,(.mv (.t 11))⟩])
 (.cond
 (.t 79)
 (.seq
 (.drw
 [⟨(some 80),none,(.mv (.t 0))⟩,⟨(some 81),none,(.nil (.t 80))⟩,⟨(some 82),none,(.fa 7 (.t 81))⟩,⟨(some 83),none,(.ld .map (.t 82))⟩,⟨(some 84),none,(.mv (.t 6))⟩,⟨(some 85),none,(.mv (.t 0))⟩,⟨(some 86),none,(.lda 5 [(.int .i64),(.int .u8),(.int .i64),(.int .i64),(.int .i64)] (.t 9))⟩,⟨(some 87),none,(.call fn_P_transfer_Table_entry [(.t 85),(.t 86)])⟩,⟨none,none,(.mup (.int .i64) (.t 83) (.t 84) (.t 87))⟩]
 (.mov 0 (.take 1 (.take 2 (.take 3 (.mov 4 (.mov 5 (.take 6 (.alt 7 true (.bar 8 .done) .nil)))))))))
 (.reg
 [⟨(some 88),none,(.mv (.t 5))⟩,⟨(some 89),none,(.mv (.t 5))⟩,⟨(some 90),none,(.lens (.t 89))⟩,⟨(some 91),none,(.ar .sub .i64 (.t 90) (.c (.int .i64 1)))⟩,⟨(some 92),none,(.slo 1 (.t 88) (some (.t 91)))⟩,⟨(some 5),none,(.mv (.t 92))⟩]))
 .skip))))))))))))
 (.seq
 (.reg
 [⟨(some 4),none,(.mv (.c .nilIface))⟩])
 .ret)))))
def ts_P_transfer_Table_learn : List (Nat × Tr) := [(22,(.mov 0 (.take 1 (.take 2 (.take 3 (.mov 4 (.mov 5 (.take 6 (.alt 7 true (.bar 8 .done) .nil)))))))))]
set_option maxRecDepth 100000 in
set_option maxHeartbeats 4000000 in
theorem ok_P_transfer_Table_learn : irOf Try.prog fn_P_transfer_Table_learn [43,92] ts_P_transfer_Table_learn = some (93,[(.t 4)],ir_P_transfer_Table_learn) := by kernel_rfl
def ir_P_transfer_Table_check : C :=
 (.seq
 (.reg
 [⟨(some 6),none,(.mv (.c .nilIface))⟩])
 (.seq
 (.seq
 (.reg
 [⟨(some 7),none,(.mv (.t 0))⟩,⟨(some 8),none,(.eqn .ptr false (.t 7))⟩,⟨(some 9),none,(.mv (.t 8))⟩,⟨(some 10),(some (9,false)),(.mv (.t 0))⟩,⟨(some 11),(some (9,false)),(.nil (.t 10))⟩,⟨(some 12),(some (9,false)),(.fa 0 (.t 11))⟩,⟨(some 13),(some (9,false)),(.ld .ptr (.t 12))⟩,⟨(some 14),(some (9,false)),(.eqn .ptr false (.t 13))⟩,⟨(some 15),none,(.pick (.t 9) (.c (.bool true)) (.t 14))⟩])
 (.cond
 (.t 15)
 (.seq
 (.reg
 [⟨(some 16),none,(.mki ty_api_Errno (.c (.int .i64 5)))⟩,⟨(some 6),none,(.mv (.t 16))⟩])
 .ret)
 .skip))
 (.seq
 (.seq
 (.reg
 [⟨(some 17),none,(.mv (.t 1))⟩,⟨(some 18),none,(.cmp .lss .i64 (.t 17) (.c (.int .i64 0)))⟩,⟨(some 19),none,(.mv (.t 18))⟩,⟨(some 20),(some (19,false)),(.mv (.t 1))⟩,⟨(some 21),(some (19,false)),(.mv (.t 0))⟩,⟨(some 22),(some (19,false)),(.nil (.t 21))⟩,⟨(some 23),(some (19,false)),(.fa 0 (.t 22))⟩,⟨(some 24),(some (19,false)),(.ld .ptr (.t 23))⟩,⟨(some 25),(some (19,false)),(.call fn_P_intern_Store_Len [(.t 24)])⟩,⟨(some 26),(some (19,false)),(.cmp .gtr .i64 (.t 20) (.t 25))⟩,⟨(some 27),none,(.pick (.t 19) (.c (.bool true)) (.t 26))⟩,⟨(some 28),none,(.mv (.t 27))⟩,⟨(some 29),(some (28,false)),(.mv (.t 2))⟩,⟨(some 30),(some (28,false)),(.cmp .lss .i64 (.t 29) (.c (.int .i64 0)))⟩,⟨(some 31),none,(.pick (.t 28) (.c (.bool true)) (.t 30))⟩,⟨(some 32),none,(.mv (.t 31))⟩,⟨(some 33),(some (32,false)),(.mv (.t 2))⟩,⟨(some 34),(some (32,false)),(.mv (.t 0))⟩,⟨(some 35),(some (32,false)),(.nil (.t 34))⟩,⟨(some 36),(some (32,false)),(.fa 1 (.t 35))⟩,⟨(some 37),(some (32,false)),(.fa 2 (.t 36))⟩,⟨(some 38),(some (32,false)),(.ld .slc (.t 37))⟩,⟨(some 39),(some (32,false)),(.lens (.t 38))⟩,⟨(some 40),(some (32,false)),(.cmp .geq .i64 (.t 33) (.t 39))⟩,⟨(some 41),none,(.pick (.t 32) (.c (.bool true)) (.t 40))⟩])
 (.cond
 (.t 41)
 (.seq
 (.reg
 [⟨(some 42),none,(.mki ty_api_Errno (.c (.int .i64 1)))⟩,⟨(some 6),none,(.mv (.t 42))⟩])
 .ret)
 .skip))
 (.seq
 (.reg
 [⟨(some 6),none,(.mv (.c .nilIface))⟩])
 .ret))))
def ts_P_transfer_Table_check : List (Nat × Tr) := []
set_option maxRecDepth 100000 in
set_option maxHeartbeats 4000000 in
theorem ok_P_transfer_Table_check : irOf Try.prog fn_P_transfer_Table_check [] ts_P_transfer_Table_check = some (43,[(.t 6)],ir_P_transfer_Table_check) := by kernel_rfl
def ir_P_transfer_Table_effect : C :=
 (.seq
 (.reg
 [⟨(some 6),none,(.alc 6 ty_transfer_effect [(.slice none 0 0),(.slice none 0 0)])⟩,⟨(some 7),none,(.mv (.c .nilIface))⟩])
 (.seq
 (.seq
 (.reg
 [⟨(some 10),none,(.mv (.t 0))⟩,⟨(some 11),none,(.mv (.t 1))⟩,⟨(some 12),none,(.mv (.t 2))⟩,⟨(some 13),none,(.call fn_P_transfer_Table_check [(.t 10),(.t 11),(.t 12)])⟩,⟨(some 8),none,(.mv (.t 13))⟩])
 (.seq
 (.reg
 [⟨(some 14),none,(.mv (.t 8))⟩,⟨(some 15),none,(.eqn .ifc true (.t 14))⟩])
 (.cond
 (.t 15)
 (.seq
 (.reg
 [⟨(some 16),none,(.bld [(.slice none 0 0),(.slice none 0 0)] [])⟩,⟨(some 17),none,(.mv (.t 8))⟩,⟨none,none,(.st 2 (.t 6) (.t 16))⟩,⟨(some 7),none,(.mv (.t 17))⟩])
 .ret)
 .skip)))
 (.seq
 (.seq
 (.reg
 [⟨(some 18),none,(.mv (.t 0))⟩,⟨(some 19),none,(.mv (.t 1))⟩,⟨(some 20),none,(.call fn_P_transfer_Table_learn [(.t 18),(.t 19)])⟩,⟨(some 9),none,(.mv (.t 20))⟩])
 (.seq
 (.reg
 [⟨(some 21),none,(.mv (.t 9))⟩,⟨(some 22),none,(.eqn .ifc true (.t 21))⟩])
 (.cond
 (.t 22)
 (.seq
 (.reg
 [⟨(some 23),none,(.bld [(.slice none 0 0),(.slice none 0 0)] [])⟩,⟨(some 24),none,(.mv (.t 9))⟩,⟨none,none,(.st 2 (.t 6) (.t 23))⟩,⟨(some 7),none,(.mv (.t 24))⟩])
 .ret)
 .skip)))
 (.seq
 (.reg
 [⟨(some 25),none,(.mv (.t 0))⟩,⟨(some 26),none,(.nil (.t 25))⟩,⟨(some 27),none,(.fa 7 (.t 26))⟩,⟨(some 28),none,(.ld .map (.t 27))⟩,⟨(some 29),none,(.mv (.t 1))⟩,⟨(some 30),none,(.lku (.int .i64) false (.agg [(.slice none 0 0),(.slice none 0 0),(.slice none 0 0)].toArray) (.t 28) (.t 29))⟩,⟨(some 31),none,(.fls 0 2 (.t 30))⟩,⟨none,none,(.st 2 (.t 6) (.t 31))⟩,⟨(some 7),none,(.mv (.c .nilIface))⟩])
 .ret))))
def ts_P_transfer_Table_effect : List (Nat × Tr) := []
set_option maxRecDepth 100000 in
set_option maxHeartbeats 4000000 in
theorem ok_P_transfer_Table_effect : irOf Try.prog fn_P_transfer_Table_effect [] ts_P_transfer_Table_effect = some (32,[(.c 6 2),(.t 7)],ir_P_transfer_Table_effect) := by kernel_rfl
def ir_P_transfer_Table_End : C :=
 (.seq
 (.reg
 [⟨(some 6),none,(.mv (.c (.int .i64 0)))⟩,⟨(some 7),none,(.mv (.c .nilIface))⟩])
 (.seq
 (.reg
 [⟨(some 11),none,(.mv (.t 0))⟩,⟨(some 12),none,(.mv (.t 1))⟩,⟨(some 13),none,(.mv (.t 2))⟩,⟨(some 14),none,(.call fn_P_transfer_Table_effect [(.t 11),(.t 12),(.t 13)])⟩,⟨(some 10),none,(.mv (.t 14))⟩,⟨(some 15),none,(.ext (.t 10) 0)⟩,⟨(some 16),none,(.ext (.t 10) 1)⟩,⟨(some 8),none,(.alc 8 ty_transfer_effect [(.slice none 0 0),(.slice none 0 0)])⟩,⟨none,none,(.st 2 (.t 8) (.t 15))⟩,⟨(some 9),none,(.mv (.t 16))⟩])
 (.seq
 (.seq
 (.reg
 [⟨(some 17),none,(.mv (.t 9))⟩,⟨(some 18),none,(.eqn .ifc true (.t 17))⟩])
 (.cond
 (.t 18)
 (.seq
 (.reg
 [⟨(some 19),none,(.mv (.t 9))⟩,⟨(some 6),none,(.mv (.c (.int .i64 0)))⟩,⟨(some 7),none,(.mv (.t 19))⟩])
 .ret)
 .skip))
 (.seq
 (.seq
 (.reg
 [⟨(some 20),none,(.mv (.t 1))⟩,⟨(some 21),none,(.cmp .eql .i64 (.t 20) (.c (.int .i64 0)))⟩])
 (.cond
 (.t 21)
 (.seq
 (.reg
 [⟨(some 22),none,(.mv (.t 2))⟩,⟨(some 6),none,(.mv (.t 22))⟩,⟨(some 7),none,(.mv (.c .nilIface))⟩])
 .ret)
 .skip))
 (.seq
 (.reg
 [⟨(some 23),none,(.fa 0 (.t 8))⟩,⟨(some 24),none,(.ld .slc (.t 23))⟩,⟨(some 25),none,(.mv (.t 2))⟩,⟨(some 26),none,(.ia 1 (.t 24) (.t 25))⟩,⟨(some 27),none,(.ld (.int .u8) (.t 26))⟩,⟨(some 28),none,(.cv .i64 (.t 27))⟩,⟨(some 6),none,(.mv (.t 28))⟩,⟨(some 7),none,(.mv (.c .nilIface))⟩])
 .ret)))))
def ts_P_transfer_Table_End : List (Nat × Tr) := []
set_option maxRecDepth 100000 in
set_option maxHeartbeats 4000000 in
theorem ok_P_transfer_Table_End : irOf Try.prog fn_P_transfer_Table_End [] ts_P_transfer_Table_End = some (29,[(.t 6),(.t 7)],ir_P_transfer_Table_End) := by kernel_rfl
def ir_P_transfer_Table_Hits : C :=
 (.seq
 (.reg
 [⟨(some 6),none,(.mv (.c (.int .i64 0)))⟩,⟨(some 7),none,(.mv (.c .nilIface))⟩])
 (.seq
 (.reg
 [⟨(some 11),none,(.mv (.t 0))⟩,⟨(some 12),none,(.mv (.t 1))⟩,⟨(some 13),none,(.mv (.t 2))⟩,⟨(some 14),none,(.call fn_P_transfer_Table_effect [(.t 11),(.t 12),(.t 13)])⟩,⟨(some 10),none,(.mv (.t 14))⟩,⟨(some 15),none,(.ext (.t 10) 0)⟩,⟨(some 16),none,(.ext (.t 10) 1)⟩,⟨(some 8),none,(.alc 8 ty_transfer_effect [(.slice none 0 0),(.slice none 0 0)])⟩,⟨none,none,(.st 2 (.t 8) (.t 15))⟩,⟨(some 9),none,(.mv (.t 16))⟩])
 (.seq
 (.seq
 (.reg
 [⟨(some 17),none,(.mv (.t 9))⟩,⟨(some 18),none,(.eqn .ifc true (.t 17))⟩,⟨(some 19),none,(.mv (.t 18))⟩,⟨(some 20),(some (19,false)),(.mv (.t 1))⟩,⟨(some 21),(some (19,false)),(.cmp .eql .i64 (.t 20) (.c (.int .i64 0)))⟩,⟨(some 22),none,(.pick (.t 19) (.c (.bool true)) (.t 21))⟩])
 (.cond
 (.t 22)
 (.seq
 (.reg
 [⟨(some 23),none,(.mv (.t 9))⟩,⟨(some 6),none,(.mv (.c (.int .i64 0)))⟩,⟨(some 7),none,(.mv (.t 23))⟩])
 .ret)
 .skip))
 (.seq
 (.seq
 (.reg
 [⟨(some 24),none,(.fa 1 (.t 8))⟩,⟨(some 25),none,(.ld .slc (.t 24))⟩,⟨(some 26),none,(.mv (.t 2))⟩,⟨(some 27),none,(.ia 1 (.t 25) (.t 26))⟩,⟨(some 28),none,(.ld (.int .i64) (.t 27))⟩,⟨(some 29),none,(.cmp .gtr .i64 (.t 28) (.c (.int .i64 1152921504606846976)))⟩])
 (.cond
 (.t 29)
 (.seq
 (.reg
 [⟨(some 30),none,(.mki ty_api_Errno (.c (.int .i64 2)))⟩,⟨(some 6),none,(.mv (.c (.int .i64 0)))⟩,⟨(some 7),none,(.mv (.t 30))⟩])
 .ret)
 .skip))
 (.seq
 (.reg
 [⟨(some 31),none,(.fa 1 (.t 8))⟩,⟨(some 32),none,(.ld .slc (.t 31))⟩,⟨(some 33),none,(.mv (.t 2))⟩,⟨(some 34),none,(.ia 1 (.t 32) (.t 33))⟩,⟨(some 35),none,(.ld (.int .i64) (.t 34))⟩,⟨(some 6),none,(.mv (.t 35))⟩,⟨(some 7),none,(.mv (.c .nilIface))⟩])
 .ret)))))
def ts_P_transfer_Table_Hits : List (Nat × Tr) := []
set_option maxRecDepth 100000 in
set_option maxHeartbeats 4000000 in
theorem ok_P_transfer_Table_Hits : irOf Try.prog fn_P_transfer_Table_Hits [] ts_P_transfer_Table_Hits = some (36,[(.t 6),(.t 7)],ir_P_transfer_Table_Hits) := by kernel_rfl
def ir_P_transfer_Table_Part : C :=
 (.seq
 (.reg
 [⟨(some 10),none,(.mv (.c (.int .i64 0)))⟩,⟨(some 11),none,(.mv (.c (.int .i64 0)))⟩,⟨(some 12),none,(.mv (.c .nilIface))⟩])
 (.seq
 (.seq
 (.reg
 [⟨(some 23),none,(.mv (.t 0))⟩,⟨(some 24),none,(.mv (.t 1))⟩,⟨(some 25),none,(.mv (.t 4))⟩,⟨(some 26),none,(.call fn_P_transfer_Table_check [(.t 23),(.t 24),(.t 25)])⟩,⟨(some 13),none,(.mv (.t 26))⟩])
 (.seq
 (.reg
 [⟨(some 27),none,(.mv (.t 13))⟩,⟨(some 28),none,(.eqn .ifc true (.t 27))⟩])
 (.cond
 (.t 28)
 (.seq
 (.reg
 [⟨(some 29),none,(.mv (.t 13))⟩,⟨(some 10),none,(.mv (.c (.int .i64 0)))⟩,⟨(some 11),none,(.mv (.c (.int .i64 0)))⟩,⟨(some 12),none,(.mv (.t 29))⟩])
 .ret)
 .skip)))
 (.seq
 (.reg
 [⟨(some 31),none,(.mv (.t 0))⟩,⟨(some 32),none,(.nil (.t 31))⟩,⟨(some 33),none,(.fa 0 (.t 32))⟩,⟨(some 34),none,(.ld .ptr (.t 33))⟩,⟨(some 35),none,(.mv (.t 1))⟩,⟨(some 36),none,(.call fn_P_intern_Store_Weight [(.t 34),(.t 35)])⟩,⟨(some 30),none,(.mv (.t 36))⟩,⟨(some 37),none,(.ext (.t 30) 0)⟩,⟨(some 38),none,(.ext (.t 30) 1)⟩,⟨(some 14),none,(.alc 14 ty_api_Weight [(.int .i64 0),(.int .i64 0),(.int .i64 0),(.int .i64 0),(.int .u64 0),(.int .u64 0)])⟩,⟨none,none,(.st 6 (.t 14) (.t 37))⟩,⟨(some 12),none,(.mv (.t 38))⟩])
 (.seq
 (.seq
 (.reg
 [⟨(some 39),none,(.mv (.t 12))⟩,⟨(some 40),none,(.eqn .ifc true (.t 39))⟩])
 (.cond
 (.t 40)
 (.seq
 (.reg
 [⟨(some 41),none,(.mv (.t 12))⟩,⟨(some 10),none,(.mv (.c (.int .i64 0)))⟩,⟨(some 11),none,(.mv (.c (.int .i64 0)))⟩,⟨(some 12),none,(.mv (.t 41))⟩])
 .ret)
 .skip))
 (.seq
 (.seq
 (.reg
 [⟨(some 42),none,(.mv (.t 2))⟩,⟨(some 43),none,(.mv (.t 3))⟩,⟨(some 44),none,(.fa 0 (.t 14))⟩,⟨(some 45),none,(.ld (.int .i64) (.t 44))⟩,⟨(some 46),none,(.call fn_length_Range [(.t 42),(.t 43),(.t 45)])⟩,⟨(some 15),none,(.mv (.t 46))⟩])
 (.seq
 (.reg
 [⟨(some 47),none,(.mv (.t 15))⟩,⟨(some 48),none,(.eqn .ifc true (.t 47))⟩])
 (.cond
 (.t 48)
 (.seq
 (.reg
 [⟨(some 49),none,(.mv (.t 15))⟩,⟨(some 10),none,(.mv (.c (.int .i64 0)))⟩,⟨(some 11),none,(.mv (.c (.int .i64 0)))⟩,⟨(some 12),none,(.mv (.t 49))⟩])
 .ret)
 .skip)))
 (.seq
 (.seq
 (.reg
 [⟨(some 50),none,(.mv (.t 0))⟩,⟨(some 51),none,(.mv (.t 1))⟩,⟨(some 52),none,(.call fn_P_transfer_Table_learn [(.t 50),(.t 51)])⟩,⟨(some 16),none,(.mv (.t 52))⟩])
 (.seq
 (.reg
 [⟨(some 53),none,(.mv (.t 16))⟩,⟨(some 54),none,(.eqn .ifc true (.t 53))⟩])
 (.cond
 (.t 54)
 (.seq
 (.reg
 [⟨(some 55),none,(.mv (.t 16))⟩,⟨(some 10),none,(.mv (.c (.int .i64 0)))⟩,⟨(some 11),none,(.mv (.c (.int .i64 0)))⟩,⟨(some 12),none,(.mv (.t 55))⟩])
 .ret)
 .skip)))
 (.seq
 (.reg
 [⟨(some 57),none,(.mv (.t 0))⟩,⟨(some 58),none,(.nil (.t 57))⟩,⟨(some 59),none,(.fa 0 (.t 58))⟩,⟨(some 60),none,(.ld .ptr (.t 59))⟩,⟨(some 61),none,(.mv (.t 1))⟩,⟨(some 62),none,(.mv (.t 2))⟩,⟨(some 63),none,(.mv (.t 3))⟩,⟨(some 64),none,(.call fn_parts_Of [(.t 60),(.t 61),(.t 62),(.t 63)])⟩,⟨(some 56),none,(.mv (.t 64))⟩,⟨(some 65),none,(.ext (.t 56) 0)⟩,⟨(some 66),none,(.ext (.t 56) 1)⟩,⟨(some 17),none,(.mv (.t 65))⟩,⟨(some 12),none,(.mv (.t 66))⟩])
 (.seq
 (.seq
 (.reg
 [⟨(some 67),none,(.mv (.t 12))⟩,⟨(some 68),none,(.eqn .ifc true (.t 67))⟩])
 (.cond
 (.t 68)
 (.seq
 (.reg
 [⟨(some 69),none,(.mv (.t 12))⟩,⟨(some 10),none,(.mv (.c (.int .i64 0)))⟩,⟨(some 11),none,(.mv (.c (.int .i64 0)))⟩,⟨(some 12),none,(.mv (.t 69))⟩])
 .ret)
 .skip))
 (.seq
 (.seq
 (.reg
 [⟨(some 70),none,(.mv (.t 0))⟩,⟨(some 71),none,(.nil (.t 70))⟩,⟨(some 72),none,(.fa 6 (.t 71))⟩,⟨(some 73),none,(.ld .bool (.t 72))⟩])
 (.cond
 (.t 73)
 (.reg
 [⟨(some 74),none,(.mv (.t 17))⟩,⟨(some 75),none,(.call fn_slices_Reverse_Sl_parts_Part_parts_Part [(.t 74)])⟩])
 .skip))
 (.seq
 (.seq
 (.reg
 [⟨(some 76),none,(.mv (.t 17))⟩,⟨(some 77),none,(.lens (.t 76))⟩,⟨(some 78),none,(.mv (.c (.int .i64 0)))⟩])
 (.blk
 0
 (.loop
 (.seq
 (.reg
 [⟨(some 79),none,(.cmp .lss .i64 (.t 78) (.t 77))⟩])
 (.seq
 (.cond
 (.t 79)
 .skip
 (.exit 0))
 (.seq
 (.blk
 1
 (.seq
 (.reg
 [⟨(some 80),none,(.ia 3 (.t 76) (.t 78))⟩,⟨(some 81),none,(.lda 3 [(.int .i64),(.int .i64),(.int .i64)] (.t 80))⟩,⟨(some 19),none,(.alc 19 ty_parts_Part [(.int .i64 0),(.int .i64 0),(.int .i64 0)])⟩,⟨none,none,(.st 3 (.t 19) (.t 81))⟩])
 (.seq
 (.seq
 (.reg
 [⟨(some 82),none,(.fa 2 (.t 19))⟩,⟨(some 83),none,(.ld (.int .i64) (.t 82))⟩,⟨(some 84),none,(.cmp .eql .i64 (.t 83) (.c (.int .i64 1)))⟩])
 (.cond
 (.t 84)
 (.seq
 (.drw
 [⟨(some 86),none,(.mv (.t 0))⟩,⟨(some 87),none,(.nil (.t 86))⟩,⟨(some 88),none,(.fa 7 (.t 87))⟩,⟨(some 89),none,(.ld .map (.t 88))⟩,⟨(some 90),none,(.fa 0 (.t 19))⟩,⟨(some 91),none,(.ld (.int .i64) (.t 90))⟩,⟨(some 92),none,(.lku (.int .i64) false (.agg [(.slice none 0 0),(.slice none 0 0),(.slice none 0 0)].toArray) (.t 89) (.t 91))⟩,⟨(some 93),none,(.fls 0 2 (.t 92))⟩,⟨(some 94),none,(.mv (.t 4))⟩,⟨(some 95),none,(.mv (.t 11))⟩,⟨(some 96),none,(.call fn_transfer_effect_run [(.t 93),(.t 94),(.t 95)])⟩,⟨(some 85),none,(.mv (.t 96))⟩,⟨(some 97),none,(.ext (.t 85) 0)⟩,⟨(some 98),none,(.ext (.t 85) 1)⟩,⟨(some 4),none,(.mv (.t 97))⟩,⟨(some 11),none,(.mv (.t 98))⟩]
 (.mov 0 (.take 1 (.take 2 (.take 3 (.take 4 (.take 5 (.take 6 (.take 7 (.mov 8 (.mov 9 (.bar 10 (.mov 11 (.mov 12 (.mov 13 (.mov 14 (.mov 15 .done)))))))))))))))))
 (.exit 1))
 .skip))
 (.seq
 (.drw
 [⟨(some 99),none,(.mv (.t 0))⟩,⟨(some 100),none,(.nil (.t 99))⟩,⟨(some 101),none,(.fa 7 (.t 100))⟩,⟨(some 102),none,(.ld .map (.t 101))⟩,⟨(some 103),none,(.fa 1 (.t 19))⟩,⟨(some 104),none,(.ld (.int .i64) (.t 103))⟩,⟨(some 105),none,(.lku (.int .i64) false (.agg [(.slice none 0 0),(.slice none 0 0),(.slice none 0 0)].toArray) (.t 102) (.t 104))⟩,⟨(some 106),none,(.fld 2 .slc (.t 105))⟩,⟨(some 20),none,(.mv (.t 106))⟩]
 (.mov 0 (.take 1 (.take 2 (.take 3 (.take 4 (.take 5 (.take 6 (.take 7 (.mov 8 .done))))))))))
 (.seq
 (.drw
 [⟨(some 107),none,(.fa 2 (.t 19))⟩,⟨(some 108),none,(.ld (.int .i64) (.t 107))⟩,⟨(some 21),none,(.mv (.c (.int .i64 0)))⟩,⟨(some 22),none,(.mv (.t 108))⟩]
 (.take 0 (.take 1 (.mov 2 (.mov 3 .done)))))
 (.blk
 2
 (.loop
 (.seq
 (.seq
 (.reg
 [⟨(some 109),none,(.mv (.t 22))⟩,⟨(some 110),none,(.cmp .gtr .i64 (.t 109) (.c (.int .i64 0)))⟩])
 (.cond
 (.t 110)
 .skip
 (.exit 2)))
 (.seq
 (.blk
 3
 (.seq
 (.reg
 [⟨(some 115),none,(.mv (.t 22))⟩,⟨(some 116),none,(.bit .and .i64 (.t 115) (.c (.int .i64 1)))⟩,⟨(some 117),none,(.cmp .eql .i64 (.t 116) (.c (.int .i64 1)))⟩])
 (.cond
 (.t 117)
 (.reg
 [⟨(some 119),none,(.mv (.t 20))⟩,⟨(some 120),none,(.mv (.t 21))⟩,⟨(some 121),none,(.ia 2 (.t 119) (.t 120))⟩,⟨(some 122),none,(.lda 2 [.slc,.slc] (.t 121))⟩,⟨(some 123),none,(.mv (.t 4))⟩,⟨(some 124),none,(.mv (.t 11))⟩,⟨(some 125),none,(.call fn_transfer_effect_run [(.t 122),(.t 123),(.t 124)])⟩,⟨(some 118),none,(.mv (.t 125))⟩,⟨(some 126),none,(.ext (.t 118) 0)⟩,⟨(some 127),none,(.ext (.t 118) 1)⟩,⟨(some 4),none,(.mv (.t 126))⟩,⟨(some 11),none,(.mv (.t 127))⟩])
 .skip)))
 (.reg
 [⟨(some 111),none,(.mv (.t 21))⟩,⟨(some 112),none,(.ar .add .i64 (.t 111) (.c (.int .i64 1)))⟩,⟨(some 113),none,(.mv (.t 22))⟩,⟨(some 114),none,(.sh false .i64 (.t 113) (.c (.int .u64 1)))⟩,⟨(some 21),none,(.mv (.t 112))⟩,⟨(some 22),none,(.mv (.t 114))⟩]))))))))))
 (.reg
 [⟨(some 128),none,(.ar .add .i64 (.t 78) (.c (.int .i64 1)))⟩,⟨(some 78),none,(.mv (.t 128))⟩])))))))
 (.seq
 (.seq
 (.reg
 [⟨(some 129),none,(.mv (.t 11))⟩,⟨(some 130),none,(.cmp .gtr .i64 (.t 129) (.c (.int .i64 1152921504606846976)))⟩])
 (.cond
 (.t 130)
 (.seq
 (.reg
 [⟨(some 131),none,(.mki ty_api_Errno (.c (.int .i64 2)))⟩,⟨(some 10),none,(.mv (.c (.int .i64 0)))⟩,⟨(some 11),none,(.mv (.c (.int .i64 0)))⟩,⟨(some 12),none,(.mv (.t 131))⟩])
 .ret)
 .skip))
 (.seq
 (.reg
 [⟨(some 132),none,(.mv (.t 4))⟩,⟨(some 133),none,(.mv (.t 11))⟩,⟨(some 10),none,(.mv (.t 132))⟩,⟨(some 11),none,(.mv (.t 133))⟩,⟨(some 12),none,(.mv (.c .nilIface))⟩])
 .ret))))))))))))
def ts_P_transfer_Table_Part : List (Nat × Tr) := [(22,(.mov 0 (.take 1 (.take 2 (.take 3 (.take 4 (.take 5 (.take 6 (.take 7 (.mov 8 (.mov 9 (.bar 10 (.mov 11 (.mov 12 (.mov 13 (.mov 14 (.mov 15 .done))))))))))))))))),(23,(.mov 0 (.take 1 (.take 2 (.take 3 (.take 4 (.take 5 (.take 6 (.take 7 (.mov 8 .done)))))))))),(24,(.take 0 (.take 1 (.mov 2 (.mov 3 .done)))))]
set_option maxRecDepth 100000 in
set_option maxHeartbeats 4000000 in
theorem ok_P_transfer_Table_Part : irOf Try.prog fn_P_transfer_Table_Part [] ts_P_transfer_Table_Part = some (134,[(.t 10),(.t 11),(.t 12)],ir_P_transfer_Table_Part) := by kernel_rfl
def ir_P_transfer_Table_Store : C :=
 (.seq
 (.reg
 [⟨(some 2),none,(.mv (.c (.pointer none)))⟩])
 (.seq
 (.seq
 (.reg
 [⟨(some 3),none,(.mv (.t 0))⟩,⟨(some 4),none,(.eqn .ptr false (.t 3))⟩])
 (.cond
 (.t 4)
 (.seq
 (.reg
 [⟨(some 2),none,(.mv (.c (.pointer none)))⟩])
 .ret)
 .skip))
 (.seq
 (.reg
 [⟨(some 5),none,(.mv (.t 0))⟩,⟨(some 6),none,(.nil (.t 5))⟩,⟨(some 7),none,(.fa 0 (.t 6))⟩,⟨(some 8),none,(.ld .ptr (.t 7))⟩,⟨(some 2),none,(.mv (.t 8))⟩])
 .ret)))
def ts_P_transfer_Table_Store : List (Nat × Tr) := []
set_option maxRecDepth 100000 in
set_option maxHeartbeats 4000000 in
theorem ok_P_transfer_Table_Store : irOf Try.prog fn_P_transfer_Table_Store [] ts_P_transfer_Table_Store = some (9,[(.t 2)],ir_P_transfer_Table_Store) := by kernel_rfl
def ir_P_transfer_Table_Machine : C :=
 (.seq
 (.reg
 [⟨(some 2),none,(.alc 2 ty_api_Machine [(.int .i64 0),(.slice none 0 0),(.slice none 0 0),(.slice none 0 0)])⟩])
 (.seq
 (.seq
 (.reg
 [⟨(some 3),none,(.mv (.t 0))⟩,⟨(some 4),none,(.eqn .ptr false (.t 3))⟩])
 (.cond
 (.t 4)
 (.seq
 (.reg
 [⟨(some 5),none,(.bld [(.int .i64 0),(.slice none 0 0),(.slice none 0 0),(.slice none 0 0)] [])⟩,⟨none,none,(.st 4 (.t 2) (.t 5))⟩])
 .ret)
 .skip))
 (.seq
 (.reg
 [⟨(some 6),none,(.mv (.t 0))⟩,⟨(some 7),none,(.nil (.t 6))⟩,⟨(some 8),none,(.fa 1 (.t 7))⟩,⟨(some 9),none,(.lda 4 [(.int .i64),.slc,.slc,.slc] (.t 8))⟩,⟨(some 10),none,(.call fn_transfer_clone [(.t 9)])⟩,⟨none,none,(.st 4 (.t 2) (.t 10))⟩])
 .ret)))
def ts_P_transfer_Table_Machine : List (Nat × Tr) := []
set_option maxRecDepth 100000 in
set_option maxHeartbeats 4000000 in
theorem ok_P_transfer_Table_Machine : irOf Try.prog fn_P_transfer_Table_Machine [] ts_P_transfer_Table_Machine = some (11,[(.c 2 4)],ir_P_transfer_Table_Machine) := by kernel_rfl
def ir_P_transfer_Table_Back : C :=
 (.seq
 (.reg
 [⟨(some 2),none,(.mv (.c (.bool false)))⟩])
 (.seq
 (.reg
 [⟨(some 3),none,(.mv (.t 0))⟩,⟨(some 4),none,(.eqn .ptr true (.t 3))⟩,⟨(some 5),none,(.mv (.t 4))⟩,⟨(some 6),(some (5,true)),(.mv (.t 0))⟩,⟨(some 7),(some (5,true)),(.nil (.t 6))⟩,⟨(some 8),(some (5,true)),(.fa 6 (.t 7))⟩,⟨(some 9),(some (5,true)),(.ld .bool (.t 8))⟩,⟨(some 10),none,(.pick (.t 5) (.t 9) (.c (.bool false)))⟩,⟨(some 2),none,(.mv (.t 10))⟩])
 .ret))
def ts_P_transfer_Table_Back : List (Nat × Tr) := []
set_option maxRecDepth 100000 in
set_option maxHeartbeats 4000000 in
theorem ok_P_transfer_Table_Back : irOf Try.prog fn_P_transfer_Table_Back [] ts_P_transfer_Table_Back = some (11,[(.t 2)],ir_P_transfer_Table_Back) := by kernel_rfl
def ir_transfer_New : C :=
 (.seq
 (.reg
 [⟨(some 5),none,(.box 5 ty_api_Machine (.t 1))⟩,⟨(some 8),none,(.mv (.c (.pointer none)))⟩,⟨(some 9),none,(.mv (.c .nilIface))⟩])
 (.seq
 (.seq
 (.reg
 [⟨(some 13),none,(.mv (.t 0))⟩,⟨(some 14),none,(.eqn .ptr false (.t 13))⟩])
 (.cond
 (.t 14)
 (.seq
 (.reg
 [⟨(some 15),none,(.mki ty_api_Errno (.c (.int .i64 5)))⟩,⟨(some 8),none,(.mv (.c (.pointer none)))⟩,⟨(some 9),none,(.mv (.t 15))⟩])
 .ret)
 .skip))
 (.seq
 (.seq
 (.reg
 [⟨(some 16),none,(.lda 4 [(.int .i64),.slc,.slc,.slc] (.t 5))⟩,⟨(some 17),none,(.call fn_machine_Check [(.t 16)])⟩,⟨(some 10),none,(.mv (.t 17))⟩])
 (.seq
 (.reg
 [⟨(some 18),none,(.mv (.t 10))⟩,⟨(some 19),none,(.eqn .ifc true (.t 18))⟩])
 (.cond
 (.t 19)
 (.seq
 (.reg
 [⟨(some 20),none,(.mv (.t 10))⟩,⟨(some 8),none,(.mv (.c (.pointer none)))⟩,⟨(some 9),none,(.mv (.t 20))⟩])
 .ret)
 .skip)))
 (.seq
 (.seq
 (.reg
 [⟨(some 21),none,(.mv (.t 2))⟩,⟨(some 22),none,(.lens (.t 21))⟩,⟨(some 23),none,(.fa 2 (.t 5))⟩,⟨(some 24),none,(.ld .slc (.t 23))⟩,⟨(some 25),none,(.lens (.t 24))⟩,⟨(some 26),none,(.cmp .neq .i64 (.t 22) (.t 25))⟩])
 (.cond
 (.t 26)
 (.seq
 (.reg
 [⟨(some 27),none,(.mki ty_api_Errno (.c (.int .i64 4)))⟩,⟨(some 8),none,(.mv (.c (.pointer none)))⟩,⟨(some 9),none,(.mv (.t 27))⟩])
 .ret)
 .skip))
 (.seq
 (.seq
 (.reg
 [⟨(some 28),none,(.mv (.t 2))⟩,⟨(some 29),none,(.lens (.t 28))⟩,⟨(some 30),none,(.mv (.c (.int .i64 0)))⟩])
 (.blk
 0
 (.loop
 (.seq
 (.reg
 [⟨(some 31),none,(.cmp .lss .i64 (.t 30) (.t 29))⟩])
 (.seq
 (.cond
 (.t 31)
 .skip
 (.exit 0))
 (.seq
 (.blk
 1
 (.seq
 (.reg
 [⟨(some 32),none,(.ia 1 (.t 28) (.t 30))⟩,⟨(some 33),none,(.ld (.int .i64) (.t 32))⟩,⟨(some 12),none,(.mv (.t 33))⟩])
 (.seq
 (.reg
 [⟨(some 34),none,(.mv (.t 12))⟩,⟨(some 35),none,(.cmp .lss .i64 (.t 34) (.c (.int .i64 0)))⟩,⟨(some 36),none,(.mv (.t 35))⟩,⟨(some 37),(some (36,false)),(.mv (.t 12))⟩,⟨(some 38),(some (36,false)),(.cmp .gtr .i64 (.t 37) (.c (.int .i64 1048576)))⟩,⟨(some 39),none,(.pick (.t 36) (.c (.bool true)) (.t 38))⟩])
 (.cond
 (.t 39)
 (.seq
 (.reg
 [⟨(some 40),none,(.mki ty_api_Errno (.c (.int .i64 4)))⟩,⟨(some 8),none,(.mv (.c (.pointer none)))⟩,⟨(some 9),none,(.mv (.t 40))⟩])
 .ret)
 .skip))))
 (.reg
 [⟨(some 41),none,(.ar .add .i64 (.t 30) (.c (.int .i64 1)))⟩,⟨(some 30),none,(.mv (.t 41))⟩])))))))
 (.seq
 (.reg
 [⟨(some 42),none,(.mv (.t 0))⟩,⟨(some 43),none,(.lda 4 [(.int .i64),.slc,.slc,.slc] (.t 5))⟩,⟨(some 44),none,(.call fn_transfer_clone [(.t 43)])⟩,⟨(some 45),none,(.mv (.t 2))⟩,⟨(some 46),none,(.call fn_slices_Clone_Sl_int_int [(.t 45)])⟩,⟨(some 47),none,(.mv (.t 3))⟩,⟨(some 48),none,(.mkm 48 (.int .i64) none)⟩,⟨(some 49),none,(.bld [(.pointer none),(.int .i64 0),(.slice none 0 0),(.slice none 0 0),(.slice none 0 0),(.slice none 0 0),(.bool false),(.map none)] [(0,(1,(.t 42))),(1,(4,(.t 44))),(5,(1,(.t 46))),(6,(1,(.t 47))),(7,(1,(.t 48)))])⟩,⟨(some 50),none,(.box 50 ty_transfer_Table (.t 49))⟩,⟨(some 8),none,(.mv (.t 50))⟩,⟨(some 9),none,(.mv (.c .nilIface))⟩])
 .ret))))))
def ts_transfer_New : List (Nat × Tr) := []
set_option maxRecDepth 100000 in
set_option maxHeartbeats 4000000 in
theorem ok_transfer_New : irOf Try.prog fn_transfer_New [] ts_transfer_New = some (51,[(.t 8),(.t 9)],ir_transfer_New) := by kernel_rfl
end Go.Proofs.Ytjmlialibdobpaa
