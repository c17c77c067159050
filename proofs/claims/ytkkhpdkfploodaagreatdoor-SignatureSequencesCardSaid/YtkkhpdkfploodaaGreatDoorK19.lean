/- The small forms of functions of the program, with the equations that say so: written by a program (irtool.py). No condition. -/
import Derived.Test.YtkkhpdkfploodaaGreatDoorK17
import Derived.Test.YtkkhpdkfploodaaGreatDoorProg
namespace Go.Proofs.YtkkhpdkfploodaaGreatDoor
open Go.EG
abbrev fn_evergreenlaw22_Canon : Nat := 14
abbrev fn_evergreenref22_Canon : Nat := 16
abbrev fn_evergreenref17_Order : Nat := 33
abbrev fn_evergreenref17_complete : Nat := 51
abbrev ty_bool : Nat := 4
abbrev ty_Sl_api_ID : Nat := 42
def ir_evergreenref17_complete : C :=
 (.seq
 (.seq
 (.reg
 [⟨(some 9),none,(.mv (.t 1))⟩,⟨(some 10),none,(.cmp .eql .i64 (.t 9) (.c (.int .i64 0)))⟩,⟨(some 11),none,(.mv (.t 10))⟩,⟨(some 12),(some (11,false)),(.mv (.t 2))⟩,⟨(some 13),(some (11,false)),(.mv (.t 1))⟩,⟨(some 14),(some (11,false)),(.ia 1 (.t 12) (.t 13))⟩,⟨(some 15),(some (11,false)),(.ld .bool (.t 14))⟩,⟨(some 16),none,(.pick (.t 11) (.c (.bool true)) (.t 15))⟩])
 (.cond
 (.t 16)
 .ret
 .skip))
 (.seq
 (.reg
 [⟨(some 17),none,(.mv (.t 0))⟩,⟨(some 18),none,(.mv (.t 1))⟩,⟨(some 19),none,(.ia 5 (.t 17) (.t 18))⟩,⟨(some 20),none,(.lda 5 [(.int .i64),(.int .u8),(.int .i64),(.int .i64),(.int .i64)] (.t 19))⟩,⟨(some 8),none,(.alc 8 ty_api_Rule [(.int .i64 0),(.int .u8 0),(.int .i64 0),(.int .i64 0),(.int .i64 0)])⟩,⟨none,none,(.st 5 (.t 8) (.t 20))⟩])
 (.seq
 (.seq
 (.reg
 [⟨(some 21),none,(.fa 0 (.t 8))⟩,⟨(some 22),none,(.ld (.int .i64) (.t 21))⟩,⟨(some 23),none,(.cmp .neq .i64 (.t 22) (.c (.int .i64 1)))⟩])
 (.cond
 (.t 23)
 (.reg
 [⟨(some 24),none,(.mv (.t 0))⟩,⟨(some 25),none,(.fa 2 (.t 8))⟩,⟨(some 26),none,(.ld (.int .i64) (.t 25))⟩,⟨(some 27),none,(.mv (.t 2))⟩,⟨(some 28),none,(.mv (.t 3))⟩,⟨(some 29),none,(.call fn_evergreenref17_complete [(.t 24),(.t 26),(.t 27),(.t 28)])⟩])
 .skip))
 (.seq
 (.seq
 (.reg
 [⟨(some 30),none,(.fa 0 (.t 8))⟩,⟨(some 31),none,(.ld (.int .i64) (.t 30))⟩,⟨(some 32),none,(.cmp .eql .i64 (.t 31) (.c (.int .i64 2)))⟩])
 (.cond
 (.t 32)
 (.reg
 [⟨(some 33),none,(.mv (.t 0))⟩,⟨(some 34),none,(.fa 3 (.t 8))⟩,⟨(some 35),none,(.ld (.int .i64) (.t 34))⟩,⟨(some 36),none,(.mv (.t 2))⟩,⟨(some 37),none,(.mv (.t 3))⟩,⟨(some 38),none,(.call fn_evergreenref17_complete [(.t 33),(.t 35),(.t 36),(.t 37)])⟩])
 .skip))
 (.seq
 (.reg
 [⟨(some 39),none,(.mv (.t 2))⟩,⟨(some 40),none,(.mv (.t 1))⟩,⟨(some 41),none,(.ia 1 (.t 39) (.t 40))⟩,⟨none,none,(.st 1 (.t 41) (.c (.bool true)))⟩])
 (.reg
 [⟨(some 42),none,(.mv (.t 3))⟩,⟨(some 43),none,(.mv (.t 3))⟩,⟨(some 44),none,(.nil (.t 43))⟩,⟨(some 45),none,(.ld .slc (.t 44))⟩,⟨(some 46),none,(.mv (.t 1))⟩,⟨(some 47),none,(.bsl 47 ty_api_ID 1 1 [(.int .i64 0)] [(0,(1,(.t 46)))])⟩,⟨(some 48),none,(.app 48 ty_api_ID 1 8 (.t 45) (.t 47))⟩,⟨(some 49),none,(.nil (.t 42))⟩,⟨none,none,(.st 1 (.t 49) (.t 48))⟩]))))))
def ts_evergreenref17_complete : List (Nat × Tr) := []
set_option maxRecDepth 100000 in
set_option maxHeartbeats 4000000 in
theorem ok_evergreenref17_complete : irOf Tryz.prog fn_evergreenref17_complete [] ts_evergreenref17_complete = some (50,[],ir_evergreenref17_complete) := by kernel_rfl
def ir_evergreenref17_Order : C :=
 (.seq
 (.reg
 [⟨(some 4),none,(.mv (.c (.slice none 0 0)))⟩])
 (.seq
 (.reg
 [⟨(some 7),none,(.mv (.t 0))⟩,⟨(some 8),none,(.lens (.t 7))⟩,⟨(some 9),none,(.mks 9 ty_bool 1 1 [(.bool false)] (.t 8) (.t 8))⟩,⟨(some 5),none,(.mv (.t 9))⟩])
 (.seq
 (.reg
 [⟨(some 6),none,(.alc 6 ty_Sl_api_ID [(.slice none 0 0)])⟩])
 (.seq
 (.reg
 [⟨(some 10),none,(.mv (.t 0))⟩,⟨(some 11),none,(.mv (.t 1))⟩,⟨(some 12),none,(.mv (.t 5))⟩,⟨(some 13),none,(.call fn_evergreenref17_complete [(.t 10),(.t 11),(.t 12),(.t 6)])⟩])
 (.seq
 (.reg
 [⟨(some 14),none,(.ld .slc (.t 6))⟩,⟨(some 4),none,(.mv (.t 14))⟩])
 .ret)))))
def ts_evergreenref17_Order : List (Nat × Tr) := []
set_option maxRecDepth 100000 in
set_option maxHeartbeats 4000000 in
theorem ok_evergreenref17_Order : irOf Tryz.prog fn_evergreenref17_Order [] ts_evergreenref17_Order = some (15,[(.t 4)],ir_evergreenref17_Order) := by kernel_rfl
def ir_evergreenref22_Canon : C :=
 (.seq
 (.reg
 [⟨(some 4),none,(.mv (.c (.slice none 0 0)))⟩])
 (.seq
 (.reg
 [⟨(some 10),none,(.mv (.t 0))⟩,⟨(some 11),none,(.mv (.t 1))⟩,⟨(some 12),none,(.call fn_evergreenref17_Order [(.t 10),(.t 11)])⟩,⟨(some 5),none,(.mv (.t 12))⟩])
 (.seq
 (.reg
 [⟨(some 13),none,(.mv (.t 0))⟩,⟨(some 14),none,(.lens (.t 13))⟩,⟨(some 15),none,(.mks 15 ty_api_ID 1 8 [(.int .i64 0)] (.t 14) (.t 14))⟩,⟨(some 6),none,(.mv (.t 15))⟩])
 (.seq
 (.reg
 [⟨(some 7),none,(.mv (.c (.slice none 0 0)))⟩])
 (.seq
 (.seq
 (.reg
 [⟨(some 8),none,(.mv (.c (.int .i64 0)))⟩])
 (.blk
 0
 (.loop
 (.seq
 (.seq
 (.reg
 [⟨(some 16),none,(.mv (.t 8))⟩,⟨(some 17),none,(.mv (.t 5))⟩,⟨(some 18),none,(.lens (.t 17))⟩,⟨(some 19),none,(.cmp .lss .i64 (.t 16) (.t 18))⟩])
 (.cond
 (.t 19)
 .skip
 (.exit 0)))
 (.seq
 (.blk
 1
 (.seq
 (.reg
 [⟨(some 22),none,(.mv (.t 0))⟩,⟨(some 23),none,(.mv (.t 5))⟩,⟨(some 24),none,(.mv (.t 8))⟩,⟨(some 25),none,(.ia 1 (.t 23) (.t 24))⟩,⟨(some 26),none,(.ld (.int .i64) (.t 25))⟩,⟨(some 27),none,(.ia 5 (.t 22) (.t 26))⟩,⟨(some 28),none,(.lda 5 [(.int .i64),(.int .u8),(.int .i64),(.int .i64),(.int .i64)] (.t 27))⟩,⟨(some 9),none,(.alc 9 ty_api_Rule [(.int .i64 0),(.int .u8 0),(.int .i64 0),(.int .i64 0),(.int .i64 0)])⟩,⟨none,none,(.st 5 (.t 9) (.t 28))⟩])
 (.seq
 (.seq
 (.reg
 [⟨(some 29),none,(.fa 0 (.t 9))⟩,⟨(some 30),none,(.ld (.int .i64) (.t 29))⟩,⟨(some 31),none,(.cmp .neq .i64 (.t 30) (.c (.int .i64 1)))⟩])
 (.cond
 (.t 31)
 (.reg
 [⟨(some 32),none,(.mv (.t 6))⟩,⟨(some 33),none,(.fa 2 (.t 9))⟩,⟨(some 34),none,(.ld (.int .i64) (.t 33))⟩,⟨(some 35),none,(.ia 1 (.t 32) (.t 34))⟩,⟨(some 36),none,(.ld (.int .i64) (.t 35))⟩,⟨(some 37),none,(.fa 2 (.t 9))⟩,⟨none,none,(.st 1 (.t 37) (.t 36))⟩])
 .skip))
 (.seq
 (.seq
 (.reg
 [⟨(some 38),none,(.fa 0 (.t 9))⟩,⟨(some 39),none,(.ld (.int .i64) (.t 38))⟩,⟨(some 40),none,(.cmp .eql .i64 (.t 39) (.c (.int .i64 2)))⟩])
 (.cond
 (.t 40)
 (.reg
 [⟨(some 41),none,(.mv (.t 6))⟩,⟨(some 42),none,(.fa 3 (.t 9))⟩,⟨(some 43),none,(.ld (.int .i64) (.t 42))⟩,⟨(some 44),none,(.ia 1 (.t 41) (.t 43))⟩,⟨(some 45),none,(.ld (.int .i64) (.t 44))⟩,⟨(some 46),none,(.fa 3 (.t 9))⟩,⟨none,none,(.st 1 (.t 46) (.t 45))⟩])
 .skip))
 (.seq
 (.reg
 [⟨(some 47),none,(.mv (.t 6))⟩,⟨(some 48),none,(.mv (.t 5))⟩,⟨(some 49),none,(.mv (.t 8))⟩,⟨(some 50),none,(.ia 1 (.t 48) (.t 49))⟩,⟨(some 51),none,(.ld (.int .i64) (.t 50))⟩,⟨(some 52),none,(.mv (.t 8))⟩,⟨(some 53),none,(.ar .add .i64 (.t 52) (.c (.int .i64 1)))⟩,⟨(some 54),none,(.ia 1 (.t 47) (.t 51))⟩,⟨none,none,(.st 1 (.t 54) (.t 53))⟩])
 (.reg
 [⟨(some 55),none,(.mv (.t 7))⟩,⟨(some 56),none,(.lda 5 [(.int .i64),(.int .u8),(.int .i64),(.int .i64),(.int .i64)] (.t 9))⟩,⟨(some 57),none,(.bsl 57 ty_api_Rule 5 1 [(.int .i64 0),(.int .u8 0),(.int .i64 0),(.int .i64 0),(.int .i64 0)] [(0,(5,(.t 56)))])⟩,⟨(some 58),none,(.app 58 ty_api_Rule 5 40 (.t 55) (.t 57))⟩,⟨(some 7),none,(.mv (.t 58))⟩]))))))
 (.reg
 [⟨(some 20),none,(.mv (.t 8))⟩,⟨(some 21),none,(.ar .add .i64 (.t 20) (.c (.int .i64 1)))⟩,⟨(some 8),none,(.mv (.t 21))⟩]))))))
 (.seq
 (.reg
 [⟨(some 59),none,(.mv (.t 7))⟩,⟨(some 4),none,(.mv (.t 59))⟩])
 .ret))))))
def ts_evergreenref22_Canon : List (Nat × Tr) := []
set_option maxRecDepth 100000 in
set_option maxHeartbeats 4000000 in
theorem ok_evergreenref22_Canon : irOf Tryz.prog fn_evergreenref22_Canon [] ts_evergreenref22_Canon = some (60,[(.t 4)],ir_evergreenref22_Canon) := by kernel_rfl
def ir_evergreenlaw22_Canon : C :=
 (.seq
 (.reg
 [⟨(some 4),none,(.mv (.c (.slice none 0 0)))⟩,⟨(some 5),none,(.mv (.c (.bool false)))⟩])
 (.seq
 (.reg
 [⟨(some 9),none,(.mv (.t 0))⟩,⟨(some 10),none,(.mv (.t 1))⟩,⟨(some 11),none,(.call fn_P_intern_Store_Export [(.t 9),(.t 10)])⟩,⟨(some 8),none,(.mv (.t 11))⟩,⟨(some 12),none,(.ext (.t 8) 0)⟩,⟨(some 13),none,(.ext (.t 8) 1)⟩,⟨(some 6),none,(.mv (.t 12))⟩,⟨(some 7),none,(.mv (.t 13))⟩])
 (.seq
 (.seq
 (.reg
 [⟨(some 14),none,(.mv (.t 7))⟩,⟨(some 15),none,(.eqn .ifc true (.t 14))⟩,⟨(some 16),none,(.mv (.t 15))⟩,⟨(some 17),(some (16,false)),(.mv (.t 6))⟩,⟨(some 18),(some (16,false)),(.call fn_evergreenref11_Check [(.t 17)])⟩,⟨(some 19),(some (16,false)),(.cmp .neq .i64 (.t 18) (.c (.int .i64 0)))⟩,⟨(some 20),none,(.pick (.t 16) (.c (.bool true)) (.t 19))⟩])
 (.cond
 (.t 20)
 (.seq
 (.reg
 [⟨(some 4),none,(.mv (.c (.slice none 0 0)))⟩,⟨(some 5),none,(.mv (.c (.bool false)))⟩])
 .ret)
 .skip))
 (.seq
 (.reg
 [⟨(some 21),none,(.bld [(.int .i64 0),(.int .u8 0),(.int .i64 0),(.int .i64 0),(.int .i64 0)] [])⟩,⟨(some 22),none,(.bsl 22 ty_api_Rule 5 1 [(.int .i64 0),(.int .u8 0),(.int .i64 0),(.int .i64 0),(.int .i64 0)] [(0,(5,(.t 21)))])⟩,⟨(some 23),none,(.mv (.t 6))⟩,⟨(some 24),none,(.app 24 ty_api_Rule 5 40 (.t 22) (.t 23))⟩,⟨(some 25),none,(.mv (.t 6))⟩,⟨(some 26),none,(.lens (.t 25))⟩,⟨(some 27),none,(.call fn_evergreenref22_Canon [(.t 24),(.t 26)])⟩,⟨(some 4),none,(.mv (.t 27))⟩,⟨(some 5),none,(.mv (.c (.bool true)))⟩])
 .ret))))
def ts_evergreenlaw22_Canon : List (Nat × Tr) := []
set_option maxRecDepth 100000 in
set_option maxHeartbeats 4000000 in
theorem ok_evergreenlaw22_Canon : irOf Tryz.prog fn_evergreenlaw22_Canon [] ts_evergreenlaw22_Canon = some (28,[(.t 4),(.t 5)],ir_evergreenlaw22_Canon) := by kernel_rfl
end Go.Proofs.YtkkhpdkfploodaaGreatDoor
