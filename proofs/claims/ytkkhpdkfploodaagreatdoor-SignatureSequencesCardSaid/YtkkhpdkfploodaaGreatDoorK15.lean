/- The small forms of functions of the program, with the equations that say so: written by a program (irtool.py). No condition. -/
import Derived.Test.YtkkhpdkfploodaaGreatDoorK13
import Derived.Test.YtkkhpdkfploodaaGreatDoorProg
namespace Go.Proofs.YtkkhpdkfploodaaGreatDoor
open Go.EG
abbrev fn_P_signature_expansion_single : Nat := 42
abbrev fn_P_signature_expansion_times : Nat := 43
abbrev fn_signature_push : Nat := 44
def ir_signature_push : C :=
 (.seq
 (.reg
 [⟨(some 6),none,(.mv (.c (.slice none 0 0)))⟩])
 (.seq
 (.seq
 (.reg
 [⟨(some 8),none,(.mv (.t 0))⟩,⟨(some 9),none,(.lens (.t 8))⟩,⟨(some 7),none,(.mv (.t 9))⟩])
 (.seq
 (.reg
 [⟨(some 10),none,(.mv (.t 7))⟩,⟨(some 11),none,(.cmp .gtr .i64 (.t 10) (.c (.int .i64 0)))⟩,⟨(some 12),none,(.mv (.t 11))⟩,⟨(some 13),(some (12,true)),(.mv (.t 0))⟩,⟨(some 14),(some (12,true)),(.mv (.t 7))⟩,⟨(some 15),(some (12,true)),(.ar .sub .i64 (.t 14) (.c (.int .i64 1)))⟩,⟨(some 16),(some (12,true)),(.ia 2 (.t 13) (.t 15))⟩,⟨(some 17),(some (12,true)),(.fa 0 (.t 16))⟩,⟨(some 18),(some (12,true)),(.ld (.int .i64) (.t 17))⟩,⟨(some 19),(some (12,true)),(.mv (.t 1))⟩,⟨(some 20),(some (12,true)),(.cmp .eql .i64 (.t 18) (.t 19))⟩,⟨(some 21),none,(.pick (.t 12) (.t 20) (.c (.bool false)))⟩])
 (.cond
 (.t 21)
 (.seq
 (.reg
 [⟨(some 22),none,(.mv (.t 0))⟩,⟨(some 23),none,(.mv (.t 7))⟩,⟨(some 24),none,(.ar .sub .i64 (.t 23) (.c (.int .i64 1)))⟩,⟨(some 25),none,(.ia 2 (.t 22) (.t 24))⟩,⟨(some 26),none,(.fa 1 (.t 25))⟩,⟨(some 27),none,(.ld (.int .i64) (.t 26))⟩,⟨(some 28),none,(.mv (.t 2))⟩,⟨(some 29),none,(.ar .add .i64 (.t 27) (.t 28))⟩,⟨(some 30),none,(.ia 2 (.t 22) (.t 24))⟩,⟨(some 31),none,(.fa 1 (.t 30))⟩,⟨none,none,(.st 1 (.t 31) (.t 29))⟩])
 (.seq
 (.reg
 [⟨(some 32),none,(.mv (.t 0))⟩,⟨(some 6),none,(.mv (.t 32))⟩])
 .ret))
 .skip)))
 (.seq
 (.reg
 [⟨(some 33),none,(.mv (.t 0))⟩,⟨(some 34),none,(.mv (.t 1))⟩,⟨(some 35),none,(.mv (.t 2))⟩,⟨(some 36),none,(.bld [(.int .i64 0),(.int .i64 0)] [(0,(1,(.t 34))),(1,(1,(.t 35)))])⟩,⟨(some 37),none,(.bsl 37 ty_api_Group 2 1 [(.int .i64 0),(.int .i64 0)] [(0,(2,(.t 36)))])⟩,⟨(some 38),none,(.app 38 ty_api_Group 2 16 (.t 33) (.t 37))⟩,⟨(some 6),none,(.mv (.t 38))⟩])
 .ret)))
def ts_signature_push : List (Nat × Tr) := []
set_option maxRecDepth 100000 in
set_option maxHeartbeats 4000000 in
theorem ok_signature_push : irOf Tryz.prog fn_signature_push [] ts_signature_push = some (39,[(.t 6)],ir_signature_push) := by kernel_rfl
def ir_P_signature_expansion_times : C :=
 (.seq
 (.reg
 [⟨(some 6),none,(.mv (.c (.int .i64 0)))⟩,⟨(some 7),none,(.mv (.c .nilIface))⟩])
 (.seq
 (.reg
 [⟨(some 12),none,(.mv (.t 0))⟩,⟨(some 13),none,(.nil (.t 12))⟩,⟨(some 14),none,(.fa 0 (.t 13))⟩,⟨(some 15),none,(.ld .ptr (.t 14))⟩,⟨(some 16),none,(.nil (.t 15))⟩,⟨(some 17),none,(.fa 0 (.t 16))⟩,⟨(some 18),none,(.ld .ptr (.t 17))⟩,⟨(some 19),none,(.mv (.t 1))⟩,⟨(some 20),none,(.call fn_P_intern_Store_Weight [(.t 18),(.t 19)])⟩,⟨(some 11),none,(.mv (.t 20))⟩,⟨(some 21),none,(.ext (.t 11) 0)⟩,⟨(some 22),none,(.ext (.t 11) 1)⟩,⟨(some 8),none,(.alc 8 ty_api_Weight [(.int .i64 0),(.int .i64 0),(.int .i64 0),(.int .i64 0),(.int .u64 0),(.int .u64 0)])⟩,⟨none,none,(.st 6 (.t 8) (.t 21))⟩,⟨(some 9),none,(.mv (.t 22))⟩])
 (.seq
 (.seq
 (.reg
 [⟨(some 23),none,(.mv (.t 9))⟩,⟨(some 24),none,(.eqn .ifc true (.t 23))⟩])
 (.cond
 (.t 24)
 (.seq
 (.reg
 [⟨(some 25),none,(.mv (.t 9))⟩,⟨(some 6),none,(.mv (.c (.int .i64 0)))⟩,⟨(some 7),none,(.mv (.t 25))⟩])
 .ret)
 .skip))
 (.seq
 (.reg
 [⟨(some 27),none,(.mv (.t 0))⟩,⟨(some 28),none,(.nil (.t 27))⟩,⟨(some 29),none,(.fa 0 (.t 28))⟩,⟨(some 30),none,(.ld .ptr (.t 29))⟩,⟨(some 31),none,(.nil (.t 30))⟩,⟨(some 32),none,(.fa 0 (.t 31))⟩,⟨(some 33),none,(.ld .ptr (.t 32))⟩,⟨(some 34),none,(.mv (.t 2))⟩,⟨(some 35),none,(.call fn_P_intern_Store_Weight [(.t 33),(.t 34)])⟩,⟨(some 26),none,(.mv (.t 35))⟩,⟨(some 36),none,(.ext (.t 26) 0)⟩,⟨(some 37),none,(.ext (.t 26) 1)⟩,⟨(some 10),none,(.alc 10 ty_api_Weight [(.int .i64 0),(.int .i64 0),(.int .i64 0),(.int .i64 0),(.int .u64 0),(.int .u64 0)])⟩,⟨none,none,(.st 6 (.t 10) (.t 36))⟩,⟨(some 9),none,(.mv (.t 37))⟩])
 (.seq
 (.seq
 (.reg
 [⟨(some 38),none,(.mv (.t 9))⟩,⟨(some 39),none,(.eqn .ifc true (.t 38))⟩])
 (.cond
 (.t 39)
 (.seq
 (.reg
 [⟨(some 40),none,(.mv (.t 9))⟩,⟨(some 6),none,(.mv (.c (.int .i64 0)))⟩,⟨(some 7),none,(.mv (.t 40))⟩])
 .ret)
 .skip))
 (.seq
 (.reg
 [⟨(some 41),none,(.fa 0 (.t 8))⟩,⟨(some 42),none,(.ld (.int .i64) (.t 41))⟩,⟨(some 43),none,(.fa 0 (.t 10))⟩,⟨(some 44),none,(.ld (.int .i64) (.t 43))⟩,⟨(some 45),none,(.dv false .i64 (.t 42) (.t 44))⟩,⟨(some 6),none,(.mv (.t 45))⟩,⟨(some 7),none,(.mv (.c .nilIface))⟩])
 .ret))))))
def ts_P_signature_expansion_times : List (Nat × Tr) := []
set_option maxRecDepth 100000 in
set_option maxHeartbeats 4000000 in
theorem ok_P_signature_expansion_times : irOf Tryz.prog fn_P_signature_expansion_times [] ts_P_signature_expansion_times = some (46,[(.t 6),(.t 7)],ir_P_signature_expansion_times) := by kernel_rfl
def ir_P_signature_expansion_single : C :=
 (.seq
 (.reg
 [⟨(some 4),none,(.mv (.c (.int .i64 0)))⟩,⟨(some 5),none,(.mv (.c .nilIface))⟩])
 (.seq
 (.reg
 [⟨(some 16),none,(.mv (.t 1))⟩,⟨(some 17),none,(.bsl 17 ty_api_ID 1 1 [(.int .i64 0)] [(0,(1,(.t 16)))])⟩,⟨(some 6),none,(.mv (.t 17))⟩])
 (.seq
 (.blk
 0
 (.loop
 (.seq
 (.seq
 (.reg
 [⟨(some 18),none,(.mv (.t 6))⟩,⟨(some 19),none,(.lens (.t 18))⟩,⟨(some 20),none,(.cmp .gtr .i64 (.t 19) (.c (.int .i64 0)))⟩])
 (.cond
 (.t 20)
 .skip
 (.exit 0)))
 (.blk
 1
 (.seq
 (.reg
 [⟨(some 21),none,(.mv (.t 6))⟩,⟨(some 22),none,(.mv (.t 6))⟩,⟨(some 23),none,(.lens (.t 22))⟩,⟨(some 24),none,(.ar .sub .i64 (.t 23) (.c (.int .i64 1)))⟩,⟨(some 25),none,(.ia 1 (.t 21) (.t 24))⟩,⟨(some 26),none,(.ld (.int .i64) (.t 25))⟩,⟨(some 7),none,(.mv (.t 26))⟩])
 (.seq
 (.seq
 (.reg
 [⟨(some 28),none,(.mv (.t 0))⟩,⟨(some 29),none,(.nil (.t 28))⟩,⟨(some 30),none,(.fa 2 (.t 29))⟩,⟨(some 31),none,(.ld .map (.t 30))⟩,⟨(some 32),none,(.mv (.t 7))⟩,⟨(some 33),none,(.lku (.int .i64) true (.int .i64 0) (.t 31) (.t 32))⟩,⟨(some 27),none,(.mv (.t 33))⟩,⟨(some 34),none,(.ext (.t 27) 0)⟩,⟨(some 35),none,(.ext (.t 27) 1)⟩,⟨(some 8),none,(.mv (.t 34))⟩,⟨(some 9),none,(.mv (.t 35))⟩])
 (.seq
 (.reg
 [⟨(some 36),none,(.mv (.t 9))⟩])
 (.cond
 (.t 36)
 (.seq
 (.reg
 [⟨(some 37),none,(.mv (.t 6))⟩,⟨(some 38),none,(.mv (.t 6))⟩,⟨(some 39),none,(.lens (.t 38))⟩,⟨(some 40),none,(.ar .sub .i64 (.t 39) (.c (.int .i64 1)))⟩,⟨(some 41),none,(.slo 1 (.t 37) (some (.t 40)))⟩,⟨(some 6),none,(.mv (.t 41))⟩])
 (.exit 1))
 .skip)))
 (.seq
 (.reg
 [⟨(some 43),none,(.mv (.t 0))⟩,⟨(some 44),none,(.nil (.t 43))⟩,⟨(some 45),none,(.fa 0 (.t 44))⟩,⟨(some 46),none,(.ld .ptr (.t 45))⟩,⟨(some 47),none,(.nil (.t 46))⟩,⟨(some 48),none,(.fa 1 (.t 47))⟩,⟨(some 49),none,(.ld .ptr (.t 48))⟩,⟨(some 50),none,(.mv (.t 7))⟩,⟨(some 51),none,(.call fn_P_keys_Table_Level [(.t 49),(.t 50)])⟩,⟨(some 42),none,(.mv (.t 51))⟩,⟨(some 52),none,(.ext (.t 42) 0)⟩,⟨(some 53),none,(.ext (.t 42) 1)⟩,⟨(some 10),none,(.mv (.t 52))⟩,⟨(some 11),none,(.mv (.t 53))⟩])
 (.seq
 (.seq
 (.reg
 [⟨(some 54),none,(.mv (.t 11))⟩,⟨(some 55),none,(.eqn .ifc true (.t 54))⟩])
 (.cond
 (.t 55)
 (.seq
 (.reg
 [⟨(some 56),none,(.mv (.t 11))⟩,⟨(some 4),none,(.mv (.c (.int .i64 0)))⟩,⟨(some 5),none,(.mv (.t 56))⟩])
 .ret)
 .skip))
 (.seq
 (.seq
 (.reg
 [⟨(some 57),none,(.mv (.t 10))⟩,⟨(some 58),none,(.mv (.t 0))⟩,⟨(some 59),none,(.nil (.t 58))⟩,⟨(some 60),none,(.fa 1 (.t 59))⟩,⟨(some 61),none,(.ld (.int .i64) (.t 60))⟩,⟨(some 62),none,(.cmp .leq .i64 (.t 57) (.t 61))⟩])
 (.cond
 (.t 62)
 (.seq
 (.reg
 [⟨(some 63),none,(.mv (.t 0))⟩,⟨(some 64),none,(.nil (.t 63))⟩,⟨(some 65),none,(.fa 2 (.t 64))⟩,⟨(some 66),none,(.ld .map (.t 65))⟩,⟨(some 67),none,(.mv (.t 7))⟩,⟨(some 68),none,(.mv (.t 7))⟩,⟨none,none,(.mup (.int .i64) (.t 66) (.t 67) (.t 68))⟩])
 (.exit 1))
 .skip))
 (.seq
 (.reg
 [⟨(some 70),none,(.mv (.t 0))⟩,⟨(some 71),none,(.nil (.t 70))⟩,⟨(some 72),none,(.fa 0 (.t 71))⟩,⟨(some 73),none,(.ld .ptr (.t 72))⟩,⟨(some 74),none,(.nil (.t 73))⟩,⟨(some 75),none,(.fa 0 (.t 74))⟩,⟨(some 76),none,(.ld .ptr (.t 75))⟩,⟨(some 77),none,(.mv (.t 7))⟩,⟨(some 78),none,(.call fn_P_intern_Store_Rule [(.t 76),(.t 77)])⟩,⟨(some 69),none,(.mv (.t 78))⟩,⟨(some 79),none,(.ext (.t 69) 0)⟩,⟨(some 80),none,(.ext (.t 69) 1)⟩,⟨(some 12),none,(.alc 12 ty_api_Rule [(.int .i64 0),(.int .u8 0),(.int .i64 0),(.int .i64 0),(.int .i64 0)])⟩,⟨none,none,(.st 5 (.t 12) (.t 79))⟩,⟨(some 11),none,(.mv (.t 80))⟩])
 (.seq
 (.seq
 (.reg
 [⟨(some 81),none,(.mv (.t 11))⟩,⟨(some 82),none,(.eqn .ifc true (.t 81))⟩])
 (.cond
 (.t 82)
 (.seq
 (.reg
 [⟨(some 83),none,(.mv (.t 11))⟩,⟨(some 4),none,(.mv (.c (.int .i64 0)))⟩,⟨(some 5),none,(.mv (.t 83))⟩])
 .ret)
 .skip))
 (.seq
 (.drw
 [⟨(some 85),none,(.mv (.t 0))⟩,⟨(some 86),none,(.nil (.t 85))⟩,⟨(some 87),none,(.fa 2 (.t 86))⟩,⟨(some 88),none,(.ld .map (.t 87))⟩,⟨(some 89),none,(.fa 2 (.t 12))⟩,⟨(some 90),none,(.ld (.int .i64) (.t 89))⟩,⟨(some 91),none,(.lku (.int .i64) true (.int .i64 0) (.t 88) (.t 90))⟩,⟨(some 84),none,(.mv (.t 91))⟩,⟨(some 92),none,(.ext (.t 84) 0)⟩,⟨(some 93),none,(.ext (.t 84) 1)⟩,⟨(some 13),none,(.mv (.t 92))⟩,⟨(some 14),none,(.mv (.t 93))⟩]
 (.mov 0 (.take 1 (.take 2 (.take 3 (.take 4 (.take 5 (.take 6 (.mov 7 (.mov 8 (.mov 9 (.mov 10 (.mov 11 .done)))))))))))))
 (.seq
 (.seq
 (.reg
 [⟨(some 94),none,(.mv (.t 14))⟩,⟨(some 95),none,(.not (.t 94))⟩])
 (.cond
 (.t 95)
 (.seq
 (.reg
 [⟨(some 96),none,(.mv (.t 6))⟩,⟨(some 97),none,(.fa 2 (.t 12))⟩,⟨(some 98),none,(.ld (.int .i64) (.t 97))⟩,⟨(some 99),none,(.bsl 99 ty_api_ID 1 1 [(.int .i64 0)] [(0,(1,(.t 98)))])⟩,⟨(some 100),none,(.app 100 ty_api_ID 1 8 (.t 96) (.t 99))⟩,⟨(some 6),none,(.mv (.t 100))⟩])
 (.exit 1))
 .skip))
 (.seq
 (.seq
 (.reg
 [⟨(some 101),none,(.fa 0 (.t 12))⟩,⟨(some 102),none,(.ld (.int .i64) (.t 101))⟩,⟨(some 103),none,(.cmp .eql .i64 (.t 102) (.c (.int .i64 3)))⟩,⟨(some 104),none,(.mv (.t 103))⟩,⟨(some 105),(some (104,false)),(.mv (.t 13))⟩,⟨(some 106),(some (104,false)),(.cmp .eql .i64 (.t 105) (.c (.int .i64 0)))⟩,⟨(some 107),none,(.pick (.t 104) (.c (.bool true)) (.t 106))⟩])
 (.cond
 (.t 107)
 (.seq
 (.reg
 [⟨(some 108),none,(.mv (.t 0))⟩,⟨(some 109),none,(.nil (.t 108))⟩,⟨(some 110),none,(.fa 2 (.t 109))⟩,⟨(some 111),none,(.ld .map (.t 110))⟩,⟨(some 112),none,(.mv (.t 7))⟩,⟨(some 113),none,(.mv (.t 13))⟩,⟨none,none,(.mup (.int .i64) (.t 111) (.t 112) (.t 113))⟩])
 (.exit 1))
 .skip))
 (.seq
 (.drw
 [⟨(some 115),none,(.mv (.t 0))⟩,⟨(some 116),none,(.nil (.t 115))⟩,⟨(some 117),none,(.fa 2 (.t 116))⟩,⟨(some 118),none,(.ld .map (.t 117))⟩,⟨(some 119),none,(.fa 3 (.t 12))⟩,⟨(some 120),none,(.ld (.int .i64) (.t 119))⟩,⟨(some 121),none,(.lku (.int .i64) true (.int .i64 0) (.t 118) (.t 120))⟩,⟨(some 114),none,(.mv (.t 121))⟩,⟨(some 122),none,(.ext (.t 114) 0)⟩,⟨(some 123),none,(.ext (.t 114) 1)⟩,⟨(some 15),none,(.mv (.t 122))⟩,⟨(some 14),none,(.mv (.t 123))⟩]
 (.mov 0 (.take 1 (.take 2 (.take 3 (.take 4 (.take 5 (.take 6 (.mov 7 (.mov 8 (.mov 9 (.mov 10 (.mov 11 .done)))))))))))))
 (.seq
 (.seq
 (.reg
 [⟨(some 124),none,(.mv (.t 14))⟩,⟨(some 125),none,(.not (.t 124))⟩])
 (.cond
 (.t 125)
 (.seq
 (.reg
 [⟨(some 126),none,(.mv (.t 6))⟩,⟨(some 127),none,(.fa 3 (.t 12))⟩,⟨(some 128),none,(.ld (.int .i64) (.t 127))⟩,⟨(some 129),none,(.bsl 129 ty_api_ID 1 1 [(.int .i64 0)] [(0,(1,(.t 128)))])⟩,⟨(some 130),none,(.app 130 ty_api_ID 1 8 (.t 126) (.t 129))⟩,⟨(some 6),none,(.mv (.t 130))⟩])
 (.exit 1))
 .skip))
 (.seq
 (.seq
 (.reg
 [⟨(some 131),none,(.mv (.t 13))⟩,⟨(some 132),none,(.mv (.t 15))⟩,⟨(some 133),none,(.cmp .neq .i64 (.t 131) (.t 132))⟩])
 (.cond
 (.t 133)
 (.reg
 [⟨(some 13),none,(.mv (.c (.int .i64 0)))⟩])
 .skip))
 (.reg
 [⟨(some 134),none,(.mv (.t 0))⟩,⟨(some 135),none,(.nil (.t 134))⟩,⟨(some 136),none,(.fa 2 (.t 135))⟩,⟨(some 137),none,(.ld .map (.t 136))⟩,⟨(some 138),none,(.mv (.t 7))⟩,⟨(some 139),none,(.mv (.t 13))⟩,⟨none,none,(.mup (.int .i64) (.t 137) (.t 138) (.t 139))⟩]))))))))))))))))))
 (.seq
 (.reg
 [⟨(some 140),none,(.mv (.t 0))⟩,⟨(some 141),none,(.nil (.t 140))⟩,⟨(some 142),none,(.fa 2 (.t 141))⟩,⟨(some 143),none,(.ld .map (.t 142))⟩,⟨(some 144),none,(.mv (.t 1))⟩,⟨(some 145),none,(.lku (.int .i64) false (.int .i64 0) (.t 143) (.t 144))⟩,⟨(some 4),none,(.mv (.t 145))⟩,⟨(some 5),none,(.mv (.c .nilIface))⟩])
 .ret))))
def ts_P_signature_expansion_single : List (Nat × Tr) := [(15,(.mov 0 (.take 1 (.take 2 (.take 3 (.take 4 (.take 5 (.take 6 (.mov 7 (.mov 8 (.mov 9 (.mov 10 (.mov 11 .done))))))))))))),(20,(.mov 0 (.take 1 (.take 2 (.take 3 (.take 4 (.take 5 (.take 6 (.mov 7 (.mov 8 (.mov 9 (.mov 10 (.mov 11 .done)))))))))))))]
set_option maxRecDepth 100000 in
set_option maxHeartbeats 4000000 in
theorem ok_P_signature_expansion_single : irOf Tryz.prog fn_P_signature_expansion_single [41] ts_P_signature_expansion_single = some (146,[(.t 4),(.t 5)],ir_P_signature_expansion_single) := by kernel_rfl
def ir_P_signature_expansion_groups : C :=
 (.seq
 (.reg
 [⟨(some 4),none,(.mv (.c (.slice none 0 0)))⟩,⟨(some 5),none,(.mv (.c .nilIface))⟩])
 (.seq
 (.reg
 [⟨(some 6),none,(.mv (.c (.slice none 0 0)))⟩])
 (.seq
 (.reg
 [⟨(some 14),none,(.mv (.t 1))⟩,⟨(some 15),none,(.bld [(.int .i64 0),(.int .i64 0)] [(0,(1,(.t 14))),(1,(1,(.c (.int .i64 1))))])⟩,⟨(some 16),none,(.bsl 16 ty_api_Group 2 1 [(.int .i64 0),(.int .i64 0)] [(0,(2,(.t 15)))])⟩,⟨(some 7),none,(.mv (.t 16))⟩])
 (.seq
 (.blk
 0
 (.loop
 (.seq
 (.seq
 (.reg
 [⟨(some 17),none,(.mv (.t 7))⟩,⟨(some 18),none,(.lens (.t 17))⟩,⟨(some 19),none,(.cmp .gtr .i64 (.t 18) (.c (.int .i64 0)))⟩])
 (.cond
 (.t 19)
 .skip
 (.exit 0)))
 (.blk
 1
 (.seq
 (.reg
 [⟨(some 20),none,(.mv (.t 7))⟩,⟨(some 21),none,(.mv (.t 7))⟩,⟨(some 22),none,(.lens (.t 21))⟩,⟨(some 23),none,(.ar .sub .i64 (.t 22) (.c (.int .i64 1)))⟩,⟨(some 24),none,(.ia 2 (.t 20) (.t 23))⟩,⟨(some 25),none,(.lda 2 [(.int .i64),(.int .i64)] (.t 24))⟩,⟨(some 8),none,(.alc 8 ty_api_Group [(.int .i64 0),(.int .i64 0)])⟩,⟨none,none,(.st 2 (.t 8) (.t 25))⟩])
 (.seq
 (.reg
 [⟨(some 26),none,(.mv (.t 7))⟩,⟨(some 27),none,(.mv (.t 7))⟩,⟨(some 28),none,(.lens (.t 27))⟩,⟨(some 29),none,(.ar .sub .i64 (.t 28) (.c (.int .i64 1)))⟩,⟨(some 30),none,(.slo 2 (.t 26) (some (.t 29)))⟩,⟨(some 7),none,(.mv (.t 30))⟩])
 (.seq
 (.reg
 [⟨(some 32),none,(.mv (.t 0))⟩,⟨(some 33),none,(.fa 0 (.t 8))⟩,⟨(some 34),none,(.ld (.int .i64) (.t 33))⟩,⟨(some 35),none,(.call fn_P_signature_expansion_single [(.t 32),(.t 34)])⟩,⟨(some 31),none,(.mv (.t 35))⟩,⟨(some 36),none,(.ext (.t 31) 0)⟩,⟨(some 37),none,(.ext (.t 31) 1)⟩,⟨(some 9),none,(.mv (.t 36))⟩,⟨(some 10),none,(.mv (.t 37))⟩])
 (.seq
 (.seq
 (.reg
 [⟨(some 38),none,(.mv (.t 10))⟩,⟨(some 39),none,(.eqn .ifc true (.t 38))⟩])
 (.cond
 (.t 39)
 (.seq
 (.reg
 [⟨(some 40),none,(.mv (.t 10))⟩,⟨(some 4),none,(.mv (.c (.slice none 0 0)))⟩,⟨(some 5),none,(.mv (.t 40))⟩])
 .ret)
 .skip))
 (.seq
 (.seq
 (.reg
 [⟨(some 41),none,(.mv (.t 9))⟩,⟨(some 42),none,(.cmp .neq .i64 (.t 41) (.c (.int .i64 0)))⟩])
 (.cond
 (.t 42)
 (.seq
 (.reg
 [⟨(some 44),none,(.mv (.t 0))⟩,⟨(some 45),none,(.fa 0 (.t 8))⟩,⟨(some 46),none,(.ld (.int .i64) (.t 45))⟩,⟨(some 47),none,(.mv (.t 9))⟩,⟨(some 48),none,(.call fn_P_signature_expansion_times [(.t 44),(.t 46),(.t 47)])⟩,⟨(some 43),none,(.mv (.t 48))⟩,⟨(some 49),none,(.ext (.t 43) 0)⟩,⟨(some 50),none,(.ext (.t 43) 1)⟩,⟨(some 11),none,(.mv (.t 49))⟩,⟨(some 12),none,(.mv (.t 50))⟩])
 (.seq
 (.seq
 (.reg
 [⟨(some 51),none,(.mv (.t 12))⟩,⟨(some 52),none,(.eqn .ifc true (.t 51))⟩])
 (.cond
 (.t 52)
 (.seq
 (.reg
 [⟨(some 53),none,(.mv (.t 12))⟩,⟨(some 4),none,(.mv (.c (.slice none 0 0)))⟩,⟨(some 5),none,(.mv (.t 53))⟩])
 .ret)
 .skip))
 (.seq
 (.reg
 [⟨(some 54),none,(.mv (.t 6))⟩,⟨(some 55),none,(.mv (.t 9))⟩,⟨(some 56),none,(.fa 1 (.t 8))⟩,⟨(some 57),none,(.ld (.int .i64) (.t 56))⟩,⟨(some 58),none,(.mv (.t 11))⟩,⟨(some 59),none,(.ar .mul .i64 (.t 57) (.t 58))⟩,⟨(some 60),none,(.call fn_signature_push [(.t 54),(.t 55),(.t 59)])⟩,⟨(some 6),none,(.mv (.t 60))⟩])
 (.seq
 (.seq
 (.reg
 [⟨(some 61),none,(.mv (.t 6))⟩,⟨(some 62),none,(.lens (.t 61))⟩,⟨(some 63),none,(.cmp .gtr .i64 (.t 62) (.c (.int .i64 65536)))⟩])
 (.cond
 (.t 63)
 (.seq
 (.reg
 [⟨(some 64),none,(.mki ty_api_Errno (.c (.int .i64 9)))⟩,⟨(some 4),none,(.mv (.c (.slice none 0 0)))⟩,⟨(some 5),none,(.mv (.t 64))⟩])
 .ret)
 .skip))
 (.exit 1)))))
 .skip))
 (.seq
 (.drb
 [⟨(some 66),none,(.mv (.t 0))⟩,⟨(some 67),none,(.nil (.t 66))⟩,⟨(some 68),none,(.fa 0 (.t 67))⟩,⟨(some 69),none,(.ld .ptr (.t 68))⟩,⟨(some 70),none,(.nil (.t 69))⟩,⟨(some 71),none,(.fa 0 (.t 70))⟩,⟨(some 72),none,(.ld .ptr (.t 71))⟩,⟨(some 73),none,(.fa 0 (.t 8))⟩,⟨(some 74),none,(.ld (.int .i64) (.t 73))⟩,⟨(some 75),none,(.call fn_P_intern_Store_Rule [(.t 72),(.t 74)])⟩,⟨(some 65),none,(.mv (.t 75))⟩,⟨(some 76),none,(.ext (.t 65) 0)⟩,⟨(some 77),none,(.ext (.t 65) 1)⟩,⟨(some 13),none,(.alc 13 ty_api_Rule [(.int .i64 0),(.int .u8 0),(.int .i64 0),(.int .i64 0),(.int .i64 0)])⟩,⟨none,none,(.st 5 (.t 13) (.t 76))⟩,⟨(some 10),none,(.mv (.t 77))⟩]
 (.mov 0 (.take 1 (.take 2 (.take 3 (.take 4 (.take 5 (.take 6 (.take 7 (.take 8 (.alt 9 false (.mov 10 (.mov 11 (.mov 12 (.alt 13 true (.bar 14 (.mov 15 .done)) .nil)))) (.alt 13 true (.bar 9 (.mov 10 (.mov 11 (.mov 12 (.bar 14 (.mov 15 .done)))))) .nil))))))))))))
 (.seq
 (.seq
 (.reg
 [⟨(some 78),none,(.mv (.t 10))⟩,⟨(some 79),none,(.eqn .ifc true (.t 78))⟩])
 (.cond
 (.t 79)
 (.seq
 (.reg
 [⟨(some 80),none,(.mv (.t 10))⟩,⟨(some 4),none,(.mv (.c (.slice none 0 0)))⟩,⟨(some 5),none,(.mv (.t 80))⟩])
 .ret)
 .skip))
 (.seq
 (.seq
 (.reg
 [⟨(some 81),none,(.fa 0 (.t 13))⟩,⟨(some 82),none,(.ld (.int .i64) (.t 81))⟩,⟨(some 83),none,(.cmp .eql .i64 (.t 82) (.c (.int .i64 3)))⟩])
 (.cond
 (.t 83)
 (.seq
 (.reg
 [⟨(some 84),none,(.mv (.t 7))⟩,⟨(some 85),none,(.fa 2 (.t 13))⟩,⟨(some 86),none,(.ld (.int .i64) (.t 85))⟩,⟨(some 87),none,(.fa 1 (.t 8))⟩,⟨(some 88),none,(.ld (.int .i64) (.t 87))⟩,⟨(some 89),none,(.fa 4 (.t 13))⟩,⟨(some 90),none,(.ld (.int .i64) (.t 89))⟩,⟨(some 91),none,(.ar .mul .i64 (.t 88) (.t 90))⟩,⟨(some 92),none,(.bld [(.int .i64 0),(.int .i64 0)] [(0,(1,(.t 86))),(1,(1,(.t 91)))])⟩,⟨(some 93),none,(.bsl 93 ty_api_Group 2 1 [(.int .i64 0),(.int .i64 0)] [(0,(2,(.t 92)))])⟩,⟨(some 94),none,(.app 94 ty_api_Group 2 16 (.t 84) (.t 93))⟩,⟨(some 7),none,(.mv (.t 94))⟩])
 (.exit 1))
 .skip))
 (.seq
 (.seq
 (.reg
 [⟨(some 95),none,(.fa 1 (.t 8))⟩,⟨(some 96),none,(.ld (.int .i64) (.t 95))⟩,⟨(some 97),none,(.cmp .gtr .i64 (.t 96) (.c (.int .i64 1)))⟩])
 (.cond
 (.t 97)
 (.reg
 [⟨(some 98),none,(.mv (.t 7))⟩,⟨(some 99),none,(.fa 0 (.t 8))⟩,⟨(some 100),none,(.ld (.int .i64) (.t 99))⟩,⟨(some 101),none,(.fa 1 (.t 8))⟩,⟨(some 102),none,(.ld (.int .i64) (.t 101))⟩,⟨(some 103),none,(.ar .sub .i64 (.t 102) (.c (.int .i64 1)))⟩,⟨(some 104),none,(.bld [(.int .i64 0),(.int .i64 0)] [(0,(1,(.t 100))),(1,(1,(.t 103)))])⟩,⟨(some 105),none,(.bsl 105 ty_api_Group 2 1 [(.int .i64 0),(.int .i64 0)] [(0,(2,(.t 104)))])⟩,⟨(some 106),none,(.app 106 ty_api_Group 2 16 (.t 98) (.t 105))⟩,⟨(some 7),none,(.mv (.t 106))⟩])
 .skip))
 (.reg
 [⟨(some 107),none,(.mv (.t 7))⟩,⟨(some 108),none,(.fa 3 (.t 13))⟩,⟨(some 109),none,(.ld (.int .i64) (.t 108))⟩,⟨(some 110),none,(.bld [(.int .i64 0),(.int .i64 0)] [(0,(1,(.t 109))),(1,(1,(.c (.int .i64 1))))])⟩,⟨(some 111),none,(.fa 2 (.t 13))⟩,⟨(some 112),none,(.ld (.int .i64) (.t 111))⟩,⟨(some 113),none,(.bld [(.int .i64 0),(.int .i64 0)] [(0,(1,(.t 112))),(1,(1,(.c (.int .i64 1))))])⟩,⟨(some 114),none,(.bsl 114 ty_api_Group 2 2 [(.int .i64 0),(.int .i64 0),(.int .i64 0),(.int .i64 0)] [(0,(2,(.t 110))),(2,(2,(.t 113)))])⟩,⟨(some 115),none,(.app 115 ty_api_Group 2 16 (.t 107) (.t 114))⟩,⟨(some 7),none,(.mv (.t 115))⟩]))))))))))))))
 (.seq
 (.reg
 [⟨(some 116),none,(.mv (.t 6))⟩,⟨(some 4),none,(.mv (.t 116))⟩,⟨(some 5),none,(.mv (.c .nilIface))⟩])
 .ret)))))
def ts_P_signature_expansion_groups : List (Nat × Tr) := [(16,(.mov 0 (.take 1 (.take 2 (.take 3 (.take 4 (.take 5 (.take 6 (.take 7 (.take 8 (.alt 9 false (.mov 10 (.mov 11 (.mov 12 (.alt 13 true (.bar 14 (.mov 15 .done)) .nil)))) (.alt 13 true (.bar 9 (.mov 10 (.mov 11 (.mov 12 (.bar 14 (.mov 15 .done)))))) .nil))))))))))))]
set_option maxRecDepth 100000 in
set_option maxHeartbeats 4000000 in
theorem ok_P_signature_expansion_groups : irOf Tryz.prog fn_P_signature_expansion_groups [30,2000016] ts_P_signature_expansion_groups = some (117,[(.t 4),(.t 5)],ir_P_signature_expansion_groups) := by kernel_rfl
end Go.Proofs.YtkkhpdkfploodaaGreatDoor
