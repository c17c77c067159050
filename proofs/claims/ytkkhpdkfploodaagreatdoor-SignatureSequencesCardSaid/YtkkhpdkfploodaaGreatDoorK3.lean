/- The small forms of functions of the program, with the equations that say so: written by a program (irtool.py). No condition. -/
import Derived.Test.YtkkhpdkfploodaaGreatDoorK2
import Derived.Test.YtkkhpdkfploodaaGreatDoorProg
namespace Go.Proofs.YtkkhpdkfploodaaGreatDoor
open Go.EG
abbrev fn_intern_New : Nat := 4
abbrev fn_signature_New : Nat := 5
abbrev fn_P_signature_Parser_Of : Nat := 6
abbrev fn_evergreenlaw22_copied : Nat := 7
abbrev fn_evergreenlaw22_awake : Nat := 9
abbrev fn_evergreenbase_Is : Nat := 10
abbrev fn_evergreenref11_Same : Nat := 15
abbrev fn_length_Clip : Nat := 17
abbrev fn_keys_New : Nat := 18
abbrev fn_P_signature_Parser_letters : Nat := 19
abbrev fn_P_signature_Parser_runs : Nat := 20
abbrev fn_P_signature_Parser_pairs : Nat := 21
abbrev fn_P_intern_Store_Len : Nat := 22
abbrev fn_P_keys_Table_Level : Nat := 23
abbrev fn_P_intern_Store_Rule : Nat := 25
abbrev fn_evergreenbase_Num : Nat := 26
abbrev fn_evergreenref20_Keys : Nat := 29
abbrev fn_evergreenref20_Fits : Nat := 30
abbrev fn_evergreenref11_Check : Nat := 32
abbrev fn_P_intern_Store_Letter : Nat := 34
abbrev fn_P_signature_Parser_add : Nat := 35
abbrev fn_levels_Runs : Nat := 36
abbrev fn_P_intern_Store_Power : Nat := 37
abbrev fn_P_keys_Table_Key : Nat := 38
abbrev fn_levels_Pairs : Nat := 39
abbrev fn_P_intern_Store_Pair : Nat := 40
abbrev fn_P_keys_Table_row : Nat := 41
abbrev fn_P_intern_Store_known : Nat := 45
abbrev fn_evergreenref04_Mix : Nat := 46
abbrev fn_evergreenref20_After : Nat := 47
abbrev fn_evergreenref20_Number : Nat := 48
abbrev fn_evergreenref11_Rule : Nat := 50
abbrev fn_P_intern_Store_find : Nat := 52
abbrev fn_P_intern_Store_add : Nat := 53
abbrev fn_weight_Letter : Nat := 54
abbrev fn_P_intern_Store_at : Nat := 55
abbrev fn_length_Mul : Nat := 56
abbrev fn_weight_Repeat : Nat := 57
abbrev fn_keys_Number : Nat := 58
abbrev fn_levels_Stretches : Nat := 59
abbrev fn_length_Add : Nat := 60
abbrev fn_weight_Join : Nat := 61
abbrev fn_P_keys_Table_compute : Nat := 62
abbrev fn_P_intern_Store_Weight : Nat := 63
abbrev fn_evergreenref04_Pow : Nat := 64
abbrev fn_evergreenref04_Add : Nat := 65
abbrev fn_evergreenref04_Mul : Nat := 66
abbrev fn_rule_Refs : Nat := 67
abbrev fn_evergreenref11_earlier : Nat := 69
abbrev fn_digest_Letter : Nat := 70
abbrev fn_weight_Unit : Nat := 71
abbrev fn_length_Valid : Nat := 72
abbrev fn_weight_Valid : Nat := 73
abbrev fn_digest_Repeat : Nat := 74
abbrev fn_keys_number : Nat := 75
abbrev fn_digest_Join : Nat := 76
abbrev fn_modular_Mix : Nat := 77
abbrev fn_keys_after : Nat := 78
abbrev fn_digest_Unit : Nat := 81
abbrev fn_modular_Pow : Nat := 82
abbrev fn_modular_Add : Nat := 83
abbrev fn_modular_Mul : Nat := 84
abbrev fn_keys_fitting : Nat := 85
abbrev fn_modular_Reduce : Nat := 97
abbrev fn_math_bits_Mul64 : Nat := 98
abbrev fn_math_bits_TrailingZeros64 : Nat := 99
abbrev ty_int : Nat := 3
abbrev ty_uint8 : Nat := 5
abbrev ty_api_ID : Nat := 27
abbrev ty_api_Errno : Nat := 38
abbrev ty_api_Group : Nat := 49
abbrev ty_intern_Store : Nat := 57
abbrev ty_signature_Parser : Nat := 61
abbrev ty_signature_sequence : Nat := 64
abbrev ty_api_Rule : Nat := 77
abbrev ty_uint64 : Nat := 85
abbrev ty_evergreenref20_Key : Nat := 87
abbrev ty_keys_Table : Nat := 94
abbrev ty_keys_row : Nat := 105
abbrev ty_api_Digest : Nat := 114
abbrev ty_api_Weight : Nat := 116
abbrev ty_intern_entry : Nat := 118
abbrev ty_api_Span : Nat := 139
def ir_math_bits_TrailingZeros64 : C :=
 (.seq
 (.reg
 [⟨(some 2),none,(.mv (.c (.int .i64 0)))⟩])
 (.seq
 (.seq
 (.reg
 [⟨(some 3),none,(.mv (.t 0))⟩,⟨(some 4),none,(.cmp .eql .u64 (.t 3) (.c (.int .u64 0)))⟩])
 (.cond
 (.t 4)
 (.seq
 (.reg
 [⟨(some 2),none,(.mv (.c (.int .i64 64)))⟩])
 .ret)
 .skip))
 (.seq
 (.reg
 [⟨(some 5),none,(.mv (.t 0))⟩,⟨(some 6),none,(.mv (.t 0))⟩,⟨(some 7),none,(.neg .u64 (.t 6))⟩,⟨(some 8),none,(.bit .and .u64 (.t 5) (.t 7))⟩,⟨(some 9),none,(.ar .mul .u64 (.t 8) (.c (.int .u64 285870213051353865)))⟩,⟨(some 10),none,(.sh false .u64 (.t 9) (.c (.int .u64 58)))⟩,⟨(some 11),none,(.iaa 1 64 (.g 0) (.t 10))⟩,⟨(some 12),none,(.ld (.int .u8) (.t 11))⟩,⟨(some 13),none,(.cv .i64 (.t 12))⟩,⟨(some 2),none,(.mv (.t 13))⟩])
 .ret)))
def ts_math_bits_TrailingZeros64 : List (Nat × Tr) := []
set_option maxRecDepth 100000 in
set_option maxHeartbeats 4000000 in
theorem ok_math_bits_TrailingZeros64 : irOf Tryz.prog fn_math_bits_TrailingZeros64 [] ts_math_bits_TrailingZeros64 = some (14,[(.t 2)],ir_math_bits_TrailingZeros64) := by kernel_rfl
def ir_math_bits_Mul64 : C :=
 (.seq
 (.reg
 [⟨(some 4),none,(.mv (.c (.int .u64 0)))⟩,⟨(some 5),none,(.mv (.c (.int .u64 0)))⟩])
 (.seq
 (.reg
 [⟨(some 14),none,(.mv (.t 0))⟩,⟨(some 15),none,(.bit .and .u64 (.t 14) (.c (.int .u64 4294967295)))⟩,⟨(some 6),none,(.mv (.t 15))⟩])
 (.seq
 (.reg
 [⟨(some 16),none,(.mv (.t 0))⟩,⟨(some 17),none,(.sh false .u64 (.t 16) (.c (.int .u64 32)))⟩,⟨(some 7),none,(.mv (.t 17))⟩])
 (.seq
 (.reg
 [⟨(some 18),none,(.mv (.t 1))⟩,⟨(some 19),none,(.bit .and .u64 (.t 18) (.c (.int .u64 4294967295)))⟩,⟨(some 8),none,(.mv (.t 19))⟩])
 (.seq
 (.reg
 [⟨(some 20),none,(.mv (.t 1))⟩,⟨(some 21),none,(.sh false .u64 (.t 20) (.c (.int .u64 32)))⟩,⟨(some 9),none,(.mv (.t 21))⟩])
 (.seq
 (.reg
 [⟨(some 22),none,(.mv (.t 6))⟩,⟨(some 23),none,(.mv (.t 8))⟩,⟨(some 24),none,(.ar .mul .u64 (.t 22) (.t 23))⟩,⟨(some 10),none,(.mv (.t 24))⟩])
 (.seq
 (.reg
 [⟨(some 25),none,(.mv (.t 7))⟩,⟨(some 26),none,(.mv (.t 8))⟩,⟨(some 27),none,(.ar .mul .u64 (.t 25) (.t 26))⟩,⟨(some 28),none,(.mv (.t 10))⟩,⟨(some 29),none,(.sh false .u64 (.t 28) (.c (.int .u64 32)))⟩,⟨(some 30),none,(.ar .add .u64 (.t 27) (.t 29))⟩,⟨(some 11),none,(.mv (.t 30))⟩])
 (.seq
 (.reg
 [⟨(some 31),none,(.mv (.t 11))⟩,⟨(some 32),none,(.bit .and .u64 (.t 31) (.c (.int .u64 4294967295)))⟩,⟨(some 12),none,(.mv (.t 32))⟩])
 (.seq
 (.reg
 [⟨(some 33),none,(.mv (.t 11))⟩,⟨(some 34),none,(.sh false .u64 (.t 33) (.c (.int .u64 32)))⟩,⟨(some 13),none,(.mv (.t 34))⟩])
 (.seq
 (.reg
 [⟨(some 35),none,(.mv (.t 12))⟩,⟨(some 36),none,(.mv (.t 6))⟩,⟨(some 37),none,(.mv (.t 9))⟩,⟨(some 38),none,(.ar .mul .u64 (.t 36) (.t 37))⟩,⟨(some 39),none,(.ar .add .u64 (.t 35) (.t 38))⟩,⟨(some 12),none,(.mv (.t 39))⟩])
 (.seq
 (.reg
 [⟨(some 40),none,(.mv (.t 7))⟩,⟨(some 41),none,(.mv (.t 9))⟩,⟨(some 42),none,(.ar .mul .u64 (.t 40) (.t 41))⟩,⟨(some 43),none,(.mv (.t 13))⟩,⟨(some 44),none,(.ar .add .u64 (.t 42) (.t 43))⟩,⟨(some 45),none,(.mv (.t 12))⟩,⟨(some 46),none,(.sh false .u64 (.t 45) (.c (.int .u64 32)))⟩,⟨(some 47),none,(.ar .add .u64 (.t 44) (.t 46))⟩,⟨(some 4),none,(.mv (.t 47))⟩])
 (.seq
 (.reg
 [⟨(some 48),none,(.mv (.t 0))⟩,⟨(some 49),none,(.mv (.t 1))⟩,⟨(some 50),none,(.ar .mul .u64 (.t 48) (.t 49))⟩,⟨(some 5),none,(.mv (.t 50))⟩])
 .ret))))))))))))
def ts_math_bits_Mul64 : List (Nat × Tr) := []
set_option maxRecDepth 100000 in
set_option maxHeartbeats 4000000 in
theorem ok_math_bits_Mul64 : irOf Tryz.prog fn_math_bits_Mul64 [] ts_math_bits_Mul64 = some (51,[(.t 4),(.t 5)],ir_math_bits_Mul64) := by kernel_rfl
def ir_modular_Reduce : C :=
 (.seq
 (.reg
 [⟨(some 2),none,(.mv (.c (.int .u64 0)))⟩])
 (.seq
 (.reg
 [⟨(some 3),none,(.mv (.t 0))⟩,⟨(some 4),none,(.bit .and .u64 (.t 3) (.c (.int .u64 2305843009213693951)))⟩,⟨(some 5),none,(.mv (.t 0))⟩,⟨(some 6),none,(.sh false .u64 (.t 5) (.c (.int .u64 61)))⟩,⟨(some 7),none,(.ar .add .u64 (.t 4) (.t 6))⟩,⟨(some 0),none,(.mv (.t 7))⟩])
 (.seq
 (.seq
 (.reg
 [⟨(some 8),none,(.mv (.t 0))⟩,⟨(some 9),none,(.cmp .geq .u64 (.t 8) (.c (.int .u64 2305843009213693951)))⟩])
 (.cond
 (.t 9)
 (.reg
 [⟨(some 10),none,(.mv (.t 0))⟩,⟨(some 11),none,(.ar .sub .u64 (.t 10) (.c (.int .u64 2305843009213693951)))⟩,⟨(some 0),none,(.mv (.t 11))⟩])
 .skip))
 (.seq
 (.reg
 [⟨(some 12),none,(.mv (.t 0))⟩,⟨(some 2),none,(.mv (.t 12))⟩])
 .ret))))
def ts_modular_Reduce : List (Nat × Tr) := []
set_option maxRecDepth 100000 in
set_option maxHeartbeats 4000000 in
theorem ok_modular_Reduce : irOf Tryz.prog fn_modular_Reduce [] ts_modular_Reduce = some (13,[(.t 2)],ir_modular_Reduce) := by kernel_rfl
def ir_modular_Mul : C :=
 (.seq
 (.reg
 [⟨(some 4),none,(.mv (.c (.int .u64 0)))⟩])
 (.seq
 (.reg
 [⟨(some 8),none,(.mv (.t 0))⟩,⟨(some 9),none,(.call fn_modular_Reduce [(.t 8)])⟩,⟨(some 10),none,(.mv (.t 1))⟩,⟨(some 11),none,(.call fn_modular_Reduce [(.t 10)])⟩,⟨(some 12),none,(.call fn_math_bits_Mul64 [(.t 9),(.t 11)])⟩,⟨(some 7),none,(.mv (.t 12))⟩,⟨(some 13),none,(.ext (.t 7) 0)⟩,⟨(some 14),none,(.ext (.t 7) 1)⟩,⟨(some 5),none,(.mv (.t 13))⟩,⟨(some 6),none,(.mv (.t 14))⟩])
 (.seq
 (.reg
 [⟨(some 15),none,(.mv (.t 5))⟩,⟨(some 16),none,(.sh true .u64 (.t 15) (.c (.int .u64 3)))⟩,⟨(some 17),none,(.mv (.t 6))⟩,⟨(some 18),none,(.sh false .u64 (.t 17) (.c (.int .u64 61)))⟩,⟨(some 19),none,(.ar .add .u64 (.t 16) (.t 18))⟩,⟨(some 20),none,(.mv (.t 6))⟩,⟨(some 21),none,(.bit .and .u64 (.t 20) (.c (.int .u64 2305843009213693951)))⟩,⟨(some 22),none,(.ar .add .u64 (.t 19) (.t 21))⟩,⟨(some 23),none,(.call fn_modular_Reduce [(.t 22)])⟩,⟨(some 4),none,(.mv (.t 23))⟩])
 .ret)))
def ts_modular_Mul : List (Nat × Tr) := []
set_option maxRecDepth 100000 in
set_option maxHeartbeats 4000000 in
theorem ok_modular_Mul : irOf Tryz.prog fn_modular_Mul [] ts_modular_Mul = some (24,[(.t 4)],ir_modular_Mul) := by kernel_rfl
def ir_modular_Add : C :=
 (.seq
 (.reg
 [⟨(some 4),none,(.mv (.c (.int .u64 0)))⟩])
 (.seq
 (.reg
 [⟨(some 5),none,(.mv (.t 0))⟩,⟨(some 6),none,(.call fn_modular_Reduce [(.t 5)])⟩,⟨(some 7),none,(.mv (.t 1))⟩,⟨(some 8),none,(.call fn_modular_Reduce [(.t 7)])⟩,⟨(some 9),none,(.ar .add .u64 (.t 6) (.t 8))⟩,⟨(some 10),none,(.call fn_modular_Reduce [(.t 9)])⟩,⟨(some 4),none,(.mv (.t 10))⟩])
 .ret))
def ts_modular_Add : List (Nat × Tr) := []
set_option maxRecDepth 100000 in
set_option maxHeartbeats 4000000 in
theorem ok_modular_Add : irOf Tryz.prog fn_modular_Add [] ts_modular_Add = some (11,[(.t 4)],ir_modular_Add) := by kernel_rfl
def ir_modular_Pow : C :=
 (.seq
 (.reg
 [⟨(some 4),none,(.mv (.c (.int .u64 0)))⟩])
 (.seq
 (.reg
 [⟨(some 5),none,(.mv (.c (.int .u64 1)))⟩])
 (.seq
 (.seq
 (.reg
 [⟨(some 6),none,(.mv (.t 0))⟩,⟨(some 7),none,(.call fn_modular_Reduce [(.t 6)])⟩,⟨(some 0),none,(.mv (.t 7))⟩])
 (.blk
 0
 (.loop
 (.seq
 (.seq
 (.reg
 [⟨(some 8),none,(.mv (.t 1))⟩,⟨(some 9),none,(.cmp .gtr .u64 (.t 8) (.c (.int .u64 0)))⟩])
 (.cond
 (.t 9)
 .skip
 (.exit 0)))
 (.seq
 (.blk
 1
 (.seq
 (.seq
 (.reg
 [⟨(some 12),none,(.mv (.t 1))⟩,⟨(some 13),none,(.dv true .u64 (.t 12) (.c (.int .u64 2)))⟩,⟨(some 14),none,(.cmp .eql .u64 (.t 13) (.c (.int .u64 1)))⟩])
 (.cond
 (.t 14)
 (.reg
 [⟨(some 15),none,(.mv (.t 5))⟩,⟨(some 16),none,(.mv (.t 0))⟩,⟨(some 17),none,(.call fn_modular_Mul [(.t 15),(.t 16)])⟩,⟨(some 5),none,(.mv (.t 17))⟩])
 .skip))
 (.reg
 [⟨(some 18),none,(.mv (.t 0))⟩,⟨(some 19),none,(.mv (.t 0))⟩,⟨(some 20),none,(.call fn_modular_Mul [(.t 18),(.t 19)])⟩,⟨(some 0),none,(.mv (.t 20))⟩])))
 (.reg
 [⟨(some 10),none,(.mv (.t 1))⟩,⟨(some 11),none,(.dv false .u64 (.t 10) (.c (.int .u64 2)))⟩,⟨(some 1),none,(.mv (.t 11))⟩]))))))
 (.seq
 (.reg
 [⟨(some 21),none,(.mv (.t 5))⟩,⟨(some 4),none,(.mv (.t 21))⟩])
 .ret))))
def ts_modular_Pow : List (Nat × Tr) := []
set_option maxRecDepth 100000 in
set_option maxHeartbeats 4000000 in
theorem ok_modular_Pow : irOf Tryz.prog fn_modular_Pow [] ts_modular_Pow = some (22,[(.t 4)],ir_modular_Pow) := by kernel_rfl
def ir_modular_Mix : C :=
 (.seq
 (.reg
 [⟨(some 6),none,(.mv (.c (.int .u64 0)))⟩])
 (.seq
 (.reg
 [⟨(some 7),none,(.mv (.t 0))⟩,⟨(some 8),none,(.mv (.t 1))⟩,⟨(some 9),none,(.call fn_modular_Mul [(.c (.int .u64 1234567890123456789)),(.t 8)])⟩,⟨(some 10),none,(.mv (.t 2))⟩,⟨(some 11),none,(.call fn_modular_Mul [(.c (.int .u64 987654321987654321)),(.t 10)])⟩,⟨(some 12),none,(.call fn_modular_Add [(.t 9),(.t 11)])⟩,⟨(some 13),none,(.call fn_modular_Add [(.t 7),(.t 12)])⟩,⟨(some 14),none,(.call fn_modular_Pow [(.t 13),(.c (.int .u64 17))])⟩,⟨(some 6),none,(.mv (.t 14))⟩])
 .ret))
def ts_modular_Mix : List (Nat × Tr) := []
set_option maxRecDepth 100000 in
set_option maxHeartbeats 4000000 in
theorem ok_modular_Mix : irOf Tryz.prog fn_modular_Mix [] ts_modular_Mix = some (15,[(.t 6)],ir_modular_Mix) := by kernel_rfl
def ir_digest_Unit : C :=
 (.seq
 (.reg
 [⟨(some 0),none,(.alc 0 ty_api_Digest [(.int .u64 0),(.int .u64 0)])⟩])
 (.seq
 (.reg
 [⟨(some 1),none,(.bld [(.int .u64 0),(.int .u64 0)] [(0,(1,(.c (.int .u64 0)))),(1,(1,(.c (.int .u64 1))))])⟩,⟨none,none,(.st 2 (.t 0) (.t 1))⟩])
 .ret))
def ts_digest_Unit : List (Nat × Tr) := []
set_option maxRecDepth 100000 in
set_option maxHeartbeats 4000000 in
theorem ok_digest_Unit : irOf Tryz.prog fn_digest_Unit [] ts_digest_Unit = some (2,[(.c 0 2)],ir_digest_Unit) := by kernel_rfl
def ir_digest_Letter : C :=
 (.seq
 (.reg
 [⟨(some 2),none,(.alc 2 ty_api_Digest [(.int .u64 0),(.int .u64 0)])⟩])
 (.seq
 (.reg
 [⟨(some 3),none,(.mv (.t 0))⟩,⟨(some 4),none,(.cv .u64 (.t 3))⟩,⟨(some 5),none,(.ar .add .u64 (.t 4) (.c (.int .u64 1)))⟩,⟨(some 6),none,(.bld [(.int .u64 0),(.int .u64 0)] [(0,(1,(.t 5))),(1,(1,(.c (.int .u64 1103515245))))])⟩,⟨none,none,(.st 2 (.t 2) (.t 6))⟩])
 .ret))
def ts_digest_Letter : List (Nat × Tr) := []
set_option maxRecDepth 100000 in
set_option maxHeartbeats 4000000 in
theorem ok_digest_Letter : irOf Tryz.prog fn_digest_Letter [] ts_digest_Letter = some (7,[(.c 2 2)],ir_digest_Letter) := by kernel_rfl
def ir_digest_Join : C :=
 (.seq
 (.reg
 [⟨(some 2),none,(.box 2 ty_api_Digest (.t 0))⟩,⟨(some 3),none,(.box 3 ty_api_Digest (.t 1))⟩,⟨(some 4),none,(.alc 4 ty_api_Digest [(.int .u64 0),(.int .u64 0)])⟩])
 (.seq
 (.drw
 [⟨(some 5),none,(.fa 0 (.t 2))⟩,⟨(some 6),none,(.ld (.int .u64) (.t 5))⟩,⟨(some 7),none,(.fa 1 (.t 3))⟩,⟨(some 8),none,(.ld (.int .u64) (.t 7))⟩,⟨(some 9),none,(.call fn_modular_Mul [(.t 6),(.t 8)])⟩,⟨(some 10),none,(.fa 0 (.t 3))⟩,⟨(some 11),none,(.ld (.int .u64) (.t 10))⟩,⟨(some 12),none,(.call fn_modular_Add [(.t 9),(.t 11)])⟩,⟨(some 13),none,(.fa 1 (.t 2))⟩,⟨(some 14),none,(.ld (.int .u64) (.t 13))⟩,⟨(some 15),none,(.fa 1 (.t 3))⟩,⟨(some 16),none,(.ld (.int .u64) (.t 15))⟩,⟨(some 17),none,(.call fn_modular_Mul [(.t 14),(.t 16)])⟩,⟨(some 18),none,(.bld [(.int .u64 0),(.int .u64 0)] [(0,(1,(.t 12))),(1,(1,(.t 17)))])⟩,⟨none,none,(.st 2 (.t 4) (.t 18))⟩]
 (.take 0 (.take 1 (.take 2 (.take 3 (.take 4 (.take 5 (.take 6 (.take 7 (.take 8 (.take 9 (.take 10 (.take 11 (.take 12 (.take 13 (.bar 14 .done))))))))))))))))
 .ret))
def ts_digest_Join : List (Nat × Tr) := [(1,(.take 0 (.take 1 (.take 2 (.take 3 (.take 4 (.take 5 (.take 6 (.take 7 (.take 8 (.take 9 (.take 10 (.take 11 (.take 12 (.take 13 (.bar 14 .done))))))))))))))))]
set_option maxRecDepth 100000 in
set_option maxHeartbeats 4000000 in
theorem ok_digest_Join : irOf Tryz.prog fn_digest_Join [] ts_digest_Join = some (19,[(.c 4 2)],ir_digest_Join) := by kernel_rfl
def ir_digest_Repeat : C :=
 (.seq
 (.reg
 [⟨(some 2),none,(.box 2 ty_api_Digest (.t 0))⟩,⟨(some 4),none,(.alc 4 ty_api_Digest [(.int .u64 0),(.int .u64 0)])⟩])
 (.seq
 (.reg
 [⟨(some 6),none,(.call fn_digest_Unit [])⟩,⟨(some 5),none,(.alc 5 ty_api_Digest [(.int .u64 0),(.int .u64 0)])⟩,⟨none,none,(.st 2 (.t 5) (.t 6))⟩])
 (.seq
 (.blk
 0
 (.loop
 (.seq
 (.seq
 (.reg
 [⟨(some 7),none,(.mv (.t 1))⟩,⟨(some 8),none,(.cmp .gtr .i64 (.t 7) (.c (.int .i64 0)))⟩])
 (.cond
 (.t 8)
 .skip
 (.exit 0)))
 (.seq
 (.blk
 1
 (.seq
 (.seq
 (.reg
 [⟨(some 11),none,(.mv (.t 1))⟩,⟨(some 12),none,(.dv true .i64 (.t 11) (.c (.int .i64 2)))⟩,⟨(some 13),none,(.cmp .eql .i64 (.t 12) (.c (.int .i64 1)))⟩])
 (.cond
 (.t 13)
 (.reg
 [⟨(some 14),none,(.lda 2 [(.int .u64),(.int .u64)] (.t 5))⟩,⟨(some 15),none,(.lda 2 [(.int .u64),(.int .u64)] (.t 2))⟩,⟨(some 16),none,(.call fn_digest_Join [(.t 14),(.t 15)])⟩,⟨none,none,(.st 2 (.t 5) (.t 16))⟩])
 .skip))
 (.reg
 [⟨(some 17),none,(.lda 2 [(.int .u64),(.int .u64)] (.t 2))⟩,⟨(some 18),none,(.lda 2 [(.int .u64),(.int .u64)] (.t 2))⟩,⟨(some 19),none,(.call fn_digest_Join [(.t 17),(.t 18)])⟩,⟨none,none,(.st 2 (.t 2) (.t 19))⟩])))
 (.reg
 [⟨(some 9),none,(.mv (.t 1))⟩,⟨(some 10),none,(.dv false .i64 (.t 9) (.c (.int .i64 2)))⟩,⟨(some 1),none,(.mv (.t 10))⟩])))))
 (.seq
 (.reg
 [⟨(some 20),none,(.lda 2 [(.int .u64),(.int .u64)] (.t 5))⟩,⟨none,none,(.st 2 (.t 4) (.t 20))⟩])
 .ret))))
def ts_digest_Repeat : List (Nat × Tr) := []
set_option maxRecDepth 100000 in
set_option maxHeartbeats 4000000 in
theorem ok_digest_Repeat : irOf Tryz.prog fn_digest_Repeat [] ts_digest_Repeat = some (21,[(.c 4 2)],ir_digest_Repeat) := by kernel_rfl
def ir_length_Valid : C :=
 (.seq
 (.reg
 [⟨(some 2),none,(.mv (.c (.bool false)))⟩])
 (.seq
 (.reg
 [⟨(some 3),none,(.mv (.t 0))⟩,⟨(some 4),none,(.cmp .geq .i64 (.t 3) (.c (.int .i64 0)))⟩,⟨(some 5),none,(.mv (.t 4))⟩,⟨(some 6),(some (5,true)),(.mv (.t 0))⟩,⟨(some 7),(some (5,true)),(.cmp .leq .i64 (.t 6) (.c (.int .i64 1152921504606846976)))⟩,⟨(some 8),none,(.pick (.t 5) (.t 7) (.c (.bool false)))⟩,⟨(some 2),none,(.mv (.t 8))⟩])
 .ret))
def ts_length_Valid : List (Nat × Tr) := []
set_option maxRecDepth 100000 in
set_option maxHeartbeats 4000000 in
theorem ok_length_Valid : irOf Tryz.prog fn_length_Valid [] ts_length_Valid = some (9,[(.t 2)],ir_length_Valid) := by kernel_rfl
def ir_length_Add : C :=
 (.seq
 (.reg
 [⟨(some 4),none,(.mv (.c (.int .i64 0)))⟩,⟨(some 5),none,(.mv (.c .nilIface))⟩])
 (.seq
 (.seq
 (.reg
 [⟨(some 6),none,(.mv (.t 0))⟩,⟨(some 7),none,(.call fn_length_Valid [(.t 6)])⟩,⟨(some 8),none,(.not (.t 7))⟩,⟨(some 9),none,(.mv (.t 8))⟩,⟨(some 10),(some (9,false)),(.mv (.t 1))⟩,⟨(some 11),(some (9,false)),(.call fn_length_Valid [(.t 10)])⟩,⟨(some 12),(some (9,false)),(.not (.t 11))⟩,⟨(some 13),none,(.pick (.t 9) (.c (.bool true)) (.t 12))⟩])
 (.cond
 (.t 13)
 (.seq
 (.reg
 [⟨(some 14),none,(.mki ty_api_Errno (.c (.int .i64 1)))⟩,⟨(some 4),none,(.mv (.c (.int .i64 0)))⟩,⟨(some 5),none,(.mv (.t 14))⟩])
 .ret)
 .skip))
 (.seq
 (.seq
 (.reg
 [⟨(some 15),none,(.mv (.t 0))⟩,⟨(some 16),none,(.mv (.t 1))⟩,⟨(some 17),none,(.ar .sub .i64 (.c (.int .i64 1152921504606846976)) (.t 16))⟩,⟨(some 18),none,(.cmp .gtr .i64 (.t 15) (.t 17))⟩])
 (.cond
 (.t 18)
 (.seq
 (.reg
 [⟨(some 19),none,(.mki ty_api_Errno (.c (.int .i64 2)))⟩,⟨(some 4),none,(.mv (.c (.int .i64 0)))⟩,⟨(some 5),none,(.mv (.t 19))⟩])
 .ret)
 .skip))
 (.seq
 (.reg
 [⟨(some 20),none,(.mv (.t 0))⟩,⟨(some 21),none,(.mv (.t 1))⟩,⟨(some 22),none,(.ar .add .i64 (.t 20) (.t 21))⟩,⟨(some 4),none,(.mv (.t 22))⟩,⟨(some 5),none,(.mv (.c .nilIface))⟩])
 .ret))))
def ts_length_Add : List (Nat × Tr) := []
set_option maxRecDepth 100000 in
set_option maxHeartbeats 4000000 in
theorem ok_length_Add : irOf Tryz.prog fn_length_Add [] ts_length_Add = some (23,[(.t 4),(.t 5)],ir_length_Add) := by kernel_rfl
def ir_length_Mul : C :=
 (.seq
 (.reg
 [⟨(some 4),none,(.mv (.c (.int .i64 0)))⟩,⟨(some 5),none,(.mv (.c .nilIface))⟩])
 (.seq
 (.seq
 (.reg
 [⟨(some 6),none,(.mv (.t 0))⟩,⟨(some 7),none,(.call fn_length_Valid [(.t 6)])⟩,⟨(some 8),none,(.not (.t 7))⟩,⟨(some 9),none,(.mv (.t 8))⟩,⟨(some 10),(some (9,false)),(.mv (.t 1))⟩,⟨(some 11),(some (9,false)),(.cmp .lss .i64 (.t 10) (.c (.int .i64 0)))⟩,⟨(some 12),none,(.pick (.t 9) (.c (.bool true)) (.t 11))⟩])
 (.cond
 (.t 12)
 (.seq
 (.reg
 [⟨(some 13),none,(.mki ty_api_Errno (.c (.int .i64 1)))⟩,⟨(some 4),none,(.mv (.c (.int .i64 0)))⟩,⟨(some 5),none,(.mv (.t 13))⟩])
 .ret)
 .skip))
 (.seq
 (.seq
 (.reg
 [⟨(some 14),none,(.mv (.t 0))⟩,⟨(some 15),none,(.cmp .eql .i64 (.t 14) (.c (.int .i64 0)))⟩])
 (.cond
 (.t 15)
 (.seq
 (.reg
 [⟨(some 4),none,(.mv (.c (.int .i64 0)))⟩,⟨(some 5),none,(.mv (.c .nilIface))⟩])
 .ret)
 .skip))
 (.seq
 (.seq
 (.reg
 [⟨(some 16),none,(.mv (.t 1))⟩,⟨(some 17),none,(.mv (.t 0))⟩,⟨(some 18),none,(.dv false .i64 (.c (.int .i64 1152921504606846976)) (.t 17))⟩,⟨(some 19),none,(.cmp .gtr .i64 (.t 16) (.t 18))⟩])
 (.cond
 (.t 19)
 (.seq
 (.reg
 [⟨(some 20),none,(.mki ty_api_Errno (.c (.int .i64 2)))⟩,⟨(some 4),none,(.mv (.c (.int .i64 0)))⟩,⟨(some 5),none,(.mv (.t 20))⟩])
 .ret)
 .skip))
 (.seq
 (.reg
 [⟨(some 21),none,(.mv (.t 0))⟩,⟨(some 22),none,(.mv (.t 1))⟩,⟨(some 23),none,(.ar .mul .i64 (.t 21) (.t 22))⟩,⟨(some 4),none,(.mv (.t 23))⟩,⟨(some 5),none,(.mv (.c .nilIface))⟩])
 .ret)))))
def ts_length_Mul : List (Nat × Tr) := []
set_option maxRecDepth 100000 in
set_option maxHeartbeats 4000000 in
theorem ok_length_Mul : irOf Tryz.prog fn_length_Mul [] ts_length_Mul = some (24,[(.t 4),(.t 5)],ir_length_Mul) := by kernel_rfl
def ir_length_Clip : C :=
 (.seq
 (.reg
 [⟨(some 6),none,(.mv (.c (.int .i64 0)))⟩])
 (.seq
 (.seq
 (.reg
 [⟨(some 7),none,(.mv (.t 0))⟩,⟨(some 8),none,(.mv (.t 1))⟩,⟨(some 9),none,(.cmp .lss .i64 (.t 7) (.t 8))⟩])
 (.cond
 (.t 9)
 (.seq
 (.reg
 [⟨(some 10),none,(.mv (.t 1))⟩,⟨(some 6),none,(.mv (.t 10))⟩])
 .ret)
 .skip))
 (.seq
 (.seq
 (.reg
 [⟨(some 11),none,(.mv (.t 0))⟩,⟨(some 12),none,(.mv (.t 2))⟩,⟨(some 13),none,(.cmp .gtr .i64 (.t 11) (.t 12))⟩])
 (.cond
 (.t 13)
 (.seq
 (.reg
 [⟨(some 14),none,(.mv (.t 2))⟩,⟨(some 6),none,(.mv (.t 14))⟩])
 .ret)
 .skip))
 (.seq
 (.reg
 [⟨(some 15),none,(.mv (.t 0))⟩,⟨(some 6),none,(.mv (.t 15))⟩])
 .ret))))
def ts_length_Clip : List (Nat × Tr) := []
set_option maxRecDepth 100000 in
set_option maxHeartbeats 4000000 in
theorem ok_length_Clip : irOf Tryz.prog fn_length_Clip [] ts_length_Clip = some (16,[(.t 6)],ir_length_Clip) := by kernel_rfl
def ir_weight_Unit : C :=
 (.seq
 (.reg
 [⟨(some 0),none,(.alc 0 ty_api_Weight [(.int .i64 0),(.int .i64 0),(.int .i64 0),(.int .i64 0),(.int .u64 0),(.int .u64 0)])⟩])
 (.seq
 (.reg
 [⟨(some 1),none,(.call fn_digest_Unit [])⟩,⟨(some 2),none,(.bld [(.int .i64 0),(.int .i64 0),(.int .i64 0),(.int .i64 0),(.int .u64 0),(.int .u64 0)] [(4,(2,(.t 1)))])⟩,⟨none,none,(.st 6 (.t 0) (.t 2))⟩])
 .ret))
def ts_weight_Unit : List (Nat × Tr) := []
set_option maxRecDepth 100000 in
set_option maxHeartbeats 4000000 in
theorem ok_weight_Unit : irOf Tryz.prog fn_weight_Unit [] ts_weight_Unit = some (3,[(.c 0 6)],ir_weight_Unit) := by kernel_rfl
def ir_weight_Letter : C :=
 (.seq
 (.reg
 [⟨(some 2),none,(.alc 2 ty_api_Weight [(.int .i64 0),(.int .i64 0),(.int .i64 0),(.int .i64 0),(.int .u64 0),(.int .u64 0)])⟩])
 (.seq
 (.seq
 (.reg
 [⟨(some 3),none,(.mv (.t 0))⟩,⟨(some 4),none,(.cmp .eql .u8 (.t 3) (.c (.int .u8 10)))⟩])
 (.cond
 (.t 4)
 (.seq
 (.reg
 [⟨(some 5),none,(.mv (.t 0))⟩,⟨(some 6),none,(.call fn_digest_Letter [(.t 5)])⟩,⟨(some 7),none,(.bld [(.int .i64 0),(.int .i64 0),(.int .i64 0),(.int .i64 0),(.int .u64 0),(.int .u64 0)] [(0,(1,(.c (.int .i64 1)))),(1,(1,(.c (.int .i64 1)))),(4,(2,(.t 6)))])⟩,⟨none,none,(.st 6 (.t 2) (.t 7))⟩])
 .ret)
 .skip))
 (.seq
 (.reg
 [⟨(some 8),none,(.mv (.t 0))⟩,⟨(some 9),none,(.call fn_digest_Letter [(.t 8)])⟩,⟨(some 10),none,(.bld [(.int .i64 0),(.int .i64 0),(.int .i64 0),(.int .i64 0),(.int .u64 0),(.int .u64 0)] [(0,(1,(.c (.int .i64 1)))),(2,(1,(.c (.int .i64 1)))),(3,(1,(.c (.int .i64 1)))),(4,(2,(.t 9)))])⟩,⟨none,none,(.st 6 (.t 2) (.t 10))⟩])
 .ret)))
def ts_weight_Letter : List (Nat × Tr) := []
set_option maxRecDepth 100000 in
set_option maxHeartbeats 4000000 in
theorem ok_weight_Letter : irOf Tryz.prog fn_weight_Letter [] ts_weight_Letter = some (11,[(.c 2 6)],ir_weight_Letter) := by kernel_rfl
def ir_weight_Valid : C :=
 (.seq
 (.reg
 [⟨(some 1),none,(.box 1 ty_api_Weight (.t 0))⟩,⟨(some 2),none,(.mv (.c (.bool false)))⟩])
 (.seq
 (.seq
 (.reg
 [⟨(some 4),none,(.fa 0 (.t 1))⟩,⟨(some 5),none,(.ld (.int .i64) (.t 4))⟩,⟨(some 6),none,(.call fn_length_Valid [(.t 5)])⟩,⟨(some 7),none,(.not (.t 6))⟩,⟨(some 8),none,(.mv (.t 7))⟩,⟨(some 9),(some (8,false)),(.fa 1 (.t 1))⟩,⟨(some 10),(some (8,false)),(.ld (.int .i64) (.t 9))⟩,⟨(some 11),(some (8,false)),(.cmp .lss .i64 (.t 10) (.c (.int .i64 0)))⟩,⟨(some 12),none,(.pick (.t 8) (.c (.bool true)) (.t 11))⟩])
 (.cond
 (.t 12)
 (.seq
 (.reg
 [⟨(some 2),none,(.mv (.c (.bool false)))⟩])
 .ret)
 .skip))
 (.seq
 (.seq
 (.reg
 [⟨(some 13),none,(.fa 1 (.t 1))⟩,⟨(some 14),none,(.ld (.int .i64) (.t 13))⟩,⟨(some 15),none,(.cmp .eql .i64 (.t 14) (.c (.int .i64 0)))⟩])
 (.cond
 (.t 15)
 (.seq
 (.reg
 [⟨(some 16),none,(.fa 2 (.t 1))⟩,⟨(some 17),none,(.ld (.int .i64) (.t 16))⟩,⟨(some 18),none,(.fa 0 (.t 1))⟩,⟨(some 19),none,(.ld (.int .i64) (.t 18))⟩,⟨(some 20),none,(.cmp .neq .i64 (.t 17) (.t 19))⟩,⟨(some 21),none,(.mv (.t 20))⟩,⟨(some 22),(some (21,false)),(.fa 3 (.t 1))⟩,⟨(some 23),(some (21,false)),(.ld (.int .i64) (.t 22))⟩,⟨(some 24),(some (21,false)),(.fa 0 (.t 1))⟩,⟨(some 25),(some (21,false)),(.ld (.int .i64) (.t 24))⟩,⟨(some 26),(some (21,false)),(.cmp .neq .i64 (.t 23) (.t 25))⟩,⟨(some 27),none,(.pick (.t 21) (.c (.bool true)) (.t 26))⟩])
 (.cond
 (.t 27)
 (.seq
 (.reg
 [⟨(some 2),none,(.mv (.c (.bool false)))⟩])
 .ret)
 .skip))
 (.seq
 (.seq
 (.reg
 [⟨(some 28),none,(.fa 2 (.t 1))⟩,⟨(some 29),none,(.ld (.int .i64) (.t 28))⟩,⟨(some 30),none,(.cmp .lss .i64 (.t 29) (.c (.int .i64 0)))⟩,⟨(some 31),none,(.mv (.t 30))⟩,⟨(some 32),(some (31,false)),(.fa 2 (.t 1))⟩,⟨(some 33),(some (31,false)),(.ld (.int .i64) (.t 32))⟩,⟨(some 34),(some (31,false)),(.fa 0 (.t 1))⟩,⟨(some 35),(some (31,false)),(.ld (.int .i64) (.t 34))⟩,⟨(some 36),(some (31,false)),(.cmp .gtr .i64 (.t 33) (.t 35))⟩,⟨(some 37),none,(.pick (.t 31) (.c (.bool true)) (.t 36))⟩,⟨(some 38),none,(.mv (.t 37))⟩,⟨(some 39),(some (38,false)),(.fa 3 (.t 1))⟩,⟨(some 40),(some (38,false)),(.ld (.int .i64) (.t 39))⟩,⟨(some 41),(some (38,false)),(.cmp .lss .i64 (.t 40) (.c (.int .i64 0)))⟩,⟨(some 42),none,(.pick (.t 38) (.c (.bool true)) (.t 41))⟩,⟨(some 43),none,(.mv (.t 42))⟩,⟨(some 44),(some (43,false)),(.fa 3 (.t 1))⟩,⟨(some 45),(some (43,false)),(.ld (.int .i64) (.t 44))⟩,⟨(some 46),(some (43,false)),(.fa 0 (.t 1))⟩,⟨(some 47),(some (43,false)),(.ld (.int .i64) (.t 46))⟩,⟨(some 48),(some (43,false)),(.fa 2 (.t 1))⟩,⟨(some 49),(some (43,false)),(.ld (.int .i64) (.t 48))⟩,⟨(some 50),(some (43,false)),(.ar .sub .i64 (.t 47) (.t 49))⟩,⟨(some 51),(some (43,false)),(.cmp .gtr .i64 (.t 45) (.t 50))⟩,⟨(some 52),none,(.pick (.t 43) (.c (.bool true)) (.t 51))⟩])
 (.cond
 (.t 52)
 (.seq
 (.reg
 [⟨(some 2),none,(.mv (.c (.bool false)))⟩])
 .ret)
 .skip))
 (.seq
 (.reg
 [⟨(some 53),none,(.fa 0 (.t 1))⟩,⟨(some 54),none,(.ld (.int .i64) (.t 53))⟩,⟨(some 55),none,(.fa 2 (.t 1))⟩,⟨(some 56),none,(.ld (.int .i64) (.t 55))⟩,⟨(some 57),none,(.ar .sub .i64 (.t 54) (.t 56))⟩,⟨(some 58),none,(.fa 3 (.t 1))⟩,⟨(some 59),none,(.ld (.int .i64) (.t 58))⟩,⟨(some 60),none,(.ar .sub .i64 (.t 57) (.t 59))⟩,⟨(some 3),none,(.mv (.t 60))⟩])
 (.seq
 (.reg
 [⟨(some 61),none,(.fa 1 (.t 1))⟩,⟨(some 62),none,(.ld (.int .i64) (.t 61))⟩,⟨(some 63),none,(.mv (.t 3))⟩,⟨(some 64),none,(.cmp .gtr .i64 (.t 62) (.t 63))⟩,⟨(some 65),none,(.mv (.t 64))⟩,⟨(some 66),(some (65,false)),(.fa 1 (.t 1))⟩,⟨(some 67),(some (65,false)),(.ld (.int .i64) (.t 66))⟩,⟨(some 68),(some (65,false)),(.cmp .eql .i64 (.t 67) (.c (.int .i64 1)))⟩,⟨(some 69),(some (65,false)),(.mv (.t 68))⟩,⟨(some 70),(some (69,true)),(.mv (.t 3))⟩,⟨(some 71),(some (69,true)),(.cmp .neq .i64 (.t 70) (.c (.int .i64 1)))⟩,⟨(some 72),(some (65,false)),(.pick (.t 69) (.t 71) (.c (.bool false)))⟩,⟨(some 73),none,(.pick (.t 65) (.c (.bool true)) (.t 72))⟩])
 (.cond
 (.t 73)
 (.seq
 (.reg
 [⟨(some 2),none,(.mv (.c (.bool false)))⟩])
 .ret)
 .skip))))))
 (.seq
 (.seq
 (.reg
 [⟨(some 74),none,(.fa 4 (.t 1))⟩,⟨(some 75),none,(.fa 0 (.t 74))⟩,⟨(some 76),none,(.ld (.int .u64) (.t 75))⟩,⟨(some 77),none,(.cmp .geq .u64 (.t 76) (.c (.int .u64 2305843009213693951)))⟩,⟨(some 78),none,(.mv (.t 77))⟩,⟨(some 79),(some (78,false)),(.fa 0 (.t 1))⟩,⟨(some 80),(some (78,false)),(.ld (.int .i64) (.t 79))⟩,⟨(some 81),(some (78,false)),(.cmp .eql .i64 (.t 80) (.c (.int .i64 0)))⟩,⟨(some 82),(some (78,false)),(.mv (.t 81))⟩,⟨(some 83),(some (82,true)),(.fa 4 (.t 1))⟩,⟨(some 84),(some (82,true)),(.fa 0 (.t 83))⟩,⟨(some 85),(some (82,true)),(.ld (.int .u64) (.t 84))⟩,⟨(some 86),(some (82,true)),(.cmp .neq .u64 (.t 85) (.c (.int .u64 0)))⟩,⟨(some 87),(some (78,false)),(.pick (.t 82) (.t 86) (.c (.bool false)))⟩,⟨(some 88),none,(.pick (.t 78) (.c (.bool true)) (.t 87))⟩])
 (.cond
 (.t 88)
 (.seq
 (.reg
 [⟨(some 2),none,(.mv (.c (.bool false)))⟩])
 .ret)
 .skip))
 (.seq
 (.drw
 [⟨(some 89),none,(.fa 4 (.t 1))⟩,⟨(some 90),none,(.fa 1 (.t 89))⟩,⟨(some 91),none,(.ld (.int .u64) (.t 90))⟩,⟨(some 92),none,(.fa 0 (.t 1))⟩,⟨(some 93),none,(.ld (.int .i64) (.t 92))⟩,⟨(some 94),none,(.cv .u64 (.t 93))⟩,⟨(some 95),none,(.call fn_modular_Pow [(.c (.int .u64 1103515245)),(.t 94)])⟩,⟨(some 96),none,(.cmp .eql .u64 (.t 91) (.t 95))⟩,⟨(some 2),none,(.mv (.t 96))⟩]
 (.take 0 (.take 1 (.take 2 (.take 3 (.take 4 (.take 5 (.take 6 (.take 7 (.mov 8 .done))))))))))
 .ret)))))
def ts_weight_Valid : List (Nat × Tr) := [(13,(.take 0 (.take 1 (.take 2 (.take 3 (.take 4 (.take 5 (.take 6 (.take 7 (.mov 8 .done))))))))))]
set_option maxRecDepth 100000 in
set_option maxHeartbeats 4000000 in
theorem ok_weight_Valid : irOf Tryz.prog fn_weight_Valid [] ts_weight_Valid = some (97,[(.t 2)],ir_weight_Valid) := by kernel_rfl
def ir_weight_Join : C :=
 (.seq
 (.reg
 [⟨(some 2),none,(.box 2 ty_api_Weight (.t 0))⟩,⟨(some 3),none,(.box 3 ty_api_Weight (.t 1))⟩,⟨(some 4),none,(.alc 4 ty_api_Weight [(.int .i64 0),(.int .i64 0),(.int .i64 0),(.int .i64 0),(.int .u64 0),(.int .u64 0)])⟩,⟨(some 5),none,(.mv (.c .nilIface))⟩])
 (.seq
 (.seq
 (.reg
 [⟨(some 9),none,(.lda 6 [(.int .i64),(.int .i64),(.int .i64),(.int .i64),(.int .u64),(.int .u64)] (.t 2))⟩,⟨(some 10),none,(.call fn_weight_Valid [(.t 9)])⟩,⟨(some 11),none,(.not (.t 10))⟩,⟨(some 12),none,(.mv (.t 11))⟩,⟨(some 13),(some (12,false)),(.lda 6 [(.int .i64),(.int .i64),(.int .i64),(.int .i64),(.int .u64),(.int .u64)] (.t 3))⟩,⟨(some 14),(some (12,false)),(.call fn_weight_Valid [(.t 13)])⟩,⟨(some 15),(some (12,false)),(.not (.t 14))⟩,⟨(some 16),none,(.pick (.t 12) (.c (.bool true)) (.t 15))⟩])
 (.cond
 (.t 16)
 (.seq
 (.reg
 [⟨(some 17),none,(.bld [(.int .i64 0),(.int .i64 0),(.int .i64 0),(.int .i64 0),(.int .u64 0),(.int .u64 0)] [])⟩,⟨(some 18),none,(.mki ty_api_Errno (.c (.int .i64 4)))⟩,⟨none,none,(.st 6 (.t 4) (.t 17))⟩,⟨(some 5),none,(.mv (.t 18))⟩])
 .ret)
 .skip))
 (.seq
 (.reg
 [⟨(some 20),none,(.fa 0 (.t 2))⟩,⟨(some 21),none,(.ld (.int .i64) (.t 20))⟩,⟨(some 22),none,(.fa 0 (.t 3))⟩,⟨(some 23),none,(.ld (.int .i64) (.t 22))⟩,⟨(some 24),none,(.call fn_length_Add [(.t 21),(.t 23)])⟩,⟨(some 19),none,(.mv (.t 24))⟩,⟨(some 25),none,(.ext (.t 19) 0)⟩,⟨(some 26),none,(.ext (.t 19) 1)⟩,⟨(some 6),none,(.mv (.t 25))⟩,⟨(some 7),none,(.mv (.t 26))⟩])
 (.seq
 (.seq
 (.reg
 [⟨(some 27),none,(.mv (.t 7))⟩,⟨(some 28),none,(.eqn .ifc true (.t 27))⟩])
 (.cond
 (.t 28)
 (.seq
 (.reg
 [⟨(some 29),none,(.bld [(.int .i64 0),(.int .i64 0),(.int .i64 0),(.int .i64 0),(.int .u64 0),(.int .u64 0)] [])⟩,⟨(some 30),none,(.mki ty_api_Errno (.c (.int .i64 2)))⟩,⟨none,none,(.st 6 (.t 4) (.t 29))⟩,⟨(some 5),none,(.mv (.t 30))⟩])
 .ret)
 .skip))
 (.seq
 (.drw
 [⟨(some 31),none,(.mv (.t 6))⟩,⟨(some 32),none,(.fa 1 (.t 2))⟩,⟨(some 33),none,(.ld (.int .i64) (.t 32))⟩,⟨(some 34),none,(.fa 1 (.t 3))⟩,⟨(some 35),none,(.ld (.int .i64) (.t 34))⟩,⟨(some 36),none,(.ar .add .i64 (.t 33) (.t 35))⟩,⟨(some 37),none,(.fa 2 (.t 2))⟩,⟨(some 38),none,(.ld (.int .i64) (.t 37))⟩,⟨(some 39),none,(.fa 3 (.t 3))⟩,⟨(some 40),none,(.ld (.int .i64) (.t 39))⟩,⟨(some 41),none,(.fa 4 (.t 2))⟩,⟨(some 42),none,(.lda 2 [(.int .u64),(.int .u64)] (.t 41))⟩,⟨(some 43),none,(.fa 4 (.t 3))⟩,⟨(some 44),none,(.lda 2 [(.int .u64),(.int .u64)] (.t 43))⟩,⟨(some 45),none,(.call fn_digest_Join [(.t 42),(.t 44)])⟩,⟨(some 46),none,(.bld [(.int .i64 0),(.int .i64 0),(.int .i64 0),(.int .i64 0),(.int .u64 0),(.int .u64 0)] [(0,(1,(.t 31))),(1,(1,(.t 36))),(2,(1,(.t 38))),(3,(1,(.t 40))),(4,(2,(.t 45)))])⟩,⟨(some 8),none,(.alc 8 ty_api_Weight [(.int .i64 0),(.int .i64 0),(.int .i64 0),(.int .i64 0),(.int .u64 0),(.int .u64 0)])⟩,⟨none,none,(.st 6 (.t 8) (.t 46))⟩]
 (.mov 0 (.take 1 (.take 2 (.take 3 (.take 4 (.take 5 (.take 6 (.take 7 (.take 8 (.take 9 (.take 10 (.take 11 (.take 12 (.take 13 (.take 14 (.take 15 (.alt 16 true (.bar 17 .done) .nil))))))))))))))))))
 (.seq
 (.seq
 (.reg
 [⟨(some 47),none,(.fa 1 (.t 2))⟩,⟨(some 48),none,(.ld (.int .i64) (.t 47))⟩,⟨(some 49),none,(.cmp .eql .i64 (.t 48) (.c (.int .i64 0)))⟩])
 (.cond
 (.t 49)
 (.reg
 [⟨(some 50),none,(.fa 0 (.t 2))⟩,⟨(some 51),none,(.ld (.int .i64) (.t 50))⟩,⟨(some 52),none,(.fa 2 (.t 3))⟩,⟨(some 53),none,(.ld (.int .i64) (.t 52))⟩,⟨(some 54),none,(.ar .add .i64 (.t 51) (.t 53))⟩,⟨(some 55),none,(.fa 2 (.t 8))⟩,⟨none,none,(.st 1 (.t 55) (.t 54))⟩])
 .skip))
 (.seq
 (.seq
 (.reg
 [⟨(some 56),none,(.fa 1 (.t 3))⟩,⟨(some 57),none,(.ld (.int .i64) (.t 56))⟩,⟨(some 58),none,(.cmp .eql .i64 (.t 57) (.c (.int .i64 0)))⟩])
 (.cond
 (.t 58)
 (.reg
 [⟨(some 59),none,(.fa 0 (.t 3))⟩,⟨(some 60),none,(.ld (.int .i64) (.t 59))⟩,⟨(some 61),none,(.fa 3 (.t 2))⟩,⟨(some 62),none,(.ld (.int .i64) (.t 61))⟩,⟨(some 63),none,(.ar .add .i64 (.t 60) (.t 62))⟩,⟨(some 64),none,(.fa 3 (.t 8))⟩,⟨none,none,(.st 1 (.t 64) (.t 63))⟩])
 .skip))
 (.seq
 (.reg
 [⟨(some 65),none,(.lda 6 [(.int .i64),(.int .i64),(.int .i64),(.int .i64),(.int .u64),(.int .u64)] (.t 8))⟩,⟨none,none,(.st 6 (.t 4) (.t 65))⟩,⟨(some 5),none,(.mv (.c .nilIface))⟩])
 .ret))))))))
def ts_weight_Join : List (Nat × Tr) := [(6,(.mov 0 (.take 1 (.take 2 (.take 3 (.take 4 (.take 5 (.take 6 (.take 7 (.take 8 (.take 9 (.take 10 (.take 11 (.take 12 (.take 13 (.take 14 (.take 15 (.alt 16 true (.bar 17 .done) .nil))))))))))))))))))]
set_option maxRecDepth 100000 in
set_option maxHeartbeats 4000000 in
theorem ok_weight_Join : irOf Tryz.prog fn_weight_Join [] ts_weight_Join = some (66,[(.c 4 6),(.t 5)],ir_weight_Join) := by kernel_rfl
def ir_weight_Repeat : C :=
 (.seq
 (.reg
 [⟨(some 2),none,(.box 2 ty_api_Weight (.t 0))⟩,⟨(some 4),none,(.alc 4 ty_api_Weight [(.int .i64 0),(.int .i64 0),(.int .i64 0),(.int .i64 0),(.int .u64 0),(.int .u64 0)])⟩,⟨(some 5),none,(.mv (.c .nilIface))⟩])
 (.seq
 (.seq
 (.reg
 [⟨(some 9),none,(.lda 6 [(.int .i64),(.int .i64),(.int .i64),(.int .i64),(.int .u64),(.int .u64)] (.t 2))⟩,⟨(some 10),none,(.call fn_weight_Valid [(.t 9)])⟩,⟨(some 11),none,(.not (.t 10))⟩])
 (.cond
 (.t 11)
 (.seq
 (.reg
 [⟨(some 12),none,(.bld [(.int .i64 0),(.int .i64 0),(.int .i64 0),(.int .i64 0),(.int .u64 0),(.int .u64 0)] [])⟩,⟨(some 13),none,(.mki ty_api_Errno (.c (.int .i64 4)))⟩,⟨none,none,(.st 6 (.t 4) (.t 12))⟩,⟨(some 5),none,(.mv (.t 13))⟩])
 .ret)
 .skip))
 (.seq
 (.seq
 (.reg
 [⟨(some 14),none,(.mv (.t 1))⟩,⟨(some 15),none,(.cmp .lss .i64 (.t 14) (.c (.int .i64 0)))⟩])
 (.cond
 (.t 15)
 (.seq
 (.reg
 [⟨(some 16),none,(.bld [(.int .i64 0),(.int .i64 0),(.int .i64 0),(.int .i64 0),(.int .u64 0),(.int .u64 0)] [])⟩,⟨(some 17),none,(.mki ty_api_Errno (.c (.int .i64 1)))⟩,⟨none,none,(.st 6 (.t 4) (.t 16))⟩,⟨(some 5),none,(.mv (.t 17))⟩])
 .ret)
 .skip))
 (.seq
 (.reg
 [⟨(some 19),none,(.fa 0 (.t 2))⟩,⟨(some 20),none,(.ld (.int .i64) (.t 19))⟩,⟨(some 21),none,(.mv (.t 1))⟩,⟨(some 22),none,(.call fn_length_Mul [(.t 20),(.t 21)])⟩,⟨(some 18),none,(.mv (.t 22))⟩,⟨(some 23),none,(.ext (.t 18) 0)⟩,⟨(some 24),none,(.ext (.t 18) 1)⟩,⟨(some 6),none,(.mv (.t 23))⟩,⟨(some 7),none,(.mv (.t 24))⟩])
 (.seq
 (.seq
 (.reg
 [⟨(some 25),none,(.mv (.t 7))⟩,⟨(some 26),none,(.eqn .ifc true (.t 25))⟩])
 (.cond
 (.t 26)
 (.seq
 (.reg
 [⟨(some 27),none,(.bld [(.int .i64 0),(.int .i64 0),(.int .i64 0),(.int .i64 0),(.int .u64 0),(.int .u64 0)] [])⟩,⟨(some 28),none,(.mki ty_api_Errno (.c (.int .i64 2)))⟩,⟨none,none,(.st 6 (.t 4) (.t 27))⟩,⟨(some 5),none,(.mv (.t 28))⟩])
 .ret)
 .skip))
 (.seq
 (.seq
 (.reg
 [⟨(some 29),none,(.mv (.t 6))⟩,⟨(some 30),none,(.cmp .eql .i64 (.t 29) (.c (.int .i64 0)))⟩])
 (.cond
 (.t 30)
 (.seq
 (.reg
 [⟨(some 31),none,(.call fn_weight_Unit [])⟩,⟨none,none,(.st 6 (.t 4) (.t 31))⟩,⟨(some 5),none,(.mv (.c .nilIface))⟩])
 .ret)
 .skip))
 (.seq
 (.drw
 [⟨(some 32),none,(.mv (.t 6))⟩,⟨(some 33),none,(.fa 1 (.t 2))⟩,⟨(some 34),none,(.ld (.int .i64) (.t 33))⟩,⟨(some 35),none,(.mv (.t 1))⟩,⟨(some 36),none,(.ar .mul .i64 (.t 34) (.t 35))⟩,⟨(some 37),none,(.fa 2 (.t 2))⟩,⟨(some 38),none,(.ld (.int .i64) (.t 37))⟩,⟨(some 39),none,(.fa 3 (.t 2))⟩,⟨(some 40),none,(.ld (.int .i64) (.t 39))⟩,⟨(some 41),none,(.fa 4 (.t 2))⟩,⟨(some 42),none,(.lda 2 [(.int .u64),(.int .u64)] (.t 41))⟩,⟨(some 43),none,(.mv (.t 1))⟩,⟨(some 44),none,(.call fn_digest_Repeat [(.t 42),(.t 43)])⟩,⟨(some 45),none,(.bld [(.int .i64 0),(.int .i64 0),(.int .i64 0),(.int .i64 0),(.int .u64 0),(.int .u64 0)] [(0,(1,(.t 32))),(1,(1,(.t 36))),(2,(1,(.t 38))),(3,(1,(.t 40))),(4,(2,(.t 44)))])⟩,⟨(some 8),none,(.alc 8 ty_api_Weight [(.int .i64 0),(.int .i64 0),(.int .i64 0),(.int .i64 0),(.int .u64 0),(.int .u64 0)])⟩,⟨none,none,(.st 6 (.t 8) (.t 45))⟩]
 (.mov 0 (.take 1 (.take 2 (.mov 3 (.take 4 (.take 5 (.take 6 (.take 7 (.take 8 (.take 9 (.take 10 (.mov 11 (.take 12 (.take 13 (.alt 14 true (.bar 15 .done) .nil))))))))))))))))
 (.seq
 (.seq
 (.reg
 [⟨(some 46),none,(.fa 1 (.t 2))⟩,⟨(some 47),none,(.ld (.int .i64) (.t 46))⟩,⟨(some 48),none,(.cmp .eql .i64 (.t 47) (.c (.int .i64 0)))⟩])
 (.cond
 (.t 48)
 (.reg
 [⟨(some 49),none,(.mv (.t 6))⟩,⟨(some 50),none,(.mv (.t 6))⟩,⟨(some 51),none,(.fa 2 (.t 8))⟩,⟨none,none,(.st 1 (.t 51) (.t 49))⟩,⟨(some 52),none,(.fa 3 (.t 8))⟩,⟨none,none,(.st 1 (.t 52) (.t 50))⟩])
 .skip))
 (.seq
 (.reg
 [⟨(some 53),none,(.lda 6 [(.int .i64),(.int .i64),(.int .i64),(.int .i64),(.int .u64),(.int .u64)] (.t 8))⟩,⟨none,none,(.st 6 (.t 4) (.t 53))⟩,⟨(some 5),none,(.mv (.c .nilIface))⟩])
 .ret)))))))))
def ts_weight_Repeat : List (Nat × Tr) := [(10,(.mov 0 (.take 1 (.take 2 (.mov 3 (.take 4 (.take 5 (.take 6 (.take 7 (.take 8 (.take 9 (.take 10 (.mov 11 (.take 12 (.take 13 (.alt 14 true (.bar 15 .done) .nil))))))))))))))))]
set_option maxRecDepth 100000 in
set_option maxHeartbeats 4000000 in
theorem ok_weight_Repeat : irOf Tryz.prog fn_weight_Repeat [] ts_weight_Repeat = some (54,[(.c 4 6),(.t 5)],ir_weight_Repeat) := by kernel_rfl
def ir_rule_Refs : C :=
 (.seq
 (.reg
 [⟨(some 1),none,(.box 1 ty_api_Rule (.t 0))⟩,⟨(some 2),none,(.mv (.c (.slice none 0 0)))⟩])
 (.seq
 (.seq
 (.reg
 [⟨(some 3),none,(.fa 0 (.t 1))⟩,⟨(some 4),none,(.ld (.int .i64) (.t 3))⟩])
 (.blk
 0
 (.seq
 (.reg
 [⟨(some 6),none,(.cmp .eql .i64 (.t 4) (.c (.int .i64 2)))⟩,⟨(some 5),none,(.mv (.t 6))⟩])
 (.cond
 (.t 5)
 (.seq
 (.reg
 [⟨(some 7),none,(.fa 2 (.t 1))⟩,⟨(some 8),none,(.ld (.int .i64) (.t 7))⟩,⟨(some 9),none,(.fa 3 (.t 1))⟩,⟨(some 10),none,(.ld (.int .i64) (.t 9))⟩,⟨(some 11),none,(.bsl 11 ty_api_ID 1 2 [(.int .i64 0),(.int .i64 0)] [(0,(1,(.t 8))),(1,(1,(.t 10)))])⟩,⟨(some 2),none,(.mv (.t 11))⟩])
 .ret)
 (.seq
 (.reg
 [⟨(some 13),none,(.cmp .eql .i64 (.t 4) (.c (.int .i64 3)))⟩,⟨(some 12),none,(.mv (.t 13))⟩])
 (.cond
 (.t 12)
 (.seq
 (.reg
 [⟨(some 14),none,(.fa 2 (.t 1))⟩,⟨(some 15),none,(.ld (.int .i64) (.t 14))⟩,⟨(some 16),none,(.bsl 16 ty_api_ID 1 1 [(.int .i64 0)] [(0,(1,(.t 15)))])⟩,⟨(some 2),none,(.mv (.t 16))⟩])
 .ret)
 .skip))))))
 (.seq
 (.reg
 [⟨(some 2),none,(.mv (.c (.slice none 0 0)))⟩])
 .ret)))
def ts_rule_Refs : List (Nat × Tr) := []
set_option maxRecDepth 100000 in
set_option maxHeartbeats 4000000 in
theorem ok_rule_Refs : irOf Tryz.prog fn_rule_Refs [] ts_rule_Refs = some (17,[(.t 2)],ir_rule_Refs) := by kernel_rfl
def ir_P_intern_Store_known : C :=
 (.seq
 (.reg
 [⟨(some 4),none,(.mv (.c (.bool false)))⟩])
 (.seq
 (.reg
 [⟨(some 5),none,(.mv (.t 1))⟩,⟨(some 6),none,(.cmp .geq .i64 (.t 5) (.c (.int .i64 0)))⟩,⟨(some 7),none,(.mv (.t 6))⟩,⟨(some 8),(some (7,true)),(.mv (.t 1))⟩,⟨(some 9),(some (7,true)),(.mv (.t 0))⟩,⟨(some 10),(some (7,true)),(.nil (.t 9))⟩,⟨(some 11),(some (7,true)),(.fa 1 (.t 10))⟩,⟨(some 12),(some (7,true)),(.ld .slc (.t 11))⟩,⟨(some 13),(some (7,true)),(.lens (.t 12))⟩,⟨(some 14),(some (7,true)),(.cmp .leq .i64 (.t 8) (.t 13))⟩,⟨(some 15),none,(.pick (.t 7) (.t 14) (.c (.bool false)))⟩,⟨(some 4),none,(.mv (.t 15))⟩])
 .ret))
def ts_P_intern_Store_known : List (Nat × Tr) := []
set_option maxRecDepth 100000 in
set_option maxHeartbeats 4000000 in
theorem ok_P_intern_Store_known : irOf Tryz.prog fn_P_intern_Store_known [] ts_P_intern_Store_known = some (16,[(.t 4)],ir_P_intern_Store_known) := by kernel_rfl
def ir_P_intern_Store_at : C :=
 (.seq
 (.reg
 [⟨(some 4),none,(.alc 4 ty_intern_entry [(.int .i64 0),(.int .u8 0),(.int .i64 0),(.int .i64 0),(.int .i64 0),(.int .i64 0),(.int .i64 0),(.int .i64 0),(.int .i64 0),(.int .u64 0),(.int .u64 0),(.int .i64 0),(.bool false)])⟩])
 (.seq
 (.seq
 (.reg
 [⟨(some 5),none,(.mv (.t 1))⟩,⟨(some 6),none,(.cmp .eql .i64 (.t 5) (.c (.int .i64 0)))⟩])
 (.cond
 (.t 6)
 (.seq
 (.reg
 [⟨(some 7),none,(.call fn_weight_Unit [])⟩,⟨(some 8),none,(.bld [(.int .i64 0),(.int .u8 0),(.int .i64 0),(.int .i64 0),(.int .i64 0),(.int .i64 0),(.int .i64 0),(.int .i64 0),(.int .i64 0),(.int .u64 0),(.int .u64 0),(.int .i64 0),(.bool false)] [(5,(6,(.t 7))),(12,(1,(.c (.bool true))))])⟩,⟨none,none,(.st 13 (.t 4) (.t 8))⟩])
 .ret)
 .skip))
 (.seq
 (.reg
 [⟨(some 9),none,(.mv (.t 0))⟩,⟨(some 10),none,(.nil (.t 9))⟩,⟨(some 11),none,(.fa 1 (.t 10))⟩,⟨(some 12),none,(.ld .slc (.t 11))⟩,⟨(some 13),none,(.mv (.t 1))⟩,⟨(some 14),none,(.ar .sub .i64 (.t 13) (.c (.int .i64 1)))⟩,⟨(some 15),none,(.ia 13 (.t 12) (.t 14))⟩,⟨(some 16),none,(.lda 13 [(.int .i64),(.int .u8),(.int .i64),(.int .i64),(.int .i64),(.int .i64),(.int .i64),(.int .i64),(.int .i64),(.int .u64),(.int .u64),(.int .i64),.bool] (.t 15))⟩,⟨none,none,(.st 13 (.t 4) (.t 16))⟩])
 .ret)))
def ts_P_intern_Store_at : List (Nat × Tr) := []
set_option maxRecDepth 100000 in
set_option maxHeartbeats 4000000 in
theorem ok_P_intern_Store_at : irOf Tryz.prog fn_P_intern_Store_at [] ts_P_intern_Store_at = some (17,[(.c 4 13)],ir_P_intern_Store_at) := by kernel_rfl
def ir_P_intern_Store_find : C :=
 (.seq
 (.reg
 [⟨(some 3),none,(.box 3 ty_api_Rule (.t 1))⟩,⟨(some 4),none,(.mv (.c (.int .i64 0)))⟩,⟨(some 5),none,(.mv (.c .nilIface))⟩])
 (.seq
 (.seq
 (.drw
 [⟨(some 9),none,(.mv (.t 0))⟩,⟨(some 10),none,(.nil (.t 9))⟩,⟨(some 11),none,(.fa 2 (.t 10))⟩,⟨(some 12),none,(.ld .map (.t 11))⟩,⟨(some 13),none,(.lda 5 [(.int .i64),(.int .u8),(.int .i64),(.int .i64),(.int .i64)] (.t 3))⟩,⟨(some 14),none,(.lku (.agg [(.int .i64),(.int .u8),(.int .i64),(.int .i64),(.int .i64)]) true (.int .i64 0) (.t 12) (.t 13))⟩,⟨(some 8),none,(.mv (.t 14))⟩,⟨(some 15),none,(.ext (.t 8) 0)⟩,⟨(some 16),none,(.ext (.t 8) 1)⟩,⟨(some 6),none,(.mv (.t 15))⟩,⟨(some 7),none,(.mv (.t 16))⟩]
 (.mov 0 (.take 1 (.take 2 (.take 3 (.take 4 (.take 5 (.mov 6 (.mov 7 (.mov 8 (.mov 9 (.mov 10 .done))))))))))))
 (.seq
 (.reg
 [⟨(some 17),none,(.mv (.t 7))⟩])
 (.cond
 (.t 17)
 (.seq
 (.reg
 [⟨(some 18),none,(.mv (.t 6))⟩,⟨(some 4),none,(.mv (.t 18))⟩,⟨(some 5),none,(.mv (.c .nilIface))⟩])
 .ret)
 .skip)))
 (.seq
 (.seq
 (.drw
 [⟨(some 19),none,(.mv (.t 0))⟩,⟨(some 20),none,(.nil (.t 19))⟩,⟨(some 21),none,(.fa 1 (.t 20))⟩,⟨(some 22),none,(.ld .slc (.t 21))⟩,⟨(some 23),none,(.lens (.t 22))⟩,⟨(some 24),none,(.mv (.t 0))⟩,⟨(some 25),none,(.nil (.t 24))⟩,⟨(some 26),none,(.fa 0 (.t 25))⟩,⟨(some 27),none,(.ld (.int .i64) (.t 26))⟩,⟨(some 28),none,(.cmp .geq .i64 (.t 23) (.t 27))⟩]
 (.mov 0 (.take 1 (.take 2 (.take 3 (.take 4 (.mov 5 (.take 6 (.take 7 (.take 8 (.take 9 .done)))))))))))
 (.cond
 (.t 28)
 (.seq
 (.reg
 [⟨(some 29),none,(.mki ty_api_Errno (.c (.int .i64 3)))⟩,⟨(some 4),none,(.mv (.c (.int .i64 0)))⟩,⟨(some 5),none,(.mv (.t 29))⟩])
 .ret)
 .skip))
 (.seq
 (.reg
 [⟨(some 4),none,(.mv (.c (.int .i64 0)))⟩,⟨(some 5),none,(.mv (.c .nilIface))⟩])
 .ret))))
def ts_P_intern_Store_find : List (Nat × Tr) := [(1,(.mov 0 (.take 1 (.take 2 (.take 3 (.take 4 (.take 5 (.mov 6 (.mov 7 (.mov 8 (.mov 9 (.mov 10 .done)))))))))))),(4,(.mov 0 (.take 1 (.take 2 (.take 3 (.take 4 (.mov 5 (.take 6 (.take 7 (.take 8 (.take 9 .done)))))))))))]
set_option maxRecDepth 100000 in
set_option maxHeartbeats 4000000 in
theorem ok_P_intern_Store_find : irOf Tryz.prog fn_P_intern_Store_find [] ts_P_intern_Store_find = some (30,[(.t 4),(.t 5)],ir_P_intern_Store_find) := by kernel_rfl
def ir_P_intern_Store_add : C :=
 (.seq
 (.reg
 [⟨(some 3),none,(.box 3 ty_intern_entry (.t 1))⟩,⟨(some 4),none,(.mv (.c (.int .i64 0)))⟩])
 (.seq
 (.drw
 [⟨(some 6),none,(.mv (.t 0))⟩,⟨(some 7),none,(.mv (.t 0))⟩,⟨(some 8),none,(.nil (.t 7))⟩,⟨(some 9),none,(.fa 1 (.t 8))⟩,⟨(some 10),none,(.ld .slc (.t 9))⟩,⟨(some 11),none,(.lda 13 [(.int .i64),(.int .u8),(.int .i64),(.int .i64),(.int .i64),(.int .i64),(.int .i64),(.int .i64),(.int .i64),(.int .u64),(.int .u64),(.int .i64),.bool] (.t 3))⟩,⟨(some 12),none,(.bsl 12 ty_intern_entry 13 1 [(.int .i64 0),(.int .u8 0),(.int .i64 0),(.int .i64 0),(.int .i64 0),(.int .i64 0),(.int .i64 0),(.int .i64 0),(.int .i64 0),(.int .u64 0),(.int .u64 0),(.int .i64 0),(.bool false)] [(0,(13,(.t 11)))])⟩,⟨(some 13),none,(.app 13 ty_intern_entry 13 104 (.t 10) (.t 12))⟩,⟨(some 14),none,(.nil (.t 6))⟩,⟨(some 15),none,(.fa 1 (.t 14))⟩,⟨none,none,(.st 1 (.t 15) (.t 13))⟩]
 (.mov 0 (.mov 1 (.take 2 (.take 3 (.take 4 (.take 5 (.alt 6 true (.bar 7 (.take 8 (.take 9 (.bar 10 .done)))) .nil))))))))
 (.seq
 (.reg
 [⟨(some 16),none,(.mv (.t 0))⟩,⟨(some 17),none,(.nil (.t 16))⟩,⟨(some 18),none,(.fa 1 (.t 17))⟩,⟨(some 19),none,(.ld .slc (.t 18))⟩,⟨(some 20),none,(.lens (.t 19))⟩,⟨(some 5),none,(.mv (.t 20))⟩])
 (.seq
 (.drw
 [⟨(some 21),none,(.mv (.t 0))⟩,⟨(some 22),none,(.nil (.t 21))⟩,⟨(some 23),none,(.fa 2 (.t 22))⟩,⟨(some 24),none,(.ld .map (.t 23))⟩,⟨(some 25),none,(.fa 0 (.t 3))⟩,⟨(some 26),none,(.lda 5 [(.int .i64),(.int .u8),(.int .i64),(.int .i64),(.int .i64)] (.t 25))⟩,⟨(some 27),none,(.mv (.t 5))⟩,⟨none,none,(.mup (.agg [(.int .i64),(.int .u8),(.int .i64),(.int .i64),(.int .i64)]) (.t 24) (.t 26) (.t 27))⟩]
 (.mov 0 (.take 1 (.take 2 (.take 3 (.take 4 (.take 5 (.mov 6 (.bar 7 .done)))))))))
 (.seq
 (.reg
 [⟨(some 28),none,(.mv (.t 5))⟩,⟨(some 4),none,(.mv (.t 28))⟩])
 .ret)))))
def ts_P_intern_Store_add : List (Nat × Tr) := [(1,(.mov 0 (.mov 1 (.take 2 (.take 3 (.take 4 (.take 5 (.alt 6 true (.bar 7 (.take 8 (.take 9 (.bar 10 .done)))) .nil)))))))),(3,(.mov 0 (.take 1 (.take 2 (.take 3 (.take 4 (.take 5 (.mov 6 (.bar 7 .done)))))))))]
set_option maxRecDepth 100000 in
set_option maxHeartbeats 4000000 in
theorem ok_P_intern_Store_add : irOf Tryz.prog fn_P_intern_Store_add [] ts_P_intern_Store_add = some (29,[(.t 4)],ir_P_intern_Store_add) := by kernel_rfl
def ir_P_intern_Store_Letter : C :=
 (.seq
 (.reg
 [⟨(some 4),none,(.mv (.c (.int .i64 0)))⟩,⟨(some 5),none,(.mv (.c .nilIface))⟩])
 (.seq
 (.seq
 (.reg
 [⟨(some 9),none,(.mv (.t 0))⟩,⟨(some 10),none,(.eqn .ptr false (.t 9))⟩])
 (.cond
 (.t 10)
 (.seq
 (.reg
 [⟨(some 11),none,(.mki ty_api_Errno (.c (.int .i64 5)))⟩,⟨(some 4),none,(.mv (.c (.int .i64 0)))⟩,⟨(some 5),none,(.mv (.t 11))⟩])
 .ret)
 .skip))
 (.seq
 (.reg
 [⟨(some 12),none,(.mv (.t 1))⟩,⟨(some 13),none,(.bld [(.int .i64 0),(.int .u8 0),(.int .i64 0),(.int .i64 0),(.int .i64 0)] [(0,(1,(.c (.int .i64 1)))),(1,(1,(.t 12)))])⟩,⟨(some 6),none,(.alc 6 ty_api_Rule [(.int .i64 0),(.int .u8 0),(.int .i64 0),(.int .i64 0),(.int .i64 0)])⟩,⟨none,none,(.st 5 (.t 6) (.t 13))⟩])
 (.seq
 (.seq
 (.reg
 [⟨(some 15),none,(.mv (.t 0))⟩,⟨(some 16),none,(.lda 5 [(.int .i64),(.int .u8),(.int .i64),(.int .i64),(.int .i64)] (.t 6))⟩,⟨(some 17),none,(.call fn_P_intern_Store_find [(.t 15),(.t 16)])⟩,⟨(some 14),none,(.mv (.t 17))⟩,⟨(some 18),none,(.ext (.t 14) 0)⟩,⟨(some 19),none,(.ext (.t 14) 1)⟩,⟨(some 7),none,(.mv (.t 18))⟩,⟨(some 8),none,(.mv (.t 19))⟩])
 (.seq
 (.reg
 [⟨(some 20),none,(.mv (.t 7))⟩,⟨(some 21),none,(.cmp .neq .i64 (.t 20) (.c (.int .i64 0)))⟩,⟨(some 22),none,(.mv (.t 21))⟩,⟨(some 23),(some (22,false)),(.mv (.t 8))⟩,⟨(some 24),(some (22,false)),(.eqn .ifc true (.t 23))⟩,⟨(some 25),none,(.pick (.t 22) (.c (.bool true)) (.t 24))⟩])
 (.cond
 (.t 25)
 (.seq
 (.reg
 [⟨(some 26),none,(.mv (.t 7))⟩,⟨(some 27),none,(.mv (.t 8))⟩,⟨(some 4),none,(.mv (.t 26))⟩,⟨(some 5),none,(.mv (.t 27))⟩])
 .ret)
 .skip)))
 (.seq
 (.drw
 [⟨(some 28),none,(.mv (.t 0))⟩,⟨(some 29),none,(.lda 5 [(.int .i64),(.int .u8),(.int .i64),(.int .i64),(.int .i64)] (.t 6))⟩,⟨(some 30),none,(.mv (.t 1))⟩,⟨(some 31),none,(.call fn_weight_Letter [(.t 30)])⟩,⟨(some 32),none,(.bld [(.int .i64 0),(.int .u8 0),(.int .i64 0),(.int .i64 0),(.int .i64 0),(.int .i64 0),(.int .i64 0),(.int .i64 0),(.int .i64 0),(.int .u64 0),(.int .u64 0),(.int .i64 0),(.bool false)] [(0,(5,(.t 29))),(5,(6,(.t 31))),(12,(1,(.c (.bool true))))])⟩,⟨(some 33),none,(.call fn_P_intern_Store_add [(.t 28),(.t 32)])⟩,⟨(some 4),none,(.mv (.t 33))⟩,⟨(some 5),none,(.mv (.c .nilIface))⟩]
 (.mov 0 (.take 1 (.mov 2 (.take 3 (.take 4 (.bar 5 (.mov 6 (.mov 7 .done)))))))))
 .ret)))))
def ts_P_intern_Store_Letter : List (Nat × Tr) := [(7,(.mov 0 (.take 1 (.mov 2 (.take 3 (.take 4 (.bar 5 (.mov 6 (.mov 7 .done)))))))))]
set_option maxRecDepth 100000 in
set_option maxHeartbeats 4000000 in
theorem ok_P_intern_Store_Letter : irOf Tryz.prog fn_P_intern_Store_Letter [] ts_P_intern_Store_Letter = some (34,[(.t 4),(.t 5)],ir_P_intern_Store_Letter) := by kernel_rfl
def ir_P_intern_Store_Pair : C :=
 (.seq
 (.reg
 [⟨(some 6),none,(.mv (.c (.int .i64 0)))⟩,⟨(some 7),none,(.mv (.c .nilIface))⟩])
 (.seq
 (.seq
 (.reg
 [⟨(some 18),none,(.mv (.t 0))⟩,⟨(some 19),none,(.eqn .ptr false (.t 18))⟩])
 (.cond
 (.t 19)
 (.seq
 (.reg
 [⟨(some 20),none,(.mki ty_api_Errno (.c (.int .i64 5)))⟩,⟨(some 6),none,(.mv (.c (.int .i64 0)))⟩,⟨(some 7),none,(.mv (.t 20))⟩])
 .ret)
 .skip))
 (.seq
 (.seq
 (.reg
 [⟨(some 21),none,(.mv (.t 0))⟩,⟨(some 22),none,(.mv (.t 1))⟩,⟨(some 23),none,(.call fn_P_intern_Store_known [(.t 21),(.t 22)])⟩,⟨(some 24),none,(.not (.t 23))⟩,⟨(some 25),none,(.mv (.t 24))⟩,⟨(some 26),(some (25,false)),(.mv (.t 0))⟩,⟨(some 27),(some (25,false)),(.mv (.t 2))⟩,⟨(some 28),(some (25,false)),(.call fn_P_intern_Store_known [(.t 26),(.t 27)])⟩,⟨(some 29),(some (25,false)),(.not (.t 28))⟩,⟨(some 30),none,(.pick (.t 25) (.c (.bool true)) (.t 29))⟩])
 (.cond
 (.t 30)
 (.seq
 (.reg
 [⟨(some 31),none,(.mki ty_api_Errno (.c (.int .i64 1)))⟩,⟨(some 6),none,(.mv (.c (.int .i64 0)))⟩,⟨(some 7),none,(.mv (.t 31))⟩])
 .ret)
 .skip))
 (.seq
 (.seq
 (.reg
 [⟨(some 32),none,(.mv (.t 1))⟩,⟨(some 33),none,(.cmp .eql .i64 (.t 32) (.c (.int .i64 0)))⟩])
 (.cond
 (.t 33)
 (.seq
 (.reg
 [⟨(some 34),none,(.mv (.t 2))⟩,⟨(some 6),none,(.mv (.t 34))⟩,⟨(some 7),none,(.mv (.c .nilIface))⟩])
 .ret)
 .skip))
 (.seq
 (.seq
 (.reg
 [⟨(some 35),none,(.mv (.t 2))⟩,⟨(some 36),none,(.cmp .eql .i64 (.t 35) (.c (.int .i64 0)))⟩])
 (.cond
 (.t 36)
 (.seq
 (.reg
 [⟨(some 37),none,(.mv (.t 1))⟩,⟨(some 6),none,(.mv (.t 37))⟩,⟨(some 7),none,(.mv (.c .nilIface))⟩])
 .ret)
 .skip))
 (.seq
 (.reg
 [⟨(some 38),none,(.mv (.t 0))⟩,⟨(some 39),none,(.mv (.t 1))⟩,⟨(some 40),none,(.call fn_P_intern_Store_at [(.t 38),(.t 39)])⟩,⟨(some 41),none,(.mv (.t 0))⟩,⟨(some 42),none,(.mv (.t 2))⟩,⟨(some 43),none,(.call fn_P_intern_Store_at [(.t 41),(.t 42)])⟩,⟨(some 8),none,(.alc 8 ty_intern_entry [(.int .i64 0),(.int .u8 0),(.int .i64 0),(.int .i64 0),(.int .i64 0),(.int .i64 0),(.int .i64 0),(.int .i64 0),(.int .i64 0),(.int .u64 0),(.int .u64 0),(.int .i64 0),(.bool false)])⟩,⟨(some 9),none,(.alc 9 ty_intern_entry [(.int .i64 0),(.int .u8 0),(.int .i64 0),(.int .i64 0),(.int .i64 0),(.int .i64 0),(.int .i64 0),(.int .i64 0),(.int .i64 0),(.int .u64 0),(.int .u64 0),(.int .i64 0),(.bool false)])⟩,⟨none,none,(.st 13 (.t 8) (.t 40))⟩,⟨none,none,(.st 13 (.t 9) (.t 43))⟩])
 (.seq
 (.seq
 (.reg
 [⟨(some 45),none,(.fa 5 (.t 8))⟩,⟨(some 46),none,(.fa 0 (.t 45))⟩,⟨(some 47),none,(.ld (.int .i64) (.t 46))⟩,⟨(some 48),none,(.fa 5 (.t 9))⟩,⟨(some 49),none,(.fa 0 (.t 48))⟩,⟨(some 50),none,(.ld (.int .i64) (.t 49))⟩,⟨(some 51),none,(.call fn_length_Add [(.t 47),(.t 50)])⟩,⟨(some 44),none,(.mv (.t 51))⟩,⟨(some 52),none,(.ext (.t 44) 0)⟩,⟨(some 53),none,(.ext (.t 44) 1)⟩,⟨(some 10),none,(.mv (.t 52))⟩,⟨(some 11),none,(.mv (.t 53))⟩])
 (.seq
 (.reg
 [⟨(some 54),none,(.mv (.t 11))⟩,⟨(some 55),none,(.eqn .ifc true (.t 54))⟩])
 (.cond
 (.t 55)
 (.seq
 (.reg
 [⟨(some 56),none,(.mki ty_api_Errno (.c (.int .i64 2)))⟩,⟨(some 6),none,(.mv (.c (.int .i64 0)))⟩,⟨(some 7),none,(.mv (.t 56))⟩])
 .ret)
 .skip)))
 (.seq
 (.reg
 [⟨(some 57),none,(.mv (.t 1))⟩,⟨(some 58),none,(.mv (.t 2))⟩,⟨(some 59),none,(.bld [(.int .i64 0),(.int .u8 0),(.int .i64 0),(.int .i64 0),(.int .i64 0)] [(0,(1,(.c (.int .i64 2)))),(2,(1,(.t 57))),(3,(1,(.t 58)))])⟩,⟨(some 12),none,(.alc 12 ty_api_Rule [(.int .i64 0),(.int .u8 0),(.int .i64 0),(.int .i64 0),(.int .i64 0)])⟩,⟨none,none,(.st 5 (.t 12) (.t 59))⟩])
 (.seq
 (.seq
 (.reg
 [⟨(some 61),none,(.mv (.t 0))⟩,⟨(some 62),none,(.lda 5 [(.int .i64),(.int .u8),(.int .i64),(.int .i64),(.int .i64)] (.t 12))⟩,⟨(some 63),none,(.call fn_P_intern_Store_find [(.t 61),(.t 62)])⟩,⟨(some 60),none,(.mv (.t 63))⟩,⟨(some 64),none,(.ext (.t 60) 0)⟩,⟨(some 65),none,(.ext (.t 60) 1)⟩,⟨(some 13),none,(.mv (.t 64))⟩,⟨(some 14),none,(.mv (.t 65))⟩])
 (.seq
 (.reg
 [⟨(some 66),none,(.mv (.t 13))⟩,⟨(some 67),none,(.cmp .neq .i64 (.t 66) (.c (.int .i64 0)))⟩,⟨(some 68),none,(.mv (.t 67))⟩,⟨(some 69),(some (68,false)),(.mv (.t 14))⟩,⟨(some 70),(some (68,false)),(.eqn .ifc true (.t 69))⟩,⟨(some 71),none,(.pick (.t 68) (.c (.bool true)) (.t 70))⟩])
 (.cond
 (.t 71)
 (.seq
 (.reg
 [⟨(some 72),none,(.mv (.t 13))⟩,⟨(some 73),none,(.mv (.t 14))⟩,⟨(some 6),none,(.mv (.t 72))⟩,⟨(some 7),none,(.mv (.t 73))⟩])
 .ret)
 .skip)))
 (.seq
 (.reg
 [⟨(some 75),none,(.fa 5 (.t 8))⟩,⟨(some 76),none,(.lda 6 [(.int .i64),(.int .i64),(.int .i64),(.int .i64),(.int .u64),(.int .u64)] (.t 75))⟩,⟨(some 77),none,(.fa 5 (.t 9))⟩,⟨(some 78),none,(.lda 6 [(.int .i64),(.int .i64),(.int .i64),(.int .i64),(.int .u64),(.int .u64)] (.t 77))⟩,⟨(some 79),none,(.call fn_weight_Join [(.t 76),(.t 78)])⟩,⟨(some 74),none,(.mv (.t 79))⟩,⟨(some 80),none,(.ext (.t 74) 0)⟩,⟨(some 81),none,(.ext (.t 74) 1)⟩,⟨(some 15),none,(.alc 15 ty_api_Weight [(.int .i64 0),(.int .i64 0),(.int .i64 0),(.int .i64 0),(.int .u64 0),(.int .u64 0)])⟩,⟨none,none,(.st 6 (.t 15) (.t 80))⟩,⟨(some 16),none,(.mv (.t 81))⟩])
 (.seq
 (.seq
 (.reg
 [⟨(some 82),none,(.mv (.t 16))⟩,⟨(some 83),none,(.eqn .ifc true (.t 82))⟩])
 (.cond
 (.t 83)
 (.seq
 (.reg
 [⟨(some 84),none,(.mv (.t 16))⟩,⟨(some 6),none,(.mv (.c (.int .i64 0)))⟩,⟨(some 7),none,(.mv (.t 84))⟩])
 .ret)
 .skip))
 (.seq
 (.reg
 [⟨(some 85),none,(.fa 11 (.t 8))⟩,⟨(some 86),none,(.ld (.int .i64) (.t 85))⟩,⟨(some 87),none,(.fa 11 (.t 9))⟩,⟨(some 88),none,(.ld (.int .i64) (.t 87))⟩,⟨(some 89),none,(.ar .sub .i64 (.t 86) (.t 88))⟩,⟨(some 17),none,(.mv (.t 89))⟩])
 (.seq
 (.reg
 [⟨(some 90),none,(.mv (.t 0))⟩,⟨(some 91),none,(.lda 5 [(.int .i64),(.int .u8),(.int .i64),(.int .i64),(.int .i64)] (.t 12))⟩,⟨(some 92),none,(.lda 6 [(.int .i64),(.int .i64),(.int .i64),(.int .i64),(.int .u64),(.int .u64)] (.t 15))⟩,⟨(some 93),none,(.fa 11 (.t 8))⟩,⟨(some 94),none,(.ld (.int .i64) (.t 93))⟩,⟨(some 95),none,(.fa 11 (.t 9))⟩,⟨(some 96),none,(.ld (.int .i64) (.t 95))⟩,⟨(some 97),none,(.mm true .i64 (.t 94) (.t 96))⟩,⟨(some 98),none,(.ar .add .i64 (.c (.int .i64 1)) (.t 97))⟩,⟨(some 99),none,(.fa 12 (.t 8))⟩,⟨(some 100),none,(.ld .bool (.t 99))⟩,⟨(some 101),none,(.mv (.t 100))⟩,⟨(some 102),(some (101,true)),(.fa 12 (.t 9))⟩,⟨(some 103),(some (101,true)),(.ld .bool (.t 102))⟩,⟨(some 104),none,(.pick (.t 101) (.t 103) (.c (.bool false)))⟩,⟨(some 105),none,(.mv (.t 104))⟩,⟨(some 106),(some (105,true)),(.mv (.t 17))⟩,⟨(some 107),(some (105,true)),(.cmp .geq .i64 (.t 106) (.c (.int .i64 (-1))))⟩,⟨(some 108),none,(.pick (.t 105) (.t 107) (.c (.bool false)))⟩,⟨(some 109),none,(.mv (.t 108))⟩,⟨(some 110),(some (109,true)),(.mv (.t 17))⟩,⟨(some 111),(some (109,true)),(.cmp .leq .i64 (.t 110) (.c (.int .i64 1)))⟩,⟨(some 112),none,(.pick (.t 109) (.t 111) (.c (.bool false)))⟩,⟨(some 113),none,(.bld [(.int .i64 0),(.int .u8 0),(.int .i64 0),(.int .i64 0),(.int .i64 0),(.int .i64 0),(.int .i64 0),(.int .i64 0),(.int .i64 0),(.int .u64 0),(.int .u64 0),(.int .i64 0),(.bool false)] [(0,(5,(.t 91))),(5,(6,(.t 92))),(11,(1,(.t 98))),(12,(1,(.t 112)))])⟩,⟨(some 114),none,(.call fn_P_intern_Store_add [(.t 90),(.t 113)])⟩,⟨(some 6),none,(.mv (.t 114))⟩,⟨(some 7),none,(.mv (.c .nilIface))⟩])
 .ret)))))))))))))
def ts_P_intern_Store_Pair : List (Nat × Tr) := []
set_option maxRecDepth 100000 in
set_option maxHeartbeats 4000000 in
theorem ok_P_intern_Store_Pair : irOf Tryz.prog fn_P_intern_Store_Pair [] ts_P_intern_Store_Pair = some (115,[(.t 6),(.t 7)],ir_P_intern_Store_Pair) := by kernel_rfl
def ir_P_intern_Store_Power : C :=
 (.seq
 (.reg
 [⟨(some 6),none,(.mv (.c (.int .i64 0)))⟩,⟨(some 7),none,(.mv (.c .nilIface))⟩])
 (.seq
 (.seq
 (.reg
 [⟨(some 16),none,(.mv (.t 0))⟩,⟨(some 17),none,(.eqn .ptr false (.t 16))⟩])
 (.cond
 (.t 17)
 (.seq
 (.reg
 [⟨(some 18),none,(.mki ty_api_Errno (.c (.int .i64 5)))⟩,⟨(some 6),none,(.mv (.c (.int .i64 0)))⟩,⟨(some 7),none,(.mv (.t 18))⟩])
 .ret)
 .skip))
 (.seq
 (.seq
 (.reg
 [⟨(some 19),none,(.mv (.t 0))⟩,⟨(some 20),none,(.mv (.t 1))⟩,⟨(some 21),none,(.call fn_P_intern_Store_known [(.t 19),(.t 20)])⟩,⟨(some 22),none,(.not (.t 21))⟩,⟨(some 23),none,(.mv (.t 22))⟩,⟨(some 24),(some (23,false)),(.mv (.t 2))⟩,⟨(some 25),(some (23,false)),(.cmp .lss .i64 (.t 24) (.c (.int .i64 0)))⟩,⟨(some 26),none,(.pick (.t 23) (.c (.bool true)) (.t 25))⟩])
 (.cond
 (.t 26)
 (.seq
 (.reg
 [⟨(some 27),none,(.mki ty_api_Errno (.c (.int .i64 1)))⟩,⟨(some 6),none,(.mv (.c (.int .i64 0)))⟩,⟨(some 7),none,(.mv (.t 27))⟩])
 .ret)
 .skip))
 (.seq
 (.seq
 (.reg
 [⟨(some 28),none,(.mv (.t 2))⟩,⟨(some 29),none,(.cmp .eql .i64 (.t 28) (.c (.int .i64 0)))⟩,⟨(some 30),none,(.mv (.t 29))⟩,⟨(some 31),(some (30,false)),(.mv (.t 1))⟩,⟨(some 32),(some (30,false)),(.cmp .eql .i64 (.t 31) (.c (.int .i64 0)))⟩,⟨(some 33),none,(.pick (.t 30) (.c (.bool true)) (.t 32))⟩])
 (.cond
 (.t 33)
 (.seq
 (.reg
 [⟨(some 6),none,(.mv (.c (.int .i64 0)))⟩,⟨(some 7),none,(.mv (.c .nilIface))⟩])
 .ret)
 .skip))
 (.seq
 (.seq
 (.reg
 [⟨(some 34),none,(.mv (.t 2))⟩,⟨(some 35),none,(.cmp .eql .i64 (.t 34) (.c (.int .i64 1)))⟩])
 (.cond
 (.t 35)
 (.seq
 (.reg
 [⟨(some 36),none,(.mv (.t 1))⟩,⟨(some 6),none,(.mv (.t 36))⟩,⟨(some 7),none,(.mv (.c .nilIface))⟩])
 .ret)
 .skip))
 (.seq
 (.reg
 [⟨(some 37),none,(.mv (.t 0))⟩,⟨(some 38),none,(.mv (.t 1))⟩,⟨(some 39),none,(.call fn_P_intern_Store_at [(.t 37),(.t 38)])⟩,⟨(some 8),none,(.alc 8 ty_intern_entry [(.int .i64 0),(.int .u8 0),(.int .i64 0),(.int .i64 0),(.int .i64 0),(.int .i64 0),(.int .i64 0),(.int .i64 0),(.int .i64 0),(.int .u64 0),(.int .u64 0),(.int .i64 0),(.bool false)])⟩,⟨none,none,(.st 13 (.t 8) (.t 39))⟩])
 (.seq
 (.seq
 (.reg
 [⟨(some 41),none,(.fa 5 (.t 8))⟩,⟨(some 42),none,(.fa 0 (.t 41))⟩,⟨(some 43),none,(.ld (.int .i64) (.t 42))⟩,⟨(some 44),none,(.mv (.t 2))⟩,⟨(some 45),none,(.call fn_length_Mul [(.t 43),(.t 44)])⟩,⟨(some 40),none,(.mv (.t 45))⟩,⟨(some 46),none,(.ext (.t 40) 0)⟩,⟨(some 47),none,(.ext (.t 40) 1)⟩,⟨(some 9),none,(.mv (.t 46))⟩,⟨(some 10),none,(.mv (.t 47))⟩])
 (.seq
 (.reg
 [⟨(some 48),none,(.mv (.t 10))⟩,⟨(some 49),none,(.eqn .ifc true (.t 48))⟩])
 (.cond
 (.t 49)
 (.seq
 (.reg
 [⟨(some 50),none,(.mki ty_api_Errno (.c (.int .i64 2)))⟩,⟨(some 6),none,(.mv (.c (.int .i64 0)))⟩,⟨(some 7),none,(.mv (.t 50))⟩])
 .ret)
 .skip)))
 (.seq
 (.reg
 [⟨(some 51),none,(.mv (.t 1))⟩,⟨(some 52),none,(.mv (.t 2))⟩,⟨(some 53),none,(.bld [(.int .i64 0),(.int .u8 0),(.int .i64 0),(.int .i64 0),(.int .i64 0)] [(0,(1,(.c (.int .i64 3)))),(2,(1,(.t 51))),(4,(1,(.t 52)))])⟩,⟨(some 11),none,(.alc 11 ty_api_Rule [(.int .i64 0),(.int .u8 0),(.int .i64 0),(.int .i64 0),(.int .i64 0)])⟩,⟨none,none,(.st 5 (.t 11) (.t 53))⟩])
 (.seq
 (.seq
 (.reg
 [⟨(some 55),none,(.mv (.t 0))⟩,⟨(some 56),none,(.lda 5 [(.int .i64),(.int .u8),(.int .i64),(.int .i64),(.int .i64)] (.t 11))⟩,⟨(some 57),none,(.call fn_P_intern_Store_find [(.t 55),(.t 56)])⟩,⟨(some 54),none,(.mv (.t 57))⟩,⟨(some 58),none,(.ext (.t 54) 0)⟩,⟨(some 59),none,(.ext (.t 54) 1)⟩,⟨(some 12),none,(.mv (.t 58))⟩,⟨(some 13),none,(.mv (.t 59))⟩])
 (.seq
 (.reg
 [⟨(some 60),none,(.mv (.t 12))⟩,⟨(some 61),none,(.cmp .neq .i64 (.t 60) (.c (.int .i64 0)))⟩,⟨(some 62),none,(.mv (.t 61))⟩,⟨(some 63),(some (62,false)),(.mv (.t 13))⟩,⟨(some 64),(some (62,false)),(.eqn .ifc true (.t 63))⟩,⟨(some 65),none,(.pick (.t 62) (.c (.bool true)) (.t 64))⟩])
 (.cond
 (.t 65)
 (.seq
 (.reg
 [⟨(some 66),none,(.mv (.t 12))⟩,⟨(some 67),none,(.mv (.t 13))⟩,⟨(some 6),none,(.mv (.t 66))⟩,⟨(some 7),none,(.mv (.t 67))⟩])
 .ret)
 .skip)))
 (.seq
 (.reg
 [⟨(some 69),none,(.fa 5 (.t 8))⟩,⟨(some 70),none,(.lda 6 [(.int .i64),(.int .i64),(.int .i64),(.int .i64),(.int .u64),(.int .u64)] (.t 69))⟩,⟨(some 71),none,(.mv (.t 2))⟩,⟨(some 72),none,(.call fn_weight_Repeat [(.t 70),(.t 71)])⟩,⟨(some 68),none,(.mv (.t 72))⟩,⟨(some 73),none,(.ext (.t 68) 0)⟩,⟨(some 74),none,(.ext (.t 68) 1)⟩,⟨(some 14),none,(.alc 14 ty_api_Weight [(.int .i64 0),(.int .i64 0),(.int .i64 0),(.int .i64 0),(.int .u64 0),(.int .u64 0)])⟩,⟨none,none,(.st 6 (.t 14) (.t 73))⟩,⟨(some 15),none,(.mv (.t 74))⟩])
 (.seq
 (.seq
 (.reg
 [⟨(some 75),none,(.mv (.t 15))⟩,⟨(some 76),none,(.eqn .ifc true (.t 75))⟩])
 (.cond
 (.t 76)
 (.seq
 (.reg
 [⟨(some 77),none,(.mv (.t 15))⟩,⟨(some 6),none,(.mv (.c (.int .i64 0)))⟩,⟨(some 7),none,(.mv (.t 77))⟩])
 .ret)
 .skip))
 (.seq
 (.reg
 [⟨(some 78),none,(.mv (.t 0))⟩,⟨(some 79),none,(.lda 5 [(.int .i64),(.int .u8),(.int .i64),(.int .i64),(.int .i64)] (.t 11))⟩,⟨(some 80),none,(.lda 6 [(.int .i64),(.int .i64),(.int .i64),(.int .i64),(.int .u64),(.int .u64)] (.t 14))⟩,⟨(some 81),none,(.fa 11 (.t 8))⟩,⟨(some 82),none,(.ld (.int .i64) (.t 81))⟩,⟨(some 83),none,(.ar .add .i64 (.c (.int .i64 1)) (.t 82))⟩,⟨(some 84),none,(.bld [(.int .i64 0),(.int .u8 0),(.int .i64 0),(.int .i64 0),(.int .i64 0),(.int .i64 0),(.int .i64 0),(.int .i64 0),(.int .i64 0),(.int .u64 0),(.int .u64 0),(.int .i64 0),(.bool false)] [(0,(5,(.t 79))),(5,(6,(.t 80))),(11,(1,(.t 83)))])⟩,⟨(some 85),none,(.call fn_P_intern_Store_add [(.t 78),(.t 84)])⟩,⟨(some 6),none,(.mv (.t 85))⟩,⟨(some 7),none,(.mv (.c .nilIface))⟩])
 .ret))))))))))))
def ts_P_intern_Store_Power : List (Nat × Tr) := []
set_option maxRecDepth 100000 in
set_option maxHeartbeats 4000000 in
theorem ok_P_intern_Store_Power : irOf Tryz.prog fn_P_intern_Store_Power [] ts_P_intern_Store_Power = some (86,[(.t 6),(.t 7)],ir_P_intern_Store_Power) := by kernel_rfl
def ir_P_intern_Store_Rule : C :=
 (.seq
 (.reg
 [⟨(some 4),none,(.alc 4 ty_api_Rule [(.int .i64 0),(.int .u8 0),(.int .i64 0),(.int .i64 0),(.int .i64 0)])⟩,⟨(some 5),none,(.mv (.c .nilIface))⟩])
 (.seq
 (.seq
 (.reg
 [⟨(some 6),none,(.mv (.t 0))⟩,⟨(some 7),none,(.eqn .ptr false (.t 6))⟩])
 (.cond
 (.t 7)
 (.seq
 (.reg
 [⟨(some 8),none,(.bld [(.int .i64 0),(.int .u8 0),(.int .i64 0),(.int .i64 0),(.int .i64 0)] [])⟩,⟨(some 9),none,(.mki ty_api_Errno (.c (.int .i64 5)))⟩,⟨none,none,(.st 5 (.t 4) (.t 8))⟩,⟨(some 5),none,(.mv (.t 9))⟩])
 .ret)
 .skip))
 (.seq
 (.seq
 (.reg
 [⟨(some 10),none,(.mv (.t 1))⟩,⟨(some 11),none,(.cmp .eql .i64 (.t 10) (.c (.int .i64 0)))⟩,⟨(some 12),none,(.mv (.t 11))⟩,⟨(some 13),(some (12,false)),(.mv (.t 0))⟩,⟨(some 14),(some (12,false)),(.mv (.t 1))⟩,⟨(some 15),(some (12,false)),(.call fn_P_intern_Store_known [(.t 13),(.t 14)])⟩,⟨(some 16),(some (12,false)),(.not (.t 15))⟩,⟨(some 17),none,(.pick (.t 12) (.c (.bool true)) (.t 16))⟩])
 (.cond
 (.t 17)
 (.seq
 (.reg
 [⟨(some 18),none,(.bld [(.int .i64 0),(.int .u8 0),(.int .i64 0),(.int .i64 0),(.int .i64 0)] [])⟩,⟨(some 19),none,(.mki ty_api_Errno (.c (.int .i64 1)))⟩,⟨none,none,(.st 5 (.t 4) (.t 18))⟩,⟨(some 5),none,(.mv (.t 19))⟩])
 .ret)
 .skip))
 (.seq
 (.reg
 [⟨(some 20),none,(.mv (.t 0))⟩,⟨(some 21),none,(.nil (.t 20))⟩,⟨(some 22),none,(.fa 1 (.t 21))⟩,⟨(some 23),none,(.ld .slc (.t 22))⟩,⟨(some 24),none,(.mv (.t 1))⟩,⟨(some 25),none,(.ar .sub .i64 (.t 24) (.c (.int .i64 1)))⟩,⟨(some 26),none,(.ia 13 (.t 23) (.t 25))⟩,⟨(some 27),none,(.fa 0 (.t 26))⟩,⟨(some 28),none,(.lda 5 [(.int .i64),(.int .u8),(.int .i64),(.int .i64),(.int .i64)] (.t 27))⟩,⟨none,none,(.st 5 (.t 4) (.t 28))⟩,⟨(some 5),none,(.mv (.c .nilIface))⟩])
 .ret))))
def ts_P_intern_Store_Rule : List (Nat × Tr) := []
set_option maxRecDepth 100000 in
set_option maxHeartbeats 4000000 in
theorem ok_P_intern_Store_Rule : irOf Tryz.prog fn_P_intern_Store_Rule [] ts_P_intern_Store_Rule = some (29,[(.c 4 5),(.t 5)],ir_P_intern_Store_Rule) := by kernel_rfl
def ir_P_intern_Store_Len : C :=
 (.seq
 (.reg
 [⟨(some 2),none,(.mv (.c (.int .i64 0)))⟩])
 (.seq
 (.seq
 (.reg
 [⟨(some 3),none,(.mv (.t 0))⟩,⟨(some 4),none,(.eqn .ptr false (.t 3))⟩])
 (.cond
 (.t 4)
 (.seq
 (.reg
 [⟨(some 2),none,(.mv (.c (.int .i64 0)))⟩])
 .ret)
 .skip))
 (.seq
 (.reg
 [⟨(some 5),none,(.mv (.t 0))⟩,⟨(some 6),none,(.nil (.t 5))⟩,⟨(some 7),none,(.fa 1 (.t 6))⟩,⟨(some 8),none,(.ld .slc (.t 7))⟩,⟨(some 9),none,(.lens (.t 8))⟩,⟨(some 2),none,(.mv (.t 9))⟩])
 .ret)))
def ts_P_intern_Store_Len : List (Nat × Tr) := []
set_option maxRecDepth 100000 in
set_option maxHeartbeats 4000000 in
theorem ok_P_intern_Store_Len : irOf Tryz.prog fn_P_intern_Store_Len [] ts_P_intern_Store_Len = some (10,[(.t 2)],ir_P_intern_Store_Len) := by kernel_rfl
def ir_intern_New : C :=
 (.seq
 (.reg
 [⟨(some 2),none,(.mv (.c (.pointer none)))⟩])
 (.seq
 (.reg
 [⟨(some 3),none,(.mv (.t 0))⟩,⟨(some 4),none,(.call fn_length_Clip [(.t 3),(.c (.int .i64 0)),(.c (.int .i64 1048576))])⟩,⟨(some 5),none,(.mkm 5 (.agg [(.int .i64),(.int .u8),(.int .i64),(.int .i64),(.int .i64)]) none)⟩,⟨(some 6),none,(.bld [(.int .i64 0),(.slice none 0 0),(.map none)] [(0,(1,(.t 4))),(2,(1,(.t 5)))])⟩,⟨(some 7),none,(.box 7 ty_intern_Store (.t 6))⟩,⟨(some 2),none,(.mv (.t 7))⟩])
 .ret))
def ts_intern_New : List (Nat × Tr) := []
set_option maxRecDepth 100000 in
set_option maxHeartbeats 4000000 in
theorem ok_intern_New : irOf Tryz.prog fn_intern_New [] ts_intern_New = some (8,[(.t 2)],ir_intern_New) := by kernel_rfl
def ir_keys_New : C :=
 (.seq
 (.reg
 [⟨(some 2),none,(.mv (.c (.pointer none)))⟩])
 (.seq
 (.seq
 (.reg
 [⟨(some 3),none,(.mv (.t 0))⟩,⟨(some 4),none,(.eqn .ptr false (.t 3))⟩])
 (.cond
 (.t 4)
 (.seq
 (.reg
 [⟨(some 2),none,(.mv (.c (.pointer none)))⟩])
 .ret)
 .skip))
 (.seq
 (.reg
 [⟨(some 5),none,(.mv (.t 0))⟩,⟨(some 6),none,(.bld [(.pointer none),(.slice none 0 0)] [(0,(1,(.t 5)))])⟩,⟨(some 7),none,(.box 7 ty_keys_Table (.t 6))⟩,⟨(some 2),none,(.mv (.t 7))⟩])
 .ret)))
def ts_keys_New : List (Nat × Tr) := []
set_option maxRecDepth 100000 in
set_option maxHeartbeats 4000000 in
theorem ok_keys_New : irOf Tryz.prog fn_keys_New [] ts_keys_New = some (8,[(.t 2)],ir_keys_New) := by kernel_rfl
def ir_keys_after : C :=
 (.seq
 (.reg
 [⟨(some 6),none,(.mv (.c (.int .i64 0)))⟩])
 (.seq
 (.reg
 [⟨(some 11),none,(.mv (.t 0))⟩,⟨(some 12),none,(.dv false .i64 (.t 11) (.c (.int .i64 2)))⟩,⟨(some 13),none,(.ar .add .i64 (.t 12) (.c (.int .i64 1)))⟩,⟨(some 7),none,(.mv (.t 13))⟩])
 (.seq
 (.reg
 [⟨(some 14),none,(.mv (.t 7))⟩,⟨(some 15),none,(.ar .sub .i64 (.t 14) (.c (.int .i64 1)))⟩,⟨(some 16),none,(.dv true .i64 (.t 15) (.c (.int .i64 123)))⟩,⟨(some 8),none,(.mv (.t 16))⟩])
 (.seq
 (.seq
 (.reg
 [⟨(some 17),none,(.mv (.t 8))⟩,⟨(some 18),none,(.mv (.t 1))⟩,⟨(some 19),none,(.mv (.t 2))⟩,⟨(some 20),none,(.call fn_keys_fitting [(.t 17),(.t 18),(.t 19)])⟩,⟨(some 9),none,(.mv (.t 20))⟩])
 (.seq
 (.reg
 [⟨(some 21),none,(.mv (.t 9))⟩,⟨(some 22),none,(.cmp .geq .i64 (.t 21) (.c (.int .i64 0)))⟩])
 (.cond
 (.t 22)
 (.seq
 (.reg
 [⟨(some 23),none,(.mv (.t 7))⟩,⟨(some 24),none,(.mv (.t 9))⟩,⟨(some 25),none,(.ar .add .i64 (.t 23) (.t 24))⟩,⟨(some 26),none,(.mv (.t 8))⟩,⟨(some 27),none,(.ar .sub .i64 (.t 25) (.t 26))⟩,⟨(some 28),none,(.ar .mul .i64 (.c (.int .i64 2)) (.t 27))⟩,⟨(some 6),none,(.mv (.t 28))⟩])
 .ret)
 .skip)))
 (.seq
 (.seq
 (.reg
 [⟨(some 29),none,(.mv (.t 1))⟩,⟨(some 30),none,(.mv (.t 2))⟩,⟨(some 31),none,(.call fn_keys_fitting [(.c (.int .i64 0)),(.t 29),(.t 30)])⟩,⟨(some 10),none,(.mv (.t 31))⟩])
 (.seq
 (.reg
 [⟨(some 32),none,(.mv (.t 10))⟩,⟨(some 33),none,(.cmp .geq .i64 (.t 32) (.c (.int .i64 0)))⟩])
 (.cond
 (.t 33)
 (.seq
 (.reg
 [⟨(some 34),none,(.mv (.t 7))⟩,⟨(some 35),none,(.mv (.t 10))⟩,⟨(some 36),none,(.ar .add .i64 (.t 34) (.t 35))⟩,⟨(some 37),none,(.mv (.t 8))⟩,⟨(some 38),none,(.ar .sub .i64 (.t 36) (.t 37))⟩,⟨(some 39),none,(.ar .add .i64 (.t 38) (.c (.int .i64 123)))⟩,⟨(some 40),none,(.ar .mul .i64 (.c (.int .i64 2)) (.t 39))⟩,⟨(some 6),none,(.mv (.t 40))⟩])
 .ret)
 .skip)))
 (.seq
 (.reg
 [⟨(some 6),none,(.mv (.c (.int .i64 0)))⟩])
 .ret))))))
def ts_keys_after : List (Nat × Tr) := []
set_option maxRecDepth 100000 in
set_option maxHeartbeats 4000000 in
theorem ok_keys_after : irOf Tryz.prog fn_keys_after [] ts_keys_after = some (41,[(.t 6)],ir_keys_after) := by kernel_rfl
def ir_keys_number : C :=
 (.seq
 (.reg
 [⟨(some 2),none,(.mv (.c (.int .i64 0)))⟩,⟨(some 3),none,(.mv (.c (.bool false)))⟩])
 (.seq
 (.seq
 (.reg
 [⟨(some 4),none,(.mv (.t 0))⟩,⟨(some 5),none,(.cmp .lss .i64 (.t 4) (.c (.int .i64 2)))⟩,⟨(some 6),none,(.mv (.t 5))⟩,⟨(some 7),(some (6,false)),(.mv (.t 0))⟩,⟨(some 8),(some (6,false)),(.dv true .i64 (.t 7) (.c (.int .i64 2)))⟩,⟨(some 9),(some (6,false)),(.cmp .neq .i64 (.t 8) (.c (.int .i64 0)))⟩,⟨(some 10),none,(.pick (.t 6) (.c (.bool true)) (.t 9))⟩])
 (.cond
 (.t 10)
 (.seq
 (.reg
 [⟨(some 2),none,(.mv (.c (.int .i64 0)))⟩,⟨(some 3),none,(.mv (.c (.bool false)))⟩])
 .ret)
 .skip))
 (.seq
 (.reg
 [⟨(some 11),none,(.mv (.t 0))⟩,⟨(some 12),none,(.dv false .i64 (.t 11) (.c (.int .i64 2)))⟩,⟨(some 13),none,(.ar .sub .i64 (.t 12) (.c (.int .i64 1)))⟩,⟨(some 14),none,(.dv true .i64 (.t 13) (.c (.int .i64 123)))⟩,⟨(some 2),none,(.mv (.t 14))⟩,⟨(some 3),none,(.mv (.c (.bool true)))⟩])
 .ret)))
def ts_keys_number : List (Nat × Tr) := []
set_option maxRecDepth 100000 in
set_option maxHeartbeats 4000000 in
theorem ok_keys_number : irOf Tryz.prog fn_keys_number [] ts_keys_number = some (15,[(.t 2),(.t 3)],ir_keys_number) := by kernel_rfl
def ir_keys_Number : C :=
 (.seq
 (.reg
 [⟨(some 2),none,(.mv (.c (.int .i64 0)))⟩,⟨(some 3),none,(.mv (.c (.int .u64 0)))⟩,⟨(some 4),none,(.mv (.c (.bool false)))⟩])
 (.seq
 (.reg
 [⟨(some 8),none,(.mv (.t 0))⟩,⟨(some 9),none,(.call fn_keys_number [(.t 8)])⟩,⟨(some 7),none,(.mv (.t 9))⟩,⟨(some 10),none,(.ext (.t 7) 0)⟩,⟨(some 11),none,(.ext (.t 7) 1)⟩,⟨(some 5),none,(.mv (.t 10))⟩,⟨(some 6),none,(.mv (.t 11))⟩])
 (.seq
 (.blk
 0
 (.seq
 (.reg
 [⟨(some 13),none,(.mv (.t 6))⟩,⟨(some 14),none,(.not (.t 13))⟩,⟨(some 12),none,(.mv (.t 14))⟩])
 (.cond
 (.t 12)
 (.seq
 (.reg
 [⟨(some 2),none,(.mv (.c (.int .i64 0)))⟩,⟨(some 3),none,(.mv (.c (.int .u64 0)))⟩,⟨(some 4),none,(.mv (.c (.bool false)))⟩])
 .ret)
 (.seq
 (.reg
 [⟨(some 16),none,(.mv (.t 5))⟩,⟨(some 17),none,(.cmp .eql .i64 (.t 16) (.c (.int .i64 122)))⟩,⟨(some 15),none,(.mv (.t 17))⟩])
 (.cond
 (.t 15)
 (.seq
 (.reg
 [⟨(some 2),none,(.mv (.c (.int .i64 0)))⟩,⟨(some 3),none,(.mv (.c (.int .u64 0)))⟩,⟨(some 4),none,(.mv (.c (.bool true)))⟩])
 .ret)
 .skip)))))
 (.seq
 (.reg
 [⟨(some 18),none,(.mv (.t 5))⟩,⟨(some 19),none,(.dv false .i64 (.t 18) (.c (.int .i64 2)))⟩,⟨(some 20),none,(.mv (.t 5))⟩,⟨(some 21),none,(.dv true .i64 (.t 20) (.c (.int .i64 2)))⟩,⟨(some 22),none,(.cv .u64 (.t 21))⟩,⟨(some 2),none,(.mv (.t 19))⟩,⟨(some 3),none,(.mv (.t 22))⟩,⟨(some 4),none,(.mv (.c (.bool false)))⟩])
 .ret))))
def ts_keys_Number : List (Nat × Tr) := []
set_option maxRecDepth 100000 in
set_option maxHeartbeats 4000000 in
theorem ok_keys_Number : irOf Tryz.prog fn_keys_Number [] ts_keys_Number = some (23,[(.t 2),(.t 3),(.t 4)],ir_keys_Number) := by kernel_rfl
def ir_keys_fitting : C :=
 (.seq
 (.reg
 [⟨(some 6),none,(.mv (.c (.int .i64 0)))⟩])
 (.seq
 (.seq
 (.reg
 [⟨(some 9),none,(.mv (.t 1))⟩,⟨(some 10),none,(.mv (.t 2))⟩,⟨(some 11),none,(.cmp .eql .u64 (.t 9) (.t 10))⟩])
 (.cond
 (.t 11)
 (.seq
 (.reg
 [⟨(some 6),none,(.mv (.c (.int .i64 122)))⟩])
 .ret)
 .skip))
 (.seq
 (.seq
 (.reg
 [⟨(some 12),none,(.mv (.t 0))⟩,⟨(some 13),none,(.cmp .eql .i64 (.t 12) (.c (.int .i64 122)))⟩])
 (.cond
 (.t 13)
 (.seq
 (.reg
 [⟨(some 6),none,(.mv (.c (.int .i64 (-1))))⟩])
 .ret)
 .skip))
 (.seq
 (.reg
 [⟨(some 14),none,(.mv (.t 1))⟩,⟨(some 15),none,(.mv (.t 2))⟩,⟨(some 16),none,(.bit .xor .u64 (.t 14) (.t 15))⟩,⟨(some 17),none,(.bit .and .u64 (.t 16) (.c (.int .u64 2305843009213693951)))⟩,⟨(some 18),none,(.mv (.t 0))⟩,⟨(some 19),none,(.dv false .i64 (.t 18) (.c (.int .i64 2)))⟩,⟨(some 20),none,(.sh false .u64 (.t 17) (.t 19))⟩,⟨(some 21),none,(.mv (.t 0))⟩,⟨(some 22),none,(.dv false .i64 (.t 21) (.c (.int .i64 2)))⟩,⟨(some 23),none,(.sh true .u64 (.t 20) (.t 22))⟩,⟨(some 7),none,(.mv (.t 23))⟩])
 (.seq
 (.seq
 (.reg
 [⟨(some 24),none,(.mv (.t 0))⟩,⟨(some 25),none,(.dv true .i64 (.t 24) (.c (.int .i64 2)))⟩,⟨(some 26),none,(.cmp .eql .i64 (.t 25) (.c (.int .i64 1)))⟩,⟨(some 27),none,(.mv (.t 26))⟩,⟨(some 28),(some (27,true)),(.mv (.t 1))⟩,⟨(some 29),(some (27,true)),(.mv (.t 0))⟩,⟨(some 30),(some (27,true)),(.dv false .i64 (.t 29) (.c (.int .i64 2)))⟩,⟨(some 31),(some (27,true)),(.sh false .u64 (.t 28) (.t 30))⟩,⟨(some 32),(some (27,true)),(.bit .and .u64 (.t 31) (.c (.int .u64 1)))⟩,⟨(some 33),(some (27,true)),(.cmp .eql .u64 (.t 32) (.c (.int .u64 0)))⟩,⟨(some 34),none,(.pick (.t 27) (.t 33) (.c (.bool false)))⟩])
 (.cond
 (.t 34)
 (.reg
 [⟨(some 35),none,(.mv (.t 7))⟩,⟨(some 36),none,(.mv (.t 0))⟩,⟨(some 37),none,(.dv false .i64 (.t 36) (.c (.int .i64 2)))⟩,⟨(some 38),none,(.sh true .u64 (.c (.int .u64 1)) (.t 37))⟩,⟨(some 39),none,(.bit .andNot .u64 (.t 35) (.t 38))⟩,⟨(some 7),none,(.mv (.t 39))⟩])
 .skip))
 (.seq
 (.seq
 (.reg
 [⟨(some 40),none,(.mv (.t 7))⟩,⟨(some 41),none,(.cmp .eql .u64 (.t 40) (.c (.int .u64 0)))⟩])
 (.cond
 (.t 41)
 (.seq
 (.reg
 [⟨(some 6),none,(.mv (.c (.int .i64 (-1))))⟩])
 .ret)
 .skip))
 (.seq
 (.reg
 [⟨(some 42),none,(.mv (.t 7))⟩,⟨(some 43),none,(.call fn_math_bits_TrailingZeros64 [(.t 42)])⟩,⟨(some 8),none,(.mv (.t 43))⟩])
 (.seq
 (.reg
 [⟨(some 44),none,(.mv (.t 8))⟩,⟨(some 45),none,(.ar .mul .i64 (.c (.int .i64 2)) (.t 44))⟩,⟨(some 46),none,(.mv (.t 1))⟩,⟨(some 47),none,(.mv (.t 8))⟩,⟨(some 48),none,(.sh false .u64 (.t 46) (.t 47))⟩,⟨(some 49),none,(.bit .and .u64 (.t 48) (.c (.int .u64 1)))⟩,⟨(some 50),none,(.cv .i64 (.t 49))⟩,⟨(some 51),none,(.ar .add .i64 (.t 45) (.t 50))⟩,⟨(some 6),none,(.mv (.t 51))⟩])
 .ret))))))))
def ts_keys_fitting : List (Nat × Tr) := []
set_option maxRecDepth 100000 in
set_option maxHeartbeats 4000000 in
theorem ok_keys_fitting : irOf Tryz.prog fn_keys_fitting [] ts_keys_fitting = some (52,[(.t 6)],ir_keys_fitting) := by kernel_rfl
def ir_P_keys_Table_compute : C :=
 (.seq
 (.reg
 [⟨(some 3),none,(.box 3 ty_api_Rule (.t 1))⟩,⟨(some 4),none,(.alc 4 ty_keys_row [(.int .u64 0),(.int .i64 0),(.bool false)])⟩])
 (.seq
 (.drw
 [⟨(some 8),none,(.mv (.t 0))⟩,⟨(some 9),none,(.nil (.t 8))⟩,⟨(some 10),none,(.fa 1 (.t 9))⟩,⟨(some 11),none,(.ld .slc (.t 10))⟩,⟨(some 12),none,(.fa 2 (.t 3))⟩,⟨(some 13),none,(.ld (.int .i64) (.t 12))⟩,⟨(some 14),none,(.ia 3 (.t 11) (.t 13))⟩,⟨(some 15),none,(.lda 3 [(.int .u64),(.int .i64),.bool] (.t 14))⟩,⟨(some 16),none,(.mv (.t 0))⟩,⟨(some 17),none,(.nil (.t 16))⟩,⟨(some 18),none,(.fa 1 (.t 17))⟩,⟨(some 19),none,(.ld .slc (.t 18))⟩,⟨(some 20),none,(.fa 3 (.t 3))⟩,⟨(some 21),none,(.ld (.int .i64) (.t 20))⟩,⟨(some 22),none,(.ia 3 (.t 19) (.t 21))⟩,⟨(some 23),none,(.lda 3 [(.int .u64),(.int .i64),.bool] (.t 22))⟩,⟨(some 5),none,(.alc 5 ty_keys_row [(.int .u64 0),(.int .i64 0),(.bool false)])⟩,⟨(some 6),none,(.alc 6 ty_keys_row [(.int .u64 0),(.int .i64 0),(.bool false)])⟩,⟨none,none,(.st 3 (.t 5) (.t 15))⟩,⟨none,none,(.st 3 (.t 6) (.t 23))⟩]
 (.mov 0 (.take 1 (.take 2 (.take 3 (.take 4 (.take 5 (.take 6 (.take 7 (.mov 8 (.take 9 (.take 10 (.take 11 (.take 12 (.take 13 (.take 14 (.take 15 (.alt 16 true (.alt 17 true (.alt 18 true (.bar 19 .done) .nil) .nil) (.alt 17 true (.alt 16 true (.alt 18 true (.bar 19 .done) .nil) .nil) .nil)))))))))))))))))))
 (.seq
 (.reg
 [⟨(some 24),none,(.bld [(.int .u64 0),(.int .i64 0),(.bool false)] [(1,(1,(.c (.int .i64 (-1))))),(2,(1,(.c (.bool true))))])⟩,⟨(some 7),none,(.alc 7 ty_keys_row [(.int .u64 0),(.int .i64 0),(.bool false)])⟩,⟨none,none,(.st 3 (.t 7) (.t 24))⟩])
 (.seq
 (.seq
 (.reg
 [⟨(some 25),none,(.fa 0 (.t 3))⟩,⟨(some 26),none,(.ld (.int .i64) (.t 25))⟩])
 (.blk
 0
 (.seq
 (.reg
 [⟨(some 28),none,(.cmp .eql .i64 (.t 26) (.c (.int .i64 1)))⟩,⟨(some 27),none,(.mv (.t 28))⟩])
 (.cond
 (.t 27)
 (.seq
 (.reg
 [⟨(some 29),none,(.fa 1 (.t 3))⟩,⟨(some 30),none,(.ld (.int .u8) (.t 29))⟩,⟨(some 31),none,(.cv .u64 (.t 30))⟩,⟨(some 32),none,(.call fn_modular_Mix [(.c (.int .u64 1)),(.t 31),(.c (.int .u64 0))])⟩,⟨(some 33),none,(.fa 0 (.t 7))⟩,⟨none,none,(.st 1 (.t 33) (.t 32))⟩])
 (.reg
 [⟨(some 34),none,(.fa 1 (.t 7))⟩,⟨none,none,(.st 1 (.t 34) (.c (.int .i64 0)))⟩]))
 (.seq
 (.reg
 [⟨(some 36),none,(.cmp .eql .i64 (.t 26) (.c (.int .i64 2)))⟩,⟨(some 35),none,(.mv (.t 36))⟩])
 (.cond
 (.t 35)
 (.seq
 (.reg
 [⟨(some 37),none,(.fa 0 (.t 5))⟩,⟨(some 38),none,(.ld (.int .u64) (.t 37))⟩,⟨(some 39),none,(.fa 0 (.t 6))⟩,⟨(some 40),none,(.ld (.int .u64) (.t 39))⟩,⟨(some 41),none,(.call fn_modular_Mix [(.c (.int .u64 2)),(.t 38),(.t 40)])⟩,⟨(some 42),none,(.fa 0 (.t 7))⟩,⟨none,none,(.st 1 (.t 42) (.t 41))⟩])
 (.seq
 (.reg
 [⟨(some 43),none,(.fa 2 (.t 3))⟩,⟨(some 44),none,(.ld (.int .i64) (.t 43))⟩,⟨(some 45),none,(.fa 3 (.t 3))⟩,⟨(some 46),none,(.ld (.int .i64) (.t 45))⟩,⟨(some 47),none,(.cmp .neq .i64 (.t 44) (.t 46))⟩,⟨(some 48),none,(.mv (.t 47))⟩,⟨(some 49),(some (48,true)),(.fa 1 (.t 5))⟩,⟨(some 50),(some (48,true)),(.ld (.int .i64) (.t 49))⟩,⟨(some 51),(some (48,true)),(.cmp .geq .i64 (.t 50) (.c (.int .i64 0)))⟩,⟨(some 52),none,(.pick (.t 48) (.t 51) (.c (.bool false)))⟩,⟨(some 53),none,(.mv (.t 52))⟩,⟨(some 54),(some (53,true)),(.fa 1 (.t 6))⟩,⟨(some 55),(some (53,true)),(.ld (.int .i64) (.t 54))⟩,⟨(some 56),(some (53,true)),(.cmp .geq .i64 (.t 55) (.c (.int .i64 0)))⟩,⟨(some 57),none,(.pick (.t 53) (.t 56) (.c (.bool false)))⟩])
 (.cond
 (.t 57)
 (.reg
 [⟨(some 58),none,(.fa 1 (.t 5))⟩,⟨(some 59),none,(.ld (.int .i64) (.t 58))⟩,⟨(some 60),none,(.fa 1 (.t 6))⟩,⟨(some 61),none,(.ld (.int .i64) (.t 60))⟩,⟨(some 62),none,(.mm true .i64 (.t 59) (.t 61))⟩,⟨(some 63),none,(.fa 0 (.t 5))⟩,⟨(some 64),none,(.ld (.int .u64) (.t 63))⟩,⟨(some 65),none,(.fa 0 (.t 6))⟩,⟨(some 66),none,(.ld (.int .u64) (.t 65))⟩,⟨(some 67),none,(.call fn_keys_after [(.t 62),(.t 64),(.t 66)])⟩,⟨(some 68),none,(.fa 1 (.t 7))⟩,⟨none,none,(.st 1 (.t 68) (.t 67))⟩])
 .skip)))
 (.seq
 (.reg
 [⟨(some 70),none,(.cmp .eql .i64 (.t 26) (.c (.int .i64 3)))⟩,⟨(some 69),none,(.mv (.t 70))⟩])
 (.cond
 (.t 69)
 (.seq
 (.reg
 [⟨(some 71),none,(.fa 0 (.t 5))⟩,⟨(some 72),none,(.ld (.int .u64) (.t 71))⟩,⟨(some 73),none,(.fa 4 (.t 3))⟩,⟨(some 74),none,(.ld (.int .i64) (.t 73))⟩,⟨(some 75),none,(.cv .u64 (.t 74))⟩,⟨(some 76),none,(.call fn_modular_Mix [(.c (.int .u64 3)),(.t 72),(.t 75)])⟩,⟨(some 77),none,(.fa 0 (.t 7))⟩,⟨none,none,(.st 1 (.t 77) (.t 76))⟩])
 (.seq
 (.reg
 [⟨(some 78),none,(.fa 1 (.t 5))⟩,⟨(some 79),none,(.ld (.int .i64) (.t 78))⟩,⟨(some 80),none,(.cmp .geq .i64 (.t 79) (.c (.int .i64 0)))⟩,⟨(some 81),none,(.mv (.t 80))⟩,⟨(some 82),(some (81,true)),(.fa 1 (.t 5))⟩,⟨(some 83),(some (81,true)),(.ld (.int .i64) (.t 82))⟩,⟨(some 84),(some (81,true)),(.dv true .i64 (.t 83) (.c (.int .i64 2)))⟩,⟨(some 85),(some (81,true)),(.cmp .eql .i64 (.t 84) (.c (.int .i64 0)))⟩,⟨(some 86),none,(.pick (.t 81) (.t 85) (.c (.bool false)))⟩])
 (.cond
 (.t 86)
 (.reg
 [⟨(some 87),none,(.fa 1 (.t 5))⟩,⟨(some 88),none,(.ld (.int .i64) (.t 87))⟩,⟨(some 89),none,(.ar .add .i64 (.t 88) (.c (.int .i64 1)))⟩,⟨(some 90),none,(.fa 1 (.t 7))⟩,⟨none,none,(.st 1 (.t 90) (.t 89))⟩])
 .skip)))
 .skip))))))))
 (.seq
 (.reg
 [⟨(some 91),none,(.lda 3 [(.int .u64),(.int .i64),.bool] (.t 7))⟩,⟨none,none,(.st 3 (.t 4) (.t 91))⟩])
 .ret)))))
def ts_P_keys_Table_compute : List (Nat × Tr) := [(1,(.mov 0 (.take 1 (.take 2 (.take 3 (.take 4 (.take 5 (.take 6 (.take 7 (.mov 8 (.take 9 (.take 10 (.take 11 (.take 12 (.take 13 (.take 14 (.take 15 (.alt 16 true (.alt 17 true (.alt 18 true (.bar 19 .done) .nil) .nil) (.alt 17 true (.alt 16 true (.alt 18 true (.bar 19 .done) .nil) .nil) .nil)))))))))))))))))))]
set_option maxRecDepth 100000 in
set_option maxHeartbeats 4000000 in
theorem ok_P_keys_Table_compute : irOf Tryz.prog fn_P_keys_Table_compute [] ts_P_keys_Table_compute = some (92,[(.c 4 3)],ir_P_keys_Table_compute) := by kernel_rfl
def ir_P_keys_Table_row : C :=
 (.seq
 (.reg
 [⟨(some 4),none,(.alc 4 ty_keys_row [(.int .u64 0),(.int .i64 0),(.bool false)])⟩,⟨(some 5),none,(.mv (.c .nilIface))⟩])
 (.seq
 (.seq
 (.reg
 [⟨(some 10),none,(.mv (.t 0))⟩,⟨(some 11),none,(.eqn .ptr false (.t 10))⟩,⟨(some 12),none,(.mv (.t 11))⟩,⟨(some 13),(some (12,false)),(.mv (.t 0))⟩,⟨(some 14),(some (12,false)),(.nil (.t 13))⟩,⟨(some 15),(some (12,false)),(.fa 0 (.t 14))⟩,⟨(some 16),(some (12,false)),(.ld .ptr (.t 15))⟩,⟨(some 17),(some (12,false)),(.eqn .ptr false (.t 16))⟩,⟨(some 18),none,(.pick (.t 12) (.c (.bool true)) (.t 17))⟩])
 (.cond
 (.t 18)
 (.seq
 (.reg
 [⟨(some 19),none,(.bld [(.int .u64 0),(.int .i64 0),(.bool false)] [])⟩,⟨(some 20),none,(.mki ty_api_Errno (.c (.int .i64 5)))⟩,⟨none,none,(.st 3 (.t 4) (.t 19))⟩,⟨(some 5),none,(.mv (.t 20))⟩])
 .ret)
 .skip))
 (.seq
 (.seq
 (.reg
 [⟨(some 21),none,(.mv (.t 1))⟩,⟨(some 22),none,(.cmp .lss .i64 (.t 21) (.c (.int .i64 1)))⟩,⟨(some 23),none,(.mv (.t 22))⟩,⟨(some 24),(some (23,false)),(.mv (.t 1))⟩,⟨(some 25),(some (23,false)),(.mv (.t 0))⟩,⟨(some 26),(some (23,false)),(.nil (.t 25))⟩,⟨(some 27),(some (23,false)),(.fa 0 (.t 26))⟩,⟨(some 28),(some (23,false)),(.ld .ptr (.t 27))⟩,⟨(some 29),(some (23,false)),(.call fn_P_intern_Store_Len [(.t 28)])⟩,⟨(some 30),(some (23,false)),(.cmp .gtr .i64 (.t 24) (.t 29))⟩,⟨(some 31),none,(.pick (.t 23) (.c (.bool true)) (.t 30))⟩])
 (.cond
 (.t 31)
 (.seq
 (.reg
 [⟨(some 32),none,(.bld [(.int .u64 0),(.int .i64 0),(.bool false)] [])⟩,⟨(some 33),none,(.mki ty_api_Errno (.c (.int .i64 1)))⟩,⟨none,none,(.st 3 (.t 4) (.t 32))⟩,⟨(some 5),none,(.mv (.t 33))⟩])
 .ret)
 .skip))
 (.cut
 (.seq
 (.reg
 [⟨(some 34),none,(.mv (.t 1))⟩,⟨(some 35),none,(.mv (.t 0))⟩,⟨(some 36),none,(.nil (.t 35))⟩,⟨(some 37),none,(.fa 1 (.t 36))⟩,⟨(some 38),none,(.ld .slc (.t 37))⟩,⟨(some 39),none,(.lens (.t 38))⟩,⟨(some 40),none,(.cmp .geq .i64 (.t 34) (.t 39))⟩])
 (.cond
 (.t 40)
 (.drw
 [⟨(some 41),none,(.mv (.t 0))⟩,⟨(some 42),none,(.mv (.t 0))⟩,⟨(some 43),none,(.nil (.t 42))⟩,⟨(some 44),none,(.fa 1 (.t 43))⟩,⟨(some 45),none,(.ld .slc (.t 44))⟩,⟨(some 46),none,(.mv (.t 1))⟩,⟨(some 47),none,(.ar .add .i64 (.t 46) (.c (.int .i64 1)))⟩,⟨(some 48),none,(.mv (.t 0))⟩,⟨(some 49),none,(.nil (.t 48))⟩,⟨(some 50),none,(.fa 1 (.t 49))⟩,⟨(some 51),none,(.ld .slc (.t 50))⟩,⟨(some 52),none,(.lens (.t 51))⟩,⟨(some 53),none,(.ar .sub .i64 (.t 47) (.t 52))⟩,⟨(some 54),none,(.apz 54 ty_keys_row 3 24 [(.int .u64 0),(.int .i64 0),(.bool false)] (.t 45) (.t 53))⟩,⟨(some 55),none,(.nil (.t 41))⟩,⟨(some 56),none,(.fa 1 (.t 55))⟩,⟨none,none,(.st 1 (.t 56) (.t 54))⟩]
 (.mov 0 (.mov 1 (.take 2 (.take 3 (.take 4 (.mov 5 (.take 6 (.mov 7 (.take 8 (.take 9 (.take 10 (.take 11 (.take 12 (.bar 13 (.take 14 (.take 15 (.bar 16 .done))))))))))))))))))
 .skip))
 (.seq
 (.reg
 [⟨(some 6),none,(.mv (.c (.slice none 0 0)))⟩])
 (.cut
 (.seq
 (.reg
 [⟨(some 57),none,(.mv (.t 0))⟩,⟨(some 58),none,(.nil (.t 57))⟩,⟨(some 59),none,(.fa 1 (.t 58))⟩,⟨(some 60),none,(.ld .slc (.t 59))⟩,⟨(some 61),none,(.mv (.t 1))⟩,⟨(some 62),none,(.ia 3 (.t 60) (.t 61))⟩,⟨(some 63),none,(.fa 2 (.t 62))⟩,⟨(some 64),none,(.ld .bool (.t 63))⟩,⟨(some 65),none,(.not (.t 64))⟩])
 (.cond
 (.t 65)
 (.reg
 [⟨(some 66),none,(.mv (.t 6))⟩,⟨(some 67),none,(.mv (.t 1))⟩,⟨(some 68),none,(.bsl 68 ty_api_ID 1 1 [(.int .i64 0)] [(0,(1,(.t 67)))])⟩,⟨(some 69),none,(.app 69 ty_api_ID 1 8 (.t 66) (.t 68))⟩,⟨(some 6),none,(.mv (.t 69))⟩])
 .skip))
 (.seq
 (.blk
 0
 (.loop
 (.seq
 (.seq
 (.reg
 [⟨(some 70),none,(.mv (.t 6))⟩,⟨(some 71),none,(.lens (.t 70))⟩,⟨(some 72),none,(.cmp .gtr .i64 (.t 71) (.c (.int .i64 0)))⟩])
 (.cond
 (.t 72)
 .skip
 (.exit 0)))
 (.blk
 1
 (.seq
 (.reg
 [⟨(some 73),none,(.mv (.t 6))⟩,⟨(some 74),none,(.mv (.t 6))⟩,⟨(some 75),none,(.lens (.t 74))⟩,⟨(some 76),none,(.ar .sub .i64 (.t 75) (.c (.int .i64 1)))⟩,⟨(some 77),none,(.ia 1 (.t 73) (.t 76))⟩,⟨(some 78),none,(.ld (.int .i64) (.t 77))⟩,⟨(some 7),none,(.mv (.t 78))⟩])
 (.seq
 (.reg
 [⟨(some 80),none,(.mv (.t 0))⟩,⟨(some 81),none,(.nil (.t 80))⟩,⟨(some 82),none,(.fa 0 (.t 81))⟩,⟨(some 83),none,(.ld .ptr (.t 82))⟩,⟨(some 84),none,(.mv (.t 7))⟩,⟨(some 85),none,(.call fn_P_intern_Store_Rule [(.t 83),(.t 84)])⟩,⟨(some 79),none,(.mv (.t 85))⟩,⟨(some 86),none,(.ext (.t 79) 0)⟩,⟨(some 87),none,(.ext (.t 79) 1)⟩,⟨(some 8),none,(.alc 8 ty_api_Rule [(.int .i64 0),(.int .u8 0),(.int .i64 0),(.int .i64 0),(.int .i64 0)])⟩,⟨none,none,(.st 5 (.t 8) (.t 86))⟩,⟨(some 9),none,(.mv (.t 87))⟩])
 (.seq
 (.seq
 (.reg
 [⟨(some 88),none,(.mv (.t 9))⟩,⟨(some 89),none,(.eqn .ifc true (.t 88))⟩])
 (.cond
 (.t 89)
 (.seq
 (.reg
 [⟨(some 90),none,(.bld [(.int .u64 0),(.int .i64 0),(.bool false)] [])⟩,⟨(some 91),none,(.mv (.t 9))⟩,⟨none,none,(.st 3 (.t 4) (.t 90))⟩,⟨(some 5),none,(.mv (.t 91))⟩])
 .ret)
 .skip))
 (.blk
 2
 (.seq
 (.drw
 [⟨(some 107),none,(.fa 2 (.t 8))⟩,⟨(some 108),none,(.ld (.int .i64) (.t 107))⟩,⟨(some 109),none,(.cmp .neq .i64 (.t 108) (.c (.int .i64 0)))⟩,⟨(some 110),none,(.mv (.t 109))⟩,⟨(some 111),(some (110,true)),(.mv (.t 0))⟩,⟨(some 112),(some (110,true)),(.nil (.t 111))⟩,⟨(some 113),(some (110,true)),(.fa 1 (.t 112))⟩,⟨(some 114),(some (110,true)),(.ld .slc (.t 113))⟩,⟨(some 115),(some (110,true)),(.fa 2 (.t 8))⟩,⟨(some 116),(some (110,true)),(.ld (.int .i64) (.t 115))⟩,⟨(some 117),(some (110,true)),(.ia 3 (.t 114) (.t 116))⟩,⟨(some 118),(some (110,true)),(.fa 2 (.t 117))⟩,⟨(some 119),(some (110,true)),(.ld .bool (.t 118))⟩,⟨(some 120),(some (110,true)),(.not (.t 119))⟩,⟨(some 121),none,(.pick (.t 110) (.t 120) (.c (.bool false)))⟩,⟨(some 106),none,(.mv (.t 121))⟩]
 (.take 0 (.take 1 (.take 2 (.mov 3 (.mov 4 (.take 5 (.take 6 (.take 7 (.take 8 (.take 9 (.take 10 (.take 11 (.take 12 (.take 13 (.take 14 (.mov 15 .done)))))))))))))))))
 (.cond
 (.t 106)
 (.reg
 [⟨(some 122),none,(.mv (.t 6))⟩,⟨(some 123),none,(.fa 2 (.t 8))⟩,⟨(some 124),none,(.ld (.int .i64) (.t 123))⟩,⟨(some 125),none,(.bsl 125 ty_api_ID 1 1 [(.int .i64 0)] [(0,(1,(.t 124)))])⟩,⟨(some 126),none,(.app 126 ty_api_ID 1 8 (.t 122) (.t 125))⟩,⟨(some 6),none,(.mv (.t 126))⟩])
 (.seq
 (.drw
 [⟨(some 128),none,(.fa 3 (.t 8))⟩,⟨(some 129),none,(.ld (.int .i64) (.t 128))⟩,⟨(some 130),none,(.cmp .neq .i64 (.t 129) (.c (.int .i64 0)))⟩,⟨(some 131),none,(.mv (.t 130))⟩,⟨(some 132),(some (131,true)),(.mv (.t 0))⟩,⟨(some 133),(some (131,true)),(.nil (.t 132))⟩,⟨(some 134),(some (131,true)),(.fa 1 (.t 133))⟩,⟨(some 135),(some (131,true)),(.ld .slc (.t 134))⟩,⟨(some 136),(some (131,true)),(.fa 3 (.t 8))⟩,⟨(some 137),(some (131,true)),(.ld (.int .i64) (.t 136))⟩,⟨(some 138),(some (131,true)),(.ia 3 (.t 135) (.t 137))⟩,⟨(some 139),(some (131,true)),(.fa 2 (.t 138))⟩,⟨(some 140),(some (131,true)),(.ld .bool (.t 139))⟩,⟨(some 141),(some (131,true)),(.not (.t 140))⟩,⟨(some 142),none,(.pick (.t 131) (.t 141) (.c (.bool false)))⟩,⟨(some 127),none,(.mv (.t 142))⟩]
 (.take 0 (.take 1 (.take 2 (.mov 3 (.mov 4 (.take 5 (.take 6 (.take 7 (.take 8 (.take 9 (.take 10 (.take 11 (.take 12 (.take 13 (.take 14 (.mov 15 .done)))))))))))))))))
 (.cond
 (.t 127)
 (.reg
 [⟨(some 143),none,(.mv (.t 6))⟩,⟨(some 144),none,(.fa 3 (.t 8))⟩,⟨(some 145),none,(.ld (.int .i64) (.t 144))⟩,⟨(some 146),none,(.bsl 146 ty_api_ID 1 1 [(.int .i64 0)] [(0,(1,(.t 145)))])⟩,⟨(some 147),none,(.app 147 ty_api_ID 1 8 (.t 143) (.t 146))⟩,⟨(some 6),none,(.mv (.t 147))⟩])
 (.seq
 (.drw
 [⟨(some 92),none,(.mv (.t 0))⟩,⟨(some 93),none,(.nil (.t 92))⟩,⟨(some 94),none,(.fa 1 (.t 93))⟩,⟨(some 95),none,(.ld .slc (.t 94))⟩,⟨(some 96),none,(.mv (.t 7))⟩,⟨(some 97),none,(.mv (.t 0))⟩,⟨(some 98),none,(.lda 5 [(.int .i64),(.int .u8),(.int .i64),(.int .i64),(.int .i64)] (.t 8))⟩,⟨(some 99),none,(.call fn_P_keys_Table_compute [(.t 97),(.t 98)])⟩,⟨(some 100),none,(.ia 3 (.t 95) (.t 96))⟩,⟨none,none,(.st 3 (.t 100) (.t 99))⟩]
 (.mov 0 (.take 1 (.take 2 (.take 3 (.mov 4 (.mov 5 (.take 6 (.alt 7 true (.take 8 (.bar 9 .done)) .nil)))))))))
 (.reg
 [⟨(some 101),none,(.mv (.t 6))⟩,⟨(some 102),none,(.mv (.t 6))⟩,⟨(some 103),none,(.lens (.t 102))⟩,⟨(some 104),none,(.ar .sub .i64 (.t 103) (.c (.int .i64 1)))⟩,⟨(some 105),none,(.slo 1 (.t 101) (some (.t 104)))⟩,⟨(some 6),none,(.mv (.t 105))⟩]))))))))))))))
 (.seq
 (.reg
 [⟨(some 148),none,(.mv (.t 0))⟩,⟨(some 149),none,(.nil (.t 148))⟩,⟨(some 150),none,(.fa 1 (.t 149))⟩,⟨(some 151),none,(.ld .slc (.t 150))⟩,⟨(some 152),none,(.mv (.t 1))⟩,⟨(some 153),none,(.ia 3 (.t 151) (.t 152))⟩,⟨(some 154),none,(.lda 3 [(.int .u64),(.int .i64),.bool] (.t 153))⟩,⟨none,none,(.st 3 (.t 4) (.t 154))⟩,⟨(some 5),none,(.mv (.c .nilIface))⟩])
 .ret))))))))
def ts_P_keys_Table_row : List (Nat × Tr) := [(6,(.mov 0 (.mov 1 (.take 2 (.take 3 (.take 4 (.mov 5 (.take 6 (.mov 7 (.take 8 (.take 9 (.take 10 (.take 11 (.take 12 (.bar 13 (.take 14 (.take 15 (.bar 16 .done)))))))))))))))))),(17,(.take 0 (.take 1 (.take 2 (.mov 3 (.mov 4 (.take 5 (.take 6 (.take 7 (.take 8 (.take 9 (.take 10 (.take 11 (.take 12 (.take 13 (.take 14 (.mov 15 .done))))))))))))))))),(19,(.take 0 (.take 1 (.take 2 (.mov 3 (.mov 4 (.take 5 (.take 6 (.take 7 (.take 8 (.take 9 (.take 10 (.take 11 (.take 12 (.take 13 (.take 14 (.mov 15 .done))))))))))))))))),(15,(.mov 0 (.take 1 (.take 2 (.take 3 (.mov 4 (.mov 5 (.take 6 (.alt 7 true (.take 8 (.bar 9 .done)) .nil)))))))))]
set_option maxRecDepth 100000 in
set_option maxHeartbeats 4000000 in
theorem ok_P_keys_Table_row : irOf Tryz.prog fn_P_keys_Table_row [105,1000006,1000070] ts_P_keys_Table_row = some (155,[(.c 4 3),(.t 5)],ir_P_keys_Table_row) := by kernel_rfl
def ir_P_keys_Table_Key : C :=
 (.seq
 (.reg
 [⟨(some 4),none,(.mv (.c (.int .u64 0)))⟩,⟨(some 5),none,(.mv (.c .nilIface))⟩])
 (.seq
 (.reg
 [⟨(some 9),none,(.mv (.t 0))⟩,⟨(some 10),none,(.mv (.t 1))⟩,⟨(some 11),none,(.call fn_P_keys_Table_row [(.t 9),(.t 10)])⟩,⟨(some 8),none,(.mv (.t 11))⟩,⟨(some 12),none,(.ext (.t 8) 0)⟩,⟨(some 13),none,(.ext (.t 8) 1)⟩,⟨(some 6),none,(.alc 6 ty_keys_row [(.int .u64 0),(.int .i64 0),(.bool false)])⟩,⟨none,none,(.st 3 (.t 6) (.t 12))⟩,⟨(some 7),none,(.mv (.t 13))⟩])
 (.seq
 (.seq
 (.reg
 [⟨(some 14),none,(.mv (.t 7))⟩,⟨(some 15),none,(.eqn .ifc true (.t 14))⟩])
 (.cond
 (.t 15)
 (.seq
 (.reg
 [⟨(some 16),none,(.mv (.t 7))⟩,⟨(some 4),none,(.mv (.c (.int .u64 0)))⟩,⟨(some 5),none,(.mv (.t 16))⟩])
 .ret)
 .skip))
 (.seq
 (.reg
 [⟨(some 17),none,(.fa 0 (.t 6))⟩,⟨(some 18),none,(.ld (.int .u64) (.t 17))⟩,⟨(some 4),none,(.mv (.t 18))⟩,⟨(some 5),none,(.mv (.c .nilIface))⟩])
 .ret))))
def ts_P_keys_Table_Key : List (Nat × Tr) := []
set_option maxRecDepth 100000 in
set_option maxHeartbeats 4000000 in
theorem ok_P_keys_Table_Key : irOf Tryz.prog fn_P_keys_Table_Key [] ts_P_keys_Table_Key = some (19,[(.t 4),(.t 5)],ir_P_keys_Table_Key) := by kernel_rfl
def ir_P_keys_Table_Level : C :=
 (.seq
 (.reg
 [⟨(some 4),none,(.mv (.c (.int .i64 0)))⟩,⟨(some 5),none,(.mv (.c .nilIface))⟩])
 (.seq
 (.reg
 [⟨(some 9),none,(.mv (.t 0))⟩,⟨(some 10),none,(.mv (.t 1))⟩,⟨(some 11),none,(.call fn_P_keys_Table_row [(.t 9),(.t 10)])⟩,⟨(some 8),none,(.mv (.t 11))⟩,⟨(some 12),none,(.ext (.t 8) 0)⟩,⟨(some 13),none,(.ext (.t 8) 1)⟩,⟨(some 6),none,(.alc 6 ty_keys_row [(.int .u64 0),(.int .i64 0),(.bool false)])⟩,⟨none,none,(.st 3 (.t 6) (.t 12))⟩,⟨(some 7),none,(.mv (.t 13))⟩])
 (.seq
 (.seq
 (.reg
 [⟨(some 14),none,(.mv (.t 7))⟩,⟨(some 15),none,(.eqn .ifc true (.t 14))⟩])
 (.cond
 (.t 15)
 (.seq
 (.reg
 [⟨(some 16),none,(.mv (.t 7))⟩,⟨(some 4),none,(.mv (.c (.int .i64 0)))⟩,⟨(some 5),none,(.mv (.t 16))⟩])
 .ret)
 .skip))
 (.seq
 (.seq
 (.reg
 [⟨(some 17),none,(.fa 1 (.t 6))⟩,⟨(some 18),none,(.ld (.int .i64) (.t 17))⟩,⟨(some 19),none,(.cmp .lss .i64 (.t 18) (.c (.int .i64 0)))⟩])
 (.cond
 (.t 19)
 (.seq
 (.reg
 [⟨(some 20),none,(.mki ty_api_Errno (.c (.int .i64 4)))⟩,⟨(some 4),none,(.mv (.c (.int .i64 0)))⟩,⟨(some 5),none,(.mv (.t 20))⟩])
 .ret)
 .skip))
 (.seq
 (.reg
 [⟨(some 21),none,(.fa 1 (.t 6))⟩,⟨(some 22),none,(.ld (.int .i64) (.t 21))⟩,⟨(some 4),none,(.mv (.t 22))⟩,⟨(some 5),none,(.mv (.c .nilIface))⟩])
 .ret)))))
def ts_P_keys_Table_Level : List (Nat × Tr) := []
set_option maxRecDepth 100000 in
set_option maxHeartbeats 4000000 in
theorem ok_P_keys_Table_Level : irOf Tryz.prog fn_P_keys_Table_Level [] ts_P_keys_Table_Level = some (23,[(.t 4),(.t 5)],ir_P_keys_Table_Level) := by kernel_rfl
def ir_levels_Runs : C :=
 (.seq
 (.reg
 [⟨(some 2),none,(.mv (.c (.slice none 0 0)))⟩])
 (.seq
 (.reg
 [⟨(some 3),none,(.mv (.c (.slice none 0 0)))⟩])
 (.seq
 (.seq
 (.reg
 [⟨(some 6),none,(.mv (.t 0))⟩,⟨(some 7),none,(.lens (.t 6))⟩,⟨(some 8),none,(.mv (.c (.int .i64 0)))⟩])
 (.blk
 0
 (.loop
 (.seq
 (.reg
 [⟨(some 9),none,(.cmp .lss .i64 (.t 8) (.t 7))⟩])
 (.seq
 (.cond
 (.t 9)
 .skip
 (.exit 0))
 (.seq
 (.blk
 1
 (.seq
 (.reg
 [⟨(some 10),none,(.mv (.t 8))⟩,⟨(some 11),none,(.ia 1 (.t 6) (.t 8))⟩,⟨(some 12),none,(.ld (.int .i64) (.t 11))⟩,⟨(some 4),none,(.mv (.t 10))⟩,⟨(some 5),none,(.mv (.t 12))⟩])
 (.seq
 (.seq
 (.reg
 [⟨(some 13),none,(.mv (.t 4))⟩,⟨(some 14),none,(.cmp .eql .i64 (.t 13) (.c (.int .i64 0)))⟩,⟨(some 15),none,(.mv (.t 14))⟩,⟨(some 16),(some (15,false)),(.mv (.t 0))⟩,⟨(some 17),(some (15,false)),(.mv (.t 4))⟩,⟨(some 18),(some (15,false)),(.ar .sub .i64 (.t 17) (.c (.int .i64 1)))⟩,⟨(some 19),(some (15,false)),(.ia 1 (.t 16) (.t 18))⟩,⟨(some 20),(some (15,false)),(.ld (.int .i64) (.t 19))⟩,⟨(some 21),(some (15,false)),(.mv (.t 5))⟩,⟨(some 22),(some (15,false)),(.cmp .neq .i64 (.t 20) (.t 21))⟩,⟨(some 23),none,(.pick (.t 15) (.c (.bool true)) (.t 22))⟩])
 (.cond
 (.t 23)
 (.reg
 [⟨(some 24),none,(.mv (.t 3))⟩,⟨(some 25),none,(.mv (.t 5))⟩,⟨(some 26),none,(.bld [(.int .i64 0),(.int .i64 0)] [(0,(1,(.t 25)))])⟩,⟨(some 27),none,(.bsl 27 ty_api_Group 2 1 [(.int .i64 0),(.int .i64 0)] [(0,(2,(.t 26)))])⟩,⟨(some 28),none,(.app 28 ty_api_Group 2 16 (.t 24) (.t 27))⟩,⟨(some 3),none,(.mv (.t 28))⟩])
 .skip))
 (.reg
 [⟨(some 29),none,(.mv (.t 3))⟩,⟨(some 30),none,(.mv (.t 3))⟩,⟨(some 31),none,(.lens (.t 30))⟩,⟨(some 32),none,(.ar .sub .i64 (.t 31) (.c (.int .i64 1)))⟩,⟨(some 33),none,(.ia 2 (.t 29) (.t 32))⟩,⟨(some 34),none,(.fa 1 (.t 33))⟩,⟨(some 35),none,(.ld (.int .i64) (.t 34))⟩,⟨(some 36),none,(.ar .add .i64 (.t 35) (.c (.int .i64 1)))⟩,⟨(some 37),none,(.ia 2 (.t 29) (.t 32))⟩,⟨(some 38),none,(.fa 1 (.t 37))⟩,⟨none,none,(.st 1 (.t 38) (.t 36))⟩]))))
 (.reg
 [⟨(some 39),none,(.ar .add .i64 (.t 8) (.c (.int .i64 1)))⟩,⟨(some 8),none,(.mv (.t 39))⟩])))))))
 (.seq
 (.reg
 [⟨(some 40),none,(.mv (.t 3))⟩,⟨(some 2),none,(.mv (.t 40))⟩])
 .ret))))
def ts_levels_Runs : List (Nat × Tr) := []
set_option maxRecDepth 100000 in
set_option maxHeartbeats 4000000 in
theorem ok_levels_Runs : irOf Tryz.prog fn_levels_Runs [] ts_levels_Runs = some (41,[(.t 2)],ir_levels_Runs) := by kernel_rfl
def ir_levels_Stretches : C :=
 (.seq
 (.reg
 [⟨(some 2),none,(.mv (.c (.slice none 0 0)))⟩])
 (.seq
 (.reg
 [⟨(some 3),none,(.mv (.c (.slice none 0 0)))⟩])
 (.seq
 (.reg
 [⟨(some 4),none,(.mv (.c (.int .i64 0)))⟩])
 (.seq
 (.seq
 (.reg
 [⟨(some 7),none,(.mv (.t 0))⟩,⟨(some 8),none,(.lens (.t 7))⟩,⟨(some 9),none,(.mv (.c (.int .i64 0)))⟩])
 (.blk
 0
 (.loop
 (.seq
 (.reg
 [⟨(some 10),none,(.cmp .lss .i64 (.t 9) (.t 8))⟩])
 (.seq
 (.cond
 (.t 10)
 .skip
 (.exit 0))
 (.seq
 (.blk
 1
 (.seq
 (.reg
 [⟨(some 11),none,(.mv (.t 9))⟩,⟨(some 5),none,(.mv (.t 11))⟩])
 (.seq
 (.seq
 (.drw
 [⟨(some 12),none,(.mv (.t 5))⟩,⟨(some 13),none,(.ar .add .i64 (.t 12) (.c (.int .i64 1)))⟩,⟨(some 14),none,(.mv (.t 0))⟩,⟨(some 15),none,(.lens (.t 14))⟩,⟨(some 16),none,(.cmp .lss .i64 (.t 13) (.t 15))⟩,⟨(some 17),none,(.mv (.t 16))⟩,⟨(some 18),(some (17,true)),(.mv (.t 0))⟩,⟨(some 19),(some (17,true)),(.mv (.t 5))⟩,⟨(some 20),(some (17,true)),(.ar .add .i64 (.t 19) (.c (.int .i64 1)))⟩,⟨(some 21),(some (17,true)),(.ia 1 (.t 18) (.t 20))⟩,⟨(some 22),(some (17,true)),(.ld (.int .u64) (.t 21))⟩,⟨(some 23),(some (17,true)),(.mv (.t 0))⟩,⟨(some 24),(some (17,true)),(.mv (.t 5))⟩,⟨(some 25),(some (17,true)),(.ia 1 (.t 23) (.t 24))⟩,⟨(some 26),(some (17,true)),(.ld (.int .u64) (.t 25))⟩,⟨(some 27),(some (17,true)),(.cmp .eql .u64 (.t 22) (.t 26))⟩,⟨(some 28),none,(.pick (.t 17) (.t 27) (.c (.bool false)))⟩]
 (.mov 0 (.take 1 (.mov 2 (.take 3 (.take 4 (.mov 5 (.mov 6 (.mov 7 (.take 8 (.take 9 (.take 10 (.mov 11 (.mov 12 (.take 13 (.take 14 (.take 15 (.take 16 .done))))))))))))))))))
 (.cond
 (.t 28)
 (.exit 1)
 .skip))
 (.seq
 (.seq
 (.reg
 [⟨(some 29),none,(.mv (.t 5))⟩,⟨(some 30),none,(.ar .add .i64 (.t 29) (.c (.int .i64 1)))⟩,⟨(some 31),none,(.mv (.t 4))⟩,⟨(some 32),none,(.ar .sub .i64 (.t 30) (.t 31))⟩,⟨(some 6),none,(.mv (.t 32))⟩])
 (.seq
 (.reg
 [⟨(some 33),none,(.mv (.t 6))⟩,⟨(some 34),none,(.cmp .gtr .i64 (.t 33) (.c (.int .i64 1)))⟩])
 (.cond
 (.t 34)
 (.reg
 [⟨(some 35),none,(.mv (.t 3))⟩,⟨(some 36),none,(.mv (.t 4))⟩,⟨(some 37),none,(.mv (.t 6))⟩,⟨(some 38),none,(.bld [(.int .i64 0),(.int .i64 0)] [(0,(1,(.t 36))),(1,(1,(.t 37)))])⟩,⟨(some 39),none,(.bsl 39 ty_api_Span 2 1 [(.int .i64 0),(.int .i64 0)] [(0,(2,(.t 38)))])⟩,⟨(some 40),none,(.app 40 ty_api_Span 2 16 (.t 35) (.t 39))⟩,⟨(some 3),none,(.mv (.t 40))⟩])
 .skip)))
 (.reg
 [⟨(some 41),none,(.mv (.t 5))⟩,⟨(some 42),none,(.ar .add .i64 (.t 41) (.c (.int .i64 1)))⟩,⟨(some 4),none,(.mv (.t 42))⟩])))))
 (.reg
 [⟨(some 43),none,(.ar .add .i64 (.t 9) (.c (.int .i64 1)))⟩,⟨(some 9),none,(.mv (.t 43))⟩])))))))
 (.seq
 (.reg
 [⟨(some 44),none,(.mv (.t 3))⟩,⟨(some 2),none,(.mv (.t 44))⟩])
 .ret)))))
def ts_levels_Stretches : List (Nat × Tr) := [(6,(.mov 0 (.take 1 (.mov 2 (.take 3 (.take 4 (.mov 5 (.mov 6 (.mov 7 (.take 8 (.take 9 (.take 10 (.mov 11 (.mov 12 (.take 13 (.take 14 (.take 15 (.take 16 .done))))))))))))))))))]
set_option maxRecDepth 100000 in
set_option maxHeartbeats 4000000 in
theorem ok_levels_Stretches : irOf Tryz.prog fn_levels_Stretches [] ts_levels_Stretches = some (45,[(.t 2)],ir_levels_Stretches) := by kernel_rfl
def ir_levels_Pairs : C :=
 (.seq
 (.reg
 [⟨(some 4),none,(.mv (.c (.slice none 0 0)))⟩])
 (.seq
 (.seq
 (.reg
 [⟨(some 13),none,(.mv (.t 1))⟩,⟨(some 14),none,(.cmp .lss .i64 (.t 13) (.c (.int .i64 2)))⟩,⟨(some 15),none,(.mv (.t 14))⟩,⟨(some 16),(some (15,false)),(.mv (.t 1))⟩,⟨(some 17),(some (15,false)),(.dv true .i64 (.t 16) (.c (.int .i64 2)))⟩,⟨(some 18),(some (15,false)),(.cmp .neq .i64 (.t 17) (.c (.int .i64 0)))⟩,⟨(some 19),none,(.pick (.t 15) (.c (.bool true)) (.t 18))⟩])
 (.cond
 (.t 19)
 (.seq
 (.reg
 [⟨(some 4),none,(.mv (.c (.slice none 0 0)))⟩])
 .ret)
 .skip))
 (.seq
 (.reg
 [⟨(some 5),none,(.mv (.c (.slice none 0 0)))⟩])
 (.seq
 (.reg
 [⟨(some 21),none,(.mv (.t 1))⟩,⟨(some 22),none,(.call fn_keys_Number [(.t 21)])⟩,⟨(some 20),none,(.mv (.t 22))⟩,⟨(some 23),none,(.ext (.t 20) 0)⟩,⟨(some 24),none,(.ext (.t 20) 1)⟩,⟨(some 25),none,(.ext (.t 20) 2)⟩,⟨(some 6),none,(.mv (.t 23))⟩,⟨(some 7),none,(.mv (.t 24))⟩,⟨(some 8),none,(.mv (.t 25))⟩])
 (.seq
 (.seq
 (.reg
 [⟨(some 26),none,(.mv (.t 8))⟩])
 (.cond
 (.t 26)
 (.seq
 (.seq
 (.reg
 [⟨(some 27),none,(.mv (.t 0))⟩,⟨(some 28),none,(.call fn_levels_Stretches [(.t 27)])⟩,⟨(some 29),none,(.lens (.t 28))⟩,⟨(some 30),none,(.mv (.c (.int .i64 0)))⟩])
 (.blk
 0
 (.loop
 (.seq
 (.reg
 [⟨(some 31),none,(.cmp .lss .i64 (.t 30) (.t 29))⟩])
 (.seq
 (.cond
 (.t 31)
 .skip
 (.exit 0))
 (.seq
 (.blk
 1
 (.seq
 (.reg
 [⟨(some 32),none,(.ia 2 (.t 28) (.t 30))⟩,⟨(some 33),none,(.lda 2 [(.int .i64),(.int .i64)] (.t 32))⟩,⟨(some 10),none,(.alc 10 ty_api_Span [(.int .i64 0),(.int .i64 0)])⟩,⟨none,none,(.st 2 (.t 10) (.t 33))⟩])
 (.seq
 (.reg
 [⟨(some 11),none,(.mv (.c (.int .i64 0)))⟩])
 (.blk
 2
 (.loop
 (.seq
 (.seq
 (.reg
 [⟨(some 34),none,(.mv (.t 11))⟩,⟨(some 35),none,(.ar .add .i64 (.t 34) (.c (.int .i64 1)))⟩,⟨(some 36),none,(.fa 1 (.t 10))⟩,⟨(some 37),none,(.ld (.int .i64) (.t 36))⟩,⟨(some 38),none,(.cmp .lss .i64 (.t 35) (.t 37))⟩])
 (.cond
 (.t 38)
 .skip
 (.exit 2)))
 (.seq
 (.blk
 3
 (.reg
 [⟨(some 41),none,(.mv (.t 5))⟩,⟨(some 42),none,(.fa 0 (.t 10))⟩,⟨(some 43),none,(.ld (.int .i64) (.t 42))⟩,⟨(some 44),none,(.mv (.t 11))⟩,⟨(some 45),none,(.ar .add .i64 (.t 43) (.t 44))⟩,⟨(some 46),none,(.bsl 46 ty_int 1 1 [(.int .i64 0)] [(0,(1,(.t 45)))])⟩,⟨(some 47),none,(.app 47 ty_int 1 8 (.t 41) (.t 46))⟩,⟨(some 5),none,(.mv (.t 47))⟩]))
 (.reg
 [⟨(some 39),none,(.mv (.t 11))⟩,⟨(some 40),none,(.ar .add .i64 (.t 39) (.c (.int .i64 2)))⟩,⟨(some 11),none,(.mv (.t 40))⟩]))))))))
 (.reg
 [⟨(some 48),none,(.ar .add .i64 (.t 30) (.c (.int .i64 1)))⟩,⟨(some 30),none,(.mv (.t 48))⟩])))))))
 (.seq
 (.reg
 [⟨(some 49),none,(.mv (.t 5))⟩,⟨(some 4),none,(.mv (.t 49))⟩])
 .ret))
 .skip))
 (.seq
 (.seq
 (.reg
 [⟨(some 12),none,(.mv (.c (.int .i64 0)))⟩])
 (.blk
 4
 (.loop
 (.seq
 (.seq
 (.reg
 [⟨(some 50),none,(.mv (.t 12))⟩,⟨(some 51),none,(.ar .add .i64 (.t 50) (.c (.int .i64 1)))⟩,⟨(some 52),none,(.mv (.t 0))⟩,⟨(some 53),none,(.lens (.t 52))⟩,⟨(some 54),none,(.cmp .lss .i64 (.t 51) (.t 53))⟩])
 (.cond
 (.t 54)
 .skip
 (.exit 4)))
 (.seq
 (.blk
 5
 (.seq
 (.reg
 [⟨(some 57),none,(.mv (.t 0))⟩,⟨(some 58),none,(.mv (.t 12))⟩,⟨(some 59),none,(.ia 1 (.t 57) (.t 58))⟩,⟨(some 60),none,(.ld (.int .u64) (.t 59))⟩,⟨(some 61),none,(.mv (.t 6))⟩,⟨(some 62),none,(.sh false .u64 (.t 60) (.t 61))⟩,⟨(some 63),none,(.bit .and .u64 (.t 62) (.c (.int .u64 1)))⟩,⟨(some 64),none,(.mv (.t 7))⟩,⟨(some 65),none,(.cmp .eql .u64 (.t 63) (.t 64))⟩,⟨(some 66),none,(.mv (.t 65))⟩,⟨(some 67),(some (66,true)),(.mv (.t 0))⟩,⟨(some 68),(some (66,true)),(.mv (.t 12))⟩,⟨(some 69),(some (66,true)),(.ar .add .i64 (.t 68) (.c (.int .i64 1)))⟩,⟨(some 70),(some (66,true)),(.ia 1 (.t 67) (.t 69))⟩,⟨(some 71),(some (66,true)),(.ld (.int .u64) (.t 70))⟩,⟨(some 72),(some (66,true)),(.mv (.t 6))⟩,⟨(some 73),(some (66,true)),(.sh false .u64 (.t 71) (.t 72))⟩,⟨(some 74),(some (66,true)),(.bit .and .u64 (.t 73) (.c (.int .u64 1)))⟩,⟨(some 75),(some (66,true)),(.mv (.t 7))⟩,⟨(some 76),(some (66,true)),(.cmp .neq .u64 (.t 74) (.t 75))⟩,⟨(some 77),none,(.pick (.t 66) (.t 76) (.c (.bool false)))⟩])
 (.cond
 (.t 77)
 (.reg
 [⟨(some 78),none,(.mv (.t 5))⟩,⟨(some 79),none,(.mv (.t 12))⟩,⟨(some 80),none,(.bsl 80 ty_int 1 1 [(.int .i64 0)] [(0,(1,(.t 79)))])⟩,⟨(some 81),none,(.app 81 ty_int 1 8 (.t 78) (.t 80))⟩,⟨(some 5),none,(.mv (.t 81))⟩])
 .skip)))
 (.reg
 [⟨(some 55),none,(.mv (.t 12))⟩,⟨(some 56),none,(.ar .add .i64 (.t 55) (.c (.int .i64 1)))⟩,⟨(some 12),none,(.mv (.t 56))⟩]))))))
 (.seq
 (.reg
 [⟨(some 82),none,(.mv (.t 5))⟩,⟨(some 4),none,(.mv (.t 82))⟩])
 .ret)))))))
def ts_levels_Pairs : List (Nat × Tr) := []
set_option maxRecDepth 100000 in
set_option maxHeartbeats 4000000 in
theorem ok_levels_Pairs : irOf Tryz.prog fn_levels_Pairs [] ts_levels_Pairs = some (83,[(.t 4)],ir_levels_Pairs) := by kernel_rfl
def ir_evergreenbase_Num : C :=
 (.seq
 (.reg
 [⟨(some 2),none,(.mv (.c (.int .i64 0)))⟩])
 (.seq
 (.seq
 (.reg
 [⟨(some 5),none,(.mv (.t 0))⟩,⟨(some 6),none,(.eqn .ifc false (.t 5))⟩])
 (.cond
 (.t 6)
 (.seq
 (.reg
 [⟨(some 2),none,(.mv (.c (.int .i64 0)))⟩])
 .ret)
 .skip))
 (.seq
 (.reg
 [⟨(some 8),none,(.mv (.t 0))⟩,⟨(some 9),none,(.tas 38 true (.int .i64 0) (.t 8))⟩,⟨(some 7),none,(.mv (.t 9))⟩,⟨(some 10),none,(.ext (.t 7) 0)⟩,⟨(some 11),none,(.ext (.t 7) 1)⟩,⟨(some 3),none,(.mv (.t 10))⟩,⟨(some 4),none,(.mv (.t 11))⟩])
 (.seq
 (.seq
 (.reg
 [⟨(some 12),none,(.mv (.t 4))⟩,⟨(some 13),none,(.not (.t 12))⟩])
 (.cond
 (.t 13)
 (.seq
 (.reg
 [⟨(some 2),none,(.mv (.c (.int .i64 (-1))))⟩])
 .ret)
 .skip))
 (.seq
 (.reg
 [⟨(some 14),none,(.mv (.t 3))⟩,⟨(some 2),none,(.mv (.t 14))⟩])
 .ret)))))
def ts_evergreenbase_Num : List (Nat × Tr) := []
set_option maxRecDepth 100000 in
set_option maxHeartbeats 4000000 in
theorem ok_evergreenbase_Num : irOf Tryz.prog fn_evergreenbase_Num [] ts_evergreenbase_Num = some (15,[(.t 2)],ir_evergreenbase_Num) := by kernel_rfl
def ir_evergreenbase_Is : C :=
 (.seq
 (.reg
 [⟨(some 4),none,(.mv (.c (.bool false)))⟩])
 (.seq
 (.reg
 [⟨(some 5),none,(.mv (.t 0))⟩,⟨(some 6),none,(.call fn_evergreenbase_Num [(.t 5)])⟩,⟨(some 7),none,(.mv (.t 1))⟩,⟨(some 8),none,(.cmp .eql .i64 (.t 6) (.t 7))⟩,⟨(some 9),none,(.mv (.t 8))⟩,⟨(some 10),(some (9,true)),(.mv (.t 1))⟩,⟨(some 11),(some (9,true)),(.cmp .neq .i64 (.t 10) (.c (.int .i64 0)))⟩,⟨(some 12),none,(.pick (.t 9) (.t 11) (.c (.bool false)))⟩,⟨(some 4),none,(.mv (.t 12))⟩])
 .ret))
def ts_evergreenbase_Is : List (Nat × Tr) := []
set_option maxRecDepth 100000 in
set_option maxHeartbeats 4000000 in
theorem ok_evergreenbase_Is : irOf Tryz.prog fn_evergreenbase_Is [] ts_evergreenbase_Is = some (13,[(.t 4)],ir_evergreenbase_Is) := by kernel_rfl
def ir_signature_New : C :=
 (.seq
 (.reg
 [⟨(some 2),none,(.mv (.c (.pointer none)))⟩])
 (.seq
 (.seq
 (.reg
 [⟨(some 3),none,(.mv (.t 0))⟩,⟨(some 4),none,(.eqn .ptr false (.t 3))⟩])
 (.cond
 (.t 4)
 (.seq
 (.reg
 [⟨(some 2),none,(.mv (.c (.pointer none)))⟩])
 .ret)
 .skip))
 (.seq
 (.reg
 [⟨(some 5),none,(.mv (.t 0))⟩,⟨(some 6),none,(.mv (.t 0))⟩,⟨(some 7),none,(.call fn_keys_New [(.t 6)])⟩,⟨(some 8),none,(.bld [(.pointer none),(.pointer none)] [(0,(1,(.t 5))),(1,(1,(.t 7)))])⟩,⟨(some 9),none,(.box 9 ty_signature_Parser (.t 8))⟩,⟨(some 2),none,(.mv (.t 9))⟩])
 .ret)))
def ts_signature_New : List (Nat × Tr) := []
set_option maxRecDepth 100000 in
set_option maxHeartbeats 4000000 in
theorem ok_signature_New : irOf Tryz.prog fn_signature_New [] ts_signature_New = some (10,[(.t 2)],ir_signature_New) := by kernel_rfl
def ir_P_signature_Parser_Of : C :=
 (.seq
 (.reg
 [⟨(some 4),none,(.mv (.c (.int .i64 0)))⟩,⟨(some 5),none,(.mv (.c .nilIface))⟩])
 (.seq
 (.seq
 (.reg
 [⟨(some 9),none,(.mv (.t 0))⟩,⟨(some 10),none,(.eqn .ptr false (.t 9))⟩,⟨(some 11),none,(.mv (.t 10))⟩,⟨(some 12),(some (11,false)),(.mv (.t 0))⟩,⟨(some 13),(some (11,false)),(.nil (.t 12))⟩,⟨(some 14),(some (11,false)),(.fa 0 (.t 13))⟩,⟨(some 15),(some (11,false)),(.ld .ptr (.t 14))⟩,⟨(some 16),(some (11,false)),(.eqn .ptr false (.t 15))⟩,⟨(some 17),none,(.pick (.t 11) (.c (.bool true)) (.t 16))⟩])
 (.cond
 (.t 17)
 (.seq
 (.reg
 [⟨(some 18),none,(.mki ty_api_Errno (.c (.int .i64 5)))⟩,⟨(some 4),none,(.mv (.c (.int .i64 0)))⟩,⟨(some 5),none,(.mv (.t 18))⟩])
 .ret)
 .skip))
 (.seq
 (.seq
 (.reg
 [⟨(some 19),none,(.mv (.t 1))⟩,⟨(some 20),none,(.lens (.t 19))⟩,⟨(some 21),none,(.cmp .gtr .i64 (.t 20) (.c (.int .i64 65536)))⟩])
 (.cond
 (.t 21)
 (.seq
 (.reg
 [⟨(some 22),none,(.mki ty_api_Errno (.c (.int .i64 9)))⟩,⟨(some 4),none,(.mv (.c (.int .i64 0)))⟩,⟨(some 5),none,(.mv (.t 22))⟩])
 .ret)
 .skip))
 (.seq
 (.seq
 (.reg
 [⟨(some 23),none,(.mv (.t 1))⟩,⟨(some 24),none,(.lens (.t 23))⟩,⟨(some 25),none,(.cmp .eql .i64 (.t 24) (.c (.int .i64 0)))⟩])
 (.cond
 (.t 25)
 (.seq
 (.reg
 [⟨(some 4),none,(.mv (.c (.int .i64 0)))⟩,⟨(some 5),none,(.mv (.c .nilIface))⟩])
 .ret)
 .skip))
 (.seq
 (.reg
 [⟨(some 27),none,(.mv (.t 0))⟩,⟨(some 28),none,(.mv (.t 1))⟩,⟨(some 29),none,(.call fn_P_signature_Parser_letters [(.t 27),(.t 28)])⟩,⟨(some 26),none,(.mv (.t 29))⟩,⟨(some 30),none,(.ext (.t 26) 0)⟩,⟨(some 31),none,(.ext (.t 26) 1)⟩,⟨(some 6),none,(.alc 6 ty_signature_sequence [(.slice none 0 0),(.slice none 0 0)])⟩,⟨none,none,(.st 2 (.t 6) (.t 30))⟩,⟨(some 7),none,(.mv (.t 31))⟩])
 (.seq
 (.seq
 (.reg
 [⟨(some 32),none,(.mv (.t 7))⟩,⟨(some 33),none,(.eqn .ifc true (.t 32))⟩])
 (.cond
 (.t 33)
 (.seq
 (.reg
 [⟨(some 34),none,(.mv (.t 7))⟩,⟨(some 4),none,(.mv (.c (.int .i64 0)))⟩,⟨(some 5),none,(.mv (.t 34))⟩])
 .ret)
 .skip))
 (.seq
 (.seq
 (.reg
 [⟨(some 8),none,(.mv (.c (.int .i64 1)))⟩])
 (.blk
 0
 (.loop
 (.seq
 (.seq
 (.reg
 [⟨(some 35),none,(.fa 0 (.t 6))⟩,⟨(some 36),none,(.ld .slc (.t 35))⟩,⟨(some 37),none,(.lens (.t 36))⟩,⟨(some 38),none,(.cmp .gtr .i64 (.t 37) (.c (.int .i64 1)))⟩])
 (.cond
 (.t 38)
 .skip
 (.exit 0)))
 (.seq
 (.blk
 1
 (.seq
 (.seq
 (.reg
 [⟨(some 41),none,(.mv (.t 8))⟩,⟨(some 42),none,(.dv true .i64 (.t 41) (.c (.int .i64 2)))⟩,⟨(some 43),none,(.cmp .eql .i64 (.t 42) (.c (.int .i64 1)))⟩])
 (.cond
 (.t 43)
 (.reg
 [⟨(some 45),none,(.mv (.t 0))⟩,⟨(some 46),none,(.lda 2 [.slc,.slc] (.t 6))⟩,⟨(some 47),none,(.call fn_P_signature_Parser_runs [(.t 45),(.t 46)])⟩,⟨(some 44),none,(.mv (.t 47))⟩,⟨(some 48),none,(.ext (.t 44) 0)⟩,⟨(some 49),none,(.ext (.t 44) 1)⟩,⟨none,none,(.st 2 (.t 6) (.t 48))⟩,⟨(some 7),none,(.mv (.t 49))⟩])
 (.reg
 [⟨(some 51),none,(.mv (.t 0))⟩,⟨(some 52),none,(.lda 2 [.slc,.slc] (.t 6))⟩,⟨(some 53),none,(.mv (.t 8))⟩,⟨(some 54),none,(.call fn_P_signature_Parser_pairs [(.t 51),(.t 52),(.t 53)])⟩,⟨(some 50),none,(.mv (.t 54))⟩,⟨(some 55),none,(.ext (.t 50) 0)⟩,⟨(some 56),none,(.ext (.t 50) 1)⟩,⟨none,none,(.st 2 (.t 6) (.t 55))⟩,⟨(some 7),none,(.mv (.t 56))⟩])))
 (.seq
 (.reg
 [⟨(some 57),none,(.mv (.t 7))⟩,⟨(some 58),none,(.eqn .ifc true (.t 57))⟩])
 (.cond
 (.t 58)
 (.seq
 (.reg
 [⟨(some 59),none,(.mv (.t 7))⟩,⟨(some 4),none,(.mv (.c (.int .i64 0)))⟩,⟨(some 5),none,(.mv (.t 59))⟩])
 .ret)
 .skip))))
 (.reg
 [⟨(some 39),none,(.mv (.t 8))⟩,⟨(some 40),none,(.ar .add .i64 (.t 39) (.c (.int .i64 1)))⟩,⟨(some 8),none,(.mv (.t 40))⟩]))))))
 (.seq
 (.reg
 [⟨(some 60),none,(.fa 0 (.t 6))⟩,⟨(some 61),none,(.ld .slc (.t 60))⟩,⟨(some 62),none,(.ia 1 (.t 61) (.c (.int .i64 0)))⟩,⟨(some 63),none,(.ld (.int .i64) (.t 62))⟩,⟨(some 4),none,(.mv (.t 63))⟩,⟨(some 5),none,(.mv (.c .nilIface))⟩])
 .ret))))))))
def ts_P_signature_Parser_Of : List (Nat × Tr) := []
set_option maxRecDepth 100000 in
set_option maxHeartbeats 4000000 in
theorem ok_P_signature_Parser_Of : irOf Tryz.prog fn_P_signature_Parser_Of [] ts_P_signature_Parser_Of = some (64,[(.t 4),(.t 5)],ir_P_signature_Parser_Of) := by kernel_rfl
def ir_P_signature_Parser_add : C :=
 (.seq
 (.reg
 [⟨(some 6),none,(.mv (.c .nilIface))⟩])
 (.seq
 (.reg
 [⟨(some 10),none,(.mv (.t 0))⟩,⟨(some 11),none,(.nil (.t 10))⟩,⟨(some 12),none,(.fa 1 (.t 11))⟩,⟨(some 13),none,(.ld .ptr (.t 12))⟩,⟨(some 14),none,(.mv (.t 2))⟩,⟨(some 15),none,(.call fn_P_keys_Table_Key [(.t 13),(.t 14)])⟩,⟨(some 9),none,(.mv (.t 15))⟩,⟨(some 16),none,(.ext (.t 9) 0)⟩,⟨(some 17),none,(.ext (.t 9) 1)⟩,⟨(some 7),none,(.mv (.t 16))⟩,⟨(some 8),none,(.mv (.t 17))⟩])
 (.seq
 (.seq
 (.reg
 [⟨(some 18),none,(.mv (.t 8))⟩,⟨(some 19),none,(.eqn .ifc true (.t 18))⟩])
 (.cond
 (.t 19)
 (.seq
 (.reg
 [⟨(some 20),none,(.mv (.t 8))⟩,⟨(some 6),none,(.mv (.t 20))⟩])
 .ret)
 .skip))
 (.seq
 (.reg
 [⟨(some 21),none,(.mv (.t 1))⟩,⟨(some 22),none,(.mv (.t 1))⟩,⟨(some 23),none,(.nil (.t 22))⟩,⟨(some 24),none,(.fa 0 (.t 23))⟩,⟨(some 25),none,(.ld .slc (.t 24))⟩,⟨(some 26),none,(.mv (.t 2))⟩,⟨(some 27),none,(.bsl 27 ty_api_ID 1 1 [(.int .i64 0)] [(0,(1,(.t 26)))])⟩,⟨(some 28),none,(.app 28 ty_api_ID 1 8 (.t 25) (.t 27))⟩,⟨(some 29),none,(.nil (.t 21))⟩,⟨(some 30),none,(.fa 0 (.t 29))⟩,⟨none,none,(.st 1 (.t 30) (.t 28))⟩])
 (.seq
 (.reg
 [⟨(some 31),none,(.mv (.t 1))⟩,⟨(some 32),none,(.mv (.t 1))⟩,⟨(some 33),none,(.nil (.t 32))⟩,⟨(some 34),none,(.fa 1 (.t 33))⟩,⟨(some 35),none,(.ld .slc (.t 34))⟩,⟨(some 36),none,(.mv (.t 7))⟩,⟨(some 37),none,(.bsl 37 ty_uint64 1 1 [(.int .u64 0)] [(0,(1,(.t 36)))])⟩,⟨(some 38),none,(.app 38 ty_uint64 1 8 (.t 35) (.t 37))⟩,⟨(some 39),none,(.nil (.t 31))⟩,⟨(some 40),none,(.fa 1 (.t 39))⟩,⟨none,none,(.st 1 (.t 40) (.t 38))⟩])
 (.seq
 (.reg
 [⟨(some 6),none,(.mv (.c .nilIface))⟩])
 .ret))))))
def ts_P_signature_Parser_add : List (Nat × Tr) := []
set_option maxRecDepth 100000 in
set_option maxHeartbeats 4000000 in
theorem ok_P_signature_Parser_add : irOf Tryz.prog fn_P_signature_Parser_add [] ts_P_signature_Parser_add = some (41,[(.t 6)],ir_P_signature_Parser_add) := by kernel_rfl
def ir_P_signature_Parser_letters : C :=
 (.seq
 (.reg
 [⟨(some 4),none,(.alc 4 ty_signature_sequence [(.slice none 0 0),(.slice none 0 0)])⟩,⟨(some 5),none,(.mv (.c .nilIface))⟩])
 (.cut
 (.drw
 [⟨(some 12),none,(.mv (.t 1))⟩,⟨(some 13),none,(.lens (.t 12))⟩,⟨(some 14),none,(.mks 14 ty_api_ID 1 8 [(.int .i64 0)] (.c (.int .i64 0)) (.t 13))⟩,⟨(some 15),none,(.mv (.t 1))⟩,⟨(some 16),none,(.lens (.t 15))⟩,⟨(some 17),none,(.mks 17 ty_uint64 1 8 [(.int .u64 0)] (.c (.int .i64 0)) (.t 16))⟩,⟨(some 18),none,(.bld [(.slice none 0 0),(.slice none 0 0)] [(0,(1,(.t 14))),(1,(1,(.t 17)))])⟩,⟨(some 6),none,(.alc 6 ty_signature_sequence [(.slice none 0 0),(.slice none 0 0)])⟩,⟨none,none,(.st 2 (.t 6) (.t 18))⟩]
 (.mov 0 (.take 1 (.mov 3 (.take 4 (.alt 2 true (.alt 5 true (.take 6 (.alt 7 true (.bar 8 .done) .nil)) (.alt 7 true (.alt 5 true (.take 6 (.bar 8 .done)) .nil) .nil)) (.alt 5 true (.alt 2 true (.take 6 (.alt 7 true (.bar 8 .done) .nil)) (.alt 7 true (.alt 2 true (.take 6 (.bar 8 .done)) .nil) .nil)) (.alt 7 true (.alt 2 true (.alt 5 true (.take 6 (.bar 8 .done)) .nil) (.alt 5 true (.alt 2 true (.take 6 (.bar 8 .done)) .nil) .nil)) .nil))))))))
 (.seq
 (.seq
 (.reg
 [⟨(some 19),none,(.mv (.t 1))⟩,⟨(some 20),none,(.lens (.t 19))⟩,⟨(some 21),none,(.mv (.c (.int .i64 0)))⟩])
 (.blk
 0
 (.loop
 (.seq
 (.reg
 [⟨(some 22),none,(.cmp .lss .i64 (.t 21) (.t 20))⟩])
 (.seq
 (.cond
 (.t 22)
 .skip
 (.exit 0))
 (.seq
 (.blk
 1
 (.seq
 (.reg
 [⟨(some 23),none,(.ia 1 (.t 19) (.t 21))⟩,⟨(some 24),none,(.ld (.int .u8) (.t 23))⟩,⟨(some 8),none,(.mv (.t 24))⟩])
 (.seq
 (.reg
 [⟨(some 26),none,(.mv (.t 0))⟩,⟨(some 27),none,(.nil (.t 26))⟩,⟨(some 28),none,(.fa 0 (.t 27))⟩,⟨(some 29),none,(.ld .ptr (.t 28))⟩,⟨(some 30),none,(.mv (.t 8))⟩,⟨(some 31),none,(.call fn_P_intern_Store_Letter [(.t 29),(.t 30)])⟩,⟨(some 25),none,(.mv (.t 31))⟩,⟨(some 32),none,(.ext (.t 25) 0)⟩,⟨(some 33),none,(.ext (.t 25) 1)⟩,⟨(some 9),none,(.mv (.t 32))⟩,⟨(some 10),none,(.mv (.t 33))⟩])
 (.seq
 (.seq
 (.reg
 [⟨(some 34),none,(.mv (.t 10))⟩,⟨(some 35),none,(.eqn .ifc true (.t 34))⟩])
 (.cond
 (.t 35)
 (.seq
 (.reg
 [⟨(some 36),none,(.bld [(.slice none 0 0),(.slice none 0 0)] [])⟩,⟨(some 37),none,(.mv (.t 10))⟩,⟨none,none,(.st 2 (.t 4) (.t 36))⟩,⟨(some 5),none,(.mv (.t 37))⟩])
 .ret)
 .skip))
 (.seq
 (.reg
 [⟨(some 38),none,(.mv (.t 0))⟩,⟨(some 39),none,(.mv (.t 9))⟩,⟨(some 40),none,(.call fn_P_signature_Parser_add [(.t 38),(.t 6),(.t 39)])⟩,⟨(some 11),none,(.mv (.t 40))⟩])
 (.seq
 (.reg
 [⟨(some 41),none,(.mv (.t 11))⟩,⟨(some 42),none,(.eqn .ifc true (.t 41))⟩])
 (.cond
 (.t 42)
 (.seq
 (.reg
 [⟨(some 43),none,(.bld [(.slice none 0 0),(.slice none 0 0)] [])⟩,⟨(some 44),none,(.mv (.t 11))⟩,⟨none,none,(.st 2 (.t 4) (.t 43))⟩,⟨(some 5),none,(.mv (.t 44))⟩])
 .ret)
 .skip)))))))
 (.reg
 [⟨(some 45),none,(.ar .add .i64 (.t 21) (.c (.int .i64 1)))⟩,⟨(some 21),none,(.mv (.t 45))⟩])))))))
 (.seq
 (.reg
 [⟨(some 46),none,(.lda 2 [.slc,.slc] (.t 6))⟩,⟨none,none,(.st 2 (.t 4) (.t 46))⟩,⟨(some 5),none,(.mv (.c .nilIface))⟩])
 .ret))))
def ts_P_signature_Parser_letters : List (Nat × Tr) := [(1,(.mov 0 (.take 1 (.mov 3 (.take 4 (.alt 2 true (.alt 5 true (.take 6 (.alt 7 true (.bar 8 .done) .nil)) (.alt 7 true (.alt 5 true (.take 6 (.bar 8 .done)) .nil) .nil)) (.alt 5 true (.alt 2 true (.take 6 (.alt 7 true (.bar 8 .done) .nil)) (.alt 7 true (.alt 2 true (.take 6 (.bar 8 .done)) .nil) .nil)) (.alt 7 true (.alt 2 true (.alt 5 true (.take 6 (.bar 8 .done)) .nil) (.alt 5 true (.alt 2 true (.take 6 (.bar 8 .done)) .nil) .nil)) .nil))))))))]
set_option maxRecDepth 100000 in
set_option maxHeartbeats 4000000 in
theorem ok_P_signature_Parser_letters : irOf Tryz.prog fn_P_signature_Parser_letters [1000019] ts_P_signature_Parser_letters = some (47,[(.c 4 2),(.t 5)],ir_P_signature_Parser_letters) := by kernel_rfl
def ir_P_signature_Parser_runs : C :=
 (.seq
 (.reg
 [⟨(some 3),none,(.box 3 ty_signature_sequence (.t 1))⟩,⟨(some 4),none,(.alc 4 ty_signature_sequence [(.slice none 0 0),(.slice none 0 0)])⟩,⟨(some 5),none,(.mv (.c .nilIface))⟩])
 (.seq
 (.drw
 [⟨(some 13),none,(.fa 0 (.t 3))⟩,⟨(some 14),none,(.ld .slc (.t 13))⟩,⟨(some 15),none,(.slc 1 (.t 14) none (some (.c (.int .i64 0))))⟩,⟨(some 16),none,(.fa 1 (.t 3))⟩,⟨(some 17),none,(.ld .slc (.t 16))⟩,⟨(some 18),none,(.slc 1 (.t 17) none (some (.c (.int .i64 0))))⟩,⟨(some 19),none,(.bld [(.slice none 0 0),(.slice none 0 0)] [(0,(1,(.t 15))),(1,(1,(.t 18)))])⟩,⟨(some 6),none,(.alc 6 ty_signature_sequence [(.slice none 0 0),(.slice none 0 0)])⟩,⟨none,none,(.st 2 (.t 6) (.t 19))⟩]
 (.take 0 (.take 1 (.take 2 (.take 3 (.take 4 (.take 5 (.take 6 (.alt 7 true (.bar 8 .done) .nil)))))))))
 (.seq
 (.reg
 [⟨(some 7),none,(.mv (.c (.int .i64 0)))⟩])
 (.seq
 (.seq
 (.reg
 [⟨(some 20),none,(.fa 0 (.t 3))⟩,⟨(some 21),none,(.ld .slc (.t 20))⟩,⟨(some 22),none,(.call fn_levels_Runs [(.t 21)])⟩,⟨(some 23),none,(.lens (.t 22))⟩,⟨(some 24),none,(.mv (.c (.int .i64 0)))⟩])
 (.blk
 0
 (.loop
 (.seq
 (.reg
 [⟨(some 25),none,(.cmp .lss .i64 (.t 24) (.t 23))⟩])
 (.seq
 (.cond
 (.t 25)
 .skip
 (.exit 0))
 (.seq
 (.blk
 1
 (.seq
 (.reg
 [⟨(some 26),none,(.ia 2 (.t 22) (.t 24))⟩,⟨(some 27),none,(.lda 2 [(.int .i64),(.int .i64)] (.t 26))⟩,⟨(some 9),none,(.alc 9 ty_api_Group [(.int .i64 0),(.int .i64 0)])⟩,⟨none,none,(.st 2 (.t 9) (.t 27))⟩])
 (.seq
 (.drw
 [⟨(some 28),none,(.fa 0 (.t 9))⟩,⟨(some 29),none,(.ld (.int .i64) (.t 28))⟩,⟨(some 30),none,(.fa 1 (.t 3))⟩,⟨(some 31),none,(.ld .slc (.t 30))⟩,⟨(some 32),none,(.mv (.t 7))⟩,⟨(some 33),none,(.ia 1 (.t 31) (.t 32))⟩,⟨(some 34),none,(.ld (.int .u64) (.t 33))⟩,⟨(some 10),none,(.mv (.t 29))⟩,⟨(some 11),none,(.mv (.t 34))⟩]
 (.take 0 (.take 1 (.take 2 (.take 3 (.mov 4 (.take 5 (.take 6 (.mov 7 (.mov 8 .done))))))))))
 (.seq
 (.seq
 (.reg
 [⟨(some 35),none,(.fa 1 (.t 9))⟩,⟨(some 36),none,(.ld (.int .i64) (.t 35))⟩,⟨(some 37),none,(.cmp .gtr .i64 (.t 36) (.c (.int .i64 1)))⟩])
 (.cond
 (.t 37)
 (.seq
 (.reg
 [⟨(some 12),none,(.mv (.c .nilIface))⟩])
 (.seq
 (.seq
 (.drw
 [⟨(some 39),none,(.mv (.t 0))⟩,⟨(some 40),none,(.nil (.t 39))⟩,⟨(some 41),none,(.fa 0 (.t 40))⟩,⟨(some 42),none,(.ld .ptr (.t 41))⟩,⟨(some 43),none,(.mv (.t 10))⟩,⟨(some 44),none,(.fa 1 (.t 9))⟩,⟨(some 45),none,(.ld (.int .i64) (.t 44))⟩,⟨(some 46),none,(.call fn_P_intern_Store_Power [(.t 42),(.t 43),(.t 45)])⟩,⟨(some 38),none,(.mv (.t 46))⟩,⟨(some 47),none,(.ext (.t 38) 0)⟩,⟨(some 48),none,(.ext (.t 38) 1)⟩,⟨(some 10),none,(.mv (.t 47))⟩,⟨(some 12),none,(.mv (.t 48))⟩]
 (.mov 0 (.take 1 (.take 2 (.take 3 (.mov 4 (.take 5 (.take 6 (.bar 7 (.mov 8 (.mov 9 (.mov 10 (.mov 11 (.mov 12 .done))))))))))))))
 (.seq
 (.reg
 [⟨(some 49),none,(.mv (.t 12))⟩,⟨(some 50),none,(.eqn .ifc true (.t 49))⟩])
 (.cond
 (.t 50)
 (.seq
 (.reg
 [⟨(some 51),none,(.bld [(.slice none 0 0),(.slice none 0 0)] [])⟩,⟨(some 52),none,(.mv (.t 12))⟩,⟨none,none,(.st 2 (.t 4) (.t 51))⟩,⟨(some 5),none,(.mv (.t 52))⟩])
 .ret)
 .skip)))
 (.seq
 (.reg
 [⟨(some 54),none,(.mv (.t 0))⟩,⟨(some 55),none,(.nil (.t 54))⟩,⟨(some 56),none,(.fa 1 (.t 55))⟩,⟨(some 57),none,(.ld .ptr (.t 56))⟩,⟨(some 58),none,(.mv (.t 10))⟩,⟨(some 59),none,(.call fn_P_keys_Table_Key [(.t 57),(.t 58)])⟩,⟨(some 53),none,(.mv (.t 59))⟩,⟨(some 60),none,(.ext (.t 53) 0)⟩,⟨(some 61),none,(.ext (.t 53) 1)⟩,⟨(some 11),none,(.mv (.t 60))⟩,⟨(some 12),none,(.mv (.t 61))⟩])
 (.seq
 (.reg
 [⟨(some 62),none,(.mv (.t 12))⟩,⟨(some 63),none,(.eqn .ifc true (.t 62))⟩])
 (.cond
 (.t 63)
 (.seq
 (.reg
 [⟨(some 64),none,(.bld [(.slice none 0 0),(.slice none 0 0)] [])⟩,⟨(some 65),none,(.mv (.t 12))⟩,⟨none,none,(.st 2 (.t 4) (.t 64))⟩,⟨(some 5),none,(.mv (.t 65))⟩])
 .ret)
 .skip)))))
 .skip))
 (.seq
 (.reg
 [⟨(some 66),none,(.fa 0 (.t 6))⟩,⟨(some 67),none,(.ld .slc (.t 66))⟩,⟨(some 68),none,(.mv (.t 10))⟩,⟨(some 69),none,(.bsl 69 ty_api_ID 1 1 [(.int .i64 0)] [(0,(1,(.t 68)))])⟩,⟨(some 70),none,(.app 70 ty_api_ID 1 8 (.t 67) (.t 69))⟩,⟨(some 71),none,(.fa 0 (.t 6))⟩,⟨none,none,(.st 1 (.t 71) (.t 70))⟩])
 (.seq
 (.reg
 [⟨(some 72),none,(.fa 1 (.t 6))⟩,⟨(some 73),none,(.ld .slc (.t 72))⟩,⟨(some 74),none,(.mv (.t 11))⟩,⟨(some 75),none,(.bsl 75 ty_uint64 1 1 [(.int .u64 0)] [(0,(1,(.t 74)))])⟩,⟨(some 76),none,(.app 76 ty_uint64 1 8 (.t 73) (.t 75))⟩,⟨(some 77),none,(.fa 1 (.t 6))⟩,⟨none,none,(.st 1 (.t 77) (.t 76))⟩])
 (.reg
 [⟨(some 78),none,(.mv (.t 7))⟩,⟨(some 79),none,(.fa 1 (.t 9))⟩,⟨(some 80),none,(.ld (.int .i64) (.t 79))⟩,⟨(some 81),none,(.ar .add .i64 (.t 78) (.t 80))⟩,⟨(some 7),none,(.mv (.t 81))⟩])))))))
 (.reg
 [⟨(some 82),none,(.ar .add .i64 (.t 24) (.c (.int .i64 1)))⟩,⟨(some 24),none,(.mv (.t 82))⟩])))))))
 (.seq
 (.reg
 [⟨(some 83),none,(.lda 2 [.slc,.slc] (.t 6))⟩,⟨none,none,(.st 2 (.t 4) (.t 83))⟩,⟨(some 5),none,(.mv (.c .nilIface))⟩])
 .ret)))))
def ts_P_signature_Parser_runs : List (Nat × Tr) := [(1,(.take 0 (.take 1 (.take 2 (.take 3 (.take 4 (.take 5 (.take 6 (.alt 7 true (.bar 8 .done) .nil))))))))),(6,(.take 0 (.take 1 (.take 2 (.take 3 (.mov 4 (.take 5 (.take 6 (.mov 7 (.mov 8 .done)))))))))),(9,(.mov 0 (.take 1 (.take 2 (.take 3 (.mov 4 (.take 5 (.take 6 (.bar 7 (.mov 8 (.mov 9 (.mov 10 (.mov 11 (.mov 12 .done))))))))))))))]
set_option maxRecDepth 100000 in
set_option maxHeartbeats 4000000 in
theorem ok_P_signature_Parser_runs : irOf Tryz.prog fn_P_signature_Parser_runs [] ts_P_signature_Parser_runs = some (84,[(.c 4 2),(.t 5)],ir_P_signature_Parser_runs) := by kernel_rfl
def ir_P_signature_Parser_pairs : C :=
 (.seq
 (.reg
 [⟨(some 4),none,(.box 4 ty_signature_sequence (.t 1))⟩,⟨(some 6),none,(.alc 6 ty_signature_sequence [(.slice none 0 0),(.slice none 0 0)])⟩,⟨(some 7),none,(.mv (.c .nilIface))⟩])
 (.seq
 (.drw
 [⟨(some 15),none,(.fa 0 (.t 4))⟩,⟨(some 16),none,(.ld .slc (.t 15))⟩,⟨(some 17),none,(.slc 1 (.t 16) none (some (.c (.int .i64 0))))⟩,⟨(some 18),none,(.fa 1 (.t 4))⟩,⟨(some 19),none,(.ld .slc (.t 18))⟩,⟨(some 20),none,(.slc 1 (.t 19) none (some (.c (.int .i64 0))))⟩,⟨(some 21),none,(.bld [(.slice none 0 0),(.slice none 0 0)] [(0,(1,(.t 17))),(1,(1,(.t 20)))])⟩,⟨(some 8),none,(.alc 8 ty_signature_sequence [(.slice none 0 0),(.slice none 0 0)])⟩,⟨none,none,(.st 2 (.t 8) (.t 21))⟩]
 (.take 0 (.take 1 (.take 2 (.take 3 (.take 4 (.take 5 (.take 6 (.alt 7 true (.bar 8 .done) .nil)))))))))
 (.seq
 (.reg
 [⟨(some 9),none,(.mv (.c (.int .i64 0)))⟩])
 (.seq
 (.seq
 (.reg
 [⟨(some 22),none,(.fa 1 (.t 4))⟩,⟨(some 23),none,(.ld .slc (.t 22))⟩,⟨(some 24),none,(.mv (.t 2))⟩,⟨(some 25),none,(.call fn_levels_Pairs [(.t 23),(.t 24)])⟩,⟨(some 26),none,(.lens (.t 25))⟩,⟨(some 27),none,(.mv (.c (.int .i64 0)))⟩])
 (.blk
 0
 (.loop
 (.seq
 (.reg
 [⟨(some 28),none,(.cmp .lss .i64 (.t 27) (.t 26))⟩])
 (.seq
 (.cond
 (.t 28)
 .skip
 (.exit 0))
 (.seq
 (.blk
 1
 (.seq
 (.reg
 [⟨(some 29),none,(.ia 1 (.t 25) (.t 27))⟩,⟨(some 30),none,(.ld (.int .i64) (.t 29))⟩,⟨(some 11),none,(.mv (.t 30))⟩])
 (.seq
 (.drw
 [⟨(some 31),none,(.fa 0 (.t 8))⟩,⟨(some 32),none,(.ld .slc (.t 31))⟩,⟨(some 33),none,(.fa 0 (.t 4))⟩,⟨(some 34),none,(.ld .slc (.t 33))⟩,⟨(some 35),none,(.mv (.t 9))⟩,⟨(some 36),none,(.mv (.t 11))⟩,⟨(some 37),none,(.slc 1 (.t 34) (some (.t 35)) (some (.t 36)))⟩,⟨(some 38),none,(.app 38 ty_api_ID 1 8 (.t 32) (.t 37))⟩,⟨(some 39),none,(.fa 0 (.t 8))⟩,⟨none,none,(.st 1 (.t 39) (.t 38))⟩]
 (.take 0 (.take 1 (.take 2 (.take 3 (.mov 4 (.mov 5 (.take 6 (.bar 7 (.take 8 (.bar 9 .done)))))))))))
 (.seq
 (.drw
 [⟨(some 40),none,(.fa 1 (.t 8))⟩,⟨(some 41),none,(.ld .slc (.t 40))⟩,⟨(some 42),none,(.fa 1 (.t 4))⟩,⟨(some 43),none,(.ld .slc (.t 42))⟩,⟨(some 44),none,(.mv (.t 9))⟩,⟨(some 45),none,(.mv (.t 11))⟩,⟨(some 46),none,(.slc 1 (.t 43) (some (.t 44)) (some (.t 45)))⟩,⟨(some 47),none,(.app 47 ty_uint64 1 8 (.t 41) (.t 46))⟩,⟨(some 48),none,(.fa 1 (.t 8))⟩,⟨none,none,(.st 1 (.t 48) (.t 47))⟩]
 (.take 0 (.take 1 (.take 2 (.take 3 (.mov 4 (.mov 5 (.take 6 (.bar 7 (.take 8 (.bar 9 .done)))))))))))
 (.seq
 (.drw
 [⟨(some 50),none,(.mv (.t 0))⟩,⟨(some 51),none,(.nil (.t 50))⟩,⟨(some 52),none,(.fa 0 (.t 51))⟩,⟨(some 53),none,(.ld .ptr (.t 52))⟩,⟨(some 54),none,(.fa 0 (.t 4))⟩,⟨(some 55),none,(.ld .slc (.t 54))⟩,⟨(some 56),none,(.mv (.t 11))⟩,⟨(some 57),none,(.ia 1 (.t 55) (.t 56))⟩,⟨(some 58),none,(.ld (.int .i64) (.t 57))⟩,⟨(some 59),none,(.fa 0 (.t 4))⟩,⟨(some 60),none,(.ld .slc (.t 59))⟩,⟨(some 61),none,(.mv (.t 11))⟩,⟨(some 62),none,(.ar .add .i64 (.t 61) (.c (.int .i64 1)))⟩,⟨(some 63),none,(.ia 1 (.t 60) (.t 62))⟩,⟨(some 64),none,(.ld (.int .i64) (.t 63))⟩,⟨(some 65),none,(.call fn_P_intern_Store_Pair [(.t 53),(.t 58),(.t 64)])⟩,⟨(some 49),none,(.mv (.t 65))⟩,⟨(some 66),none,(.ext (.t 49) 0)⟩,⟨(some 67),none,(.ext (.t 49) 1)⟩,⟨(some 12),none,(.mv (.t 66))⟩,⟨(some 13),none,(.mv (.t 67))⟩]
 (.mov 0 (.take 1 (.take 2 (.take 3 (.take 4 (.take 5 (.mov 6 (.take 7 (.take 8 (.take 9 (.take 10 (.mov 11 (.take 12 (.take 13 (.take 14 (.bar 15 (.mov 16 (.mov 17 (.mov 18 (.mov 19 (.mov 20 .done))))))))))))))))))))))
 (.seq
 (.seq
 (.reg
 [⟨(some 68),none,(.mv (.t 13))⟩,⟨(some 69),none,(.eqn .ifc true (.t 68))⟩])
 (.cond
 (.t 69)
 (.seq
 (.reg
 [⟨(some 70),none,(.bld [(.slice none 0 0),(.slice none 0 0)] [])⟩,⟨(some 71),none,(.mv (.t 13))⟩,⟨none,none,(.st 2 (.t 6) (.t 70))⟩,⟨(some 7),none,(.mv (.t 71))⟩])
 .ret)
 .skip))
 (.seq
 (.seq
 (.reg
 [⟨(some 72),none,(.mv (.t 0))⟩,⟨(some 73),none,(.mv (.t 12))⟩,⟨(some 74),none,(.call fn_P_signature_Parser_add [(.t 72),(.t 8),(.t 73)])⟩,⟨(some 14),none,(.mv (.t 74))⟩])
 (.seq
 (.reg
 [⟨(some 75),none,(.mv (.t 14))⟩,⟨(some 76),none,(.eqn .ifc true (.t 75))⟩])
 (.cond
 (.t 76)
 (.seq
 (.reg
 [⟨(some 77),none,(.bld [(.slice none 0 0),(.slice none 0 0)] [])⟩,⟨(some 78),none,(.mv (.t 14))⟩,⟨none,none,(.st 2 (.t 6) (.t 77))⟩,⟨(some 7),none,(.mv (.t 78))⟩])
 .ret)
 .skip)))
 (.reg
 [⟨(some 79),none,(.mv (.t 11))⟩,⟨(some 80),none,(.ar .add .i64 (.t 79) (.c (.int .i64 2)))⟩,⟨(some 9),none,(.mv (.t 80))⟩]))))))))
 (.reg
 [⟨(some 81),none,(.ar .add .i64 (.t 27) (.c (.int .i64 1)))⟩,⟨(some 27),none,(.mv (.t 81))⟩])))))))
 (.seq
 (.drw
 [⟨(some 82),none,(.fa 0 (.t 8))⟩,⟨(some 83),none,(.ld .slc (.t 82))⟩,⟨(some 84),none,(.fa 0 (.t 4))⟩,⟨(some 85),none,(.ld .slc (.t 84))⟩,⟨(some 86),none,(.mv (.t 9))⟩,⟨(some 87),none,(.slc 1 (.t 85) (some (.t 86)) none)⟩,⟨(some 88),none,(.app 88 ty_api_ID 1 8 (.t 83) (.t 87))⟩,⟨(some 89),none,(.fa 0 (.t 8))⟩,⟨none,none,(.st 1 (.t 89) (.t 88))⟩]
 (.take 0 (.take 1 (.take 2 (.take 3 (.mov 4 (.take 5 (.bar 6 (.take 7 (.bar 8 .done))))))))))
 (.seq
 (.drw
 [⟨(some 90),none,(.fa 1 (.t 8))⟩,⟨(some 91),none,(.ld .slc (.t 90))⟩,⟨(some 92),none,(.fa 1 (.t 4))⟩,⟨(some 93),none,(.ld .slc (.t 92))⟩,⟨(some 94),none,(.mv (.t 9))⟩,⟨(some 95),none,(.slc 1 (.t 93) (some (.t 94)) none)⟩,⟨(some 96),none,(.app 96 ty_uint64 1 8 (.t 91) (.t 95))⟩,⟨(some 97),none,(.fa 1 (.t 8))⟩,⟨none,none,(.st 1 (.t 97) (.t 96))⟩]
 (.take 0 (.take 1 (.take 2 (.take 3 (.mov 4 (.take 5 (.bar 6 (.take 7 (.bar 8 .done))))))))))
 (.seq
 (.reg
 [⟨(some 98),none,(.lda 2 [.slc,.slc] (.t 8))⟩,⟨none,none,(.st 2 (.t 6) (.t 98))⟩,⟨(some 7),none,(.mv (.c .nilIface))⟩])
 .ret)))))))
def ts_P_signature_Parser_pairs : List (Nat × Tr) := [(1,(.take 0 (.take 1 (.take 2 (.take 3 (.take 4 (.take 5 (.take 6 (.alt 7 true (.bar 8 .done) .nil))))))))),(6,(.take 0 (.take 1 (.take 2 (.take 3 (.mov 4 (.mov 5 (.take 6 (.bar 7 (.take 8 (.bar 9 .done))))))))))),(7,(.take 0 (.take 1 (.take 2 (.take 3 (.mov 4 (.mov 5 (.take 6 (.bar 7 (.take 8 (.bar 9 .done))))))))))),(8,(.mov 0 (.take 1 (.take 2 (.take 3 (.take 4 (.take 5 (.mov 6 (.take 7 (.take 8 (.take 9 (.take 10 (.mov 11 (.take 12 (.take 13 (.take 14 (.bar 15 (.mov 16 (.mov 17 (.mov 18 (.mov 19 (.mov 20 .done)))))))))))))))))))))),(16,(.take 0 (.take 1 (.take 2 (.take 3 (.mov 4 (.take 5 (.bar 6 (.take 7 (.bar 8 .done)))))))))),(17,(.take 0 (.take 1 (.take 2 (.take 3 (.mov 4 (.take 5 (.bar 6 (.take 7 (.bar 8 .done))))))))))]
set_option maxRecDepth 100000 in
set_option maxHeartbeats 4000000 in
theorem ok_P_signature_Parser_pairs : irOf Tryz.prog fn_P_signature_Parser_pairs [] ts_P_signature_Parser_pairs = some (99,[(.c 6 2),(.t 7)],ir_P_signature_Parser_pairs) := by kernel_rfl
def ir_P_intern_Store_Weight : C :=
 (.seq
 (.reg
 [⟨(some 4),none,(.alc 4 ty_api_Weight [(.int .i64 0),(.int .i64 0),(.int .i64 0),(.int .i64 0),(.int .u64 0),(.int .u64 0)])⟩,⟨(some 5),none,(.mv (.c .nilIface))⟩])
 (.seq
 (.seq
 (.reg
 [⟨(some 6),none,(.mv (.t 0))⟩,⟨(some 7),none,(.eqn .ptr false (.t 6))⟩])
 (.cond
 (.t 7)
 (.seq
 (.reg
 [⟨(some 8),none,(.bld [(.int .i64 0),(.int .i64 0),(.int .i64 0),(.int .i64 0),(.int .u64 0),(.int .u64 0)] [])⟩,⟨(some 9),none,(.mki ty_api_Errno (.c (.int .i64 5)))⟩,⟨none,none,(.st 6 (.t 4) (.t 8))⟩,⟨(some 5),none,(.mv (.t 9))⟩])
 .ret)
 .skip))
 (.seq
 (.seq
 (.reg
 [⟨(some 10),none,(.mv (.t 0))⟩,⟨(some 11),none,(.mv (.t 1))⟩,⟨(some 12),none,(.call fn_P_intern_Store_known [(.t 10),(.t 11)])⟩,⟨(some 13),none,(.not (.t 12))⟩])
 (.cond
 (.t 13)
 (.seq
 (.reg
 [⟨(some 14),none,(.bld [(.int .i64 0),(.int .i64 0),(.int .i64 0),(.int .i64 0),(.int .u64 0),(.int .u64 0)] [])⟩,⟨(some 15),none,(.mki ty_api_Errno (.c (.int .i64 1)))⟩,⟨none,none,(.st 6 (.t 4) (.t 14))⟩,⟨(some 5),none,(.mv (.t 15))⟩])
 .ret)
 .skip))
 (.seq
 (.reg
 [⟨(some 16),none,(.mv (.t 0))⟩,⟨(some 17),none,(.mv (.t 1))⟩,⟨(some 18),none,(.call fn_P_intern_Store_at [(.t 16),(.t 17)])⟩,⟨(some 19),none,(.fls 5 6 (.t 18))⟩,⟨none,none,(.st 6 (.t 4) (.t 19))⟩,⟨(some 5),none,(.mv (.c .nilIface))⟩])
 .ret))))
def ts_P_intern_Store_Weight : List (Nat × Tr) := []
set_option maxRecDepth 100000 in
set_option maxHeartbeats 4000000 in
theorem ok_P_intern_Store_Weight : irOf Tryz.prog fn_P_intern_Store_Weight [] ts_P_intern_Store_Weight = some (20,[(.c 4 6),(.t 5)],ir_P_intern_Store_Weight) := by kernel_rfl
def ir_evergreenref11_earlier : C :=
 (.seq
 (.reg
 [⟨(some 4),none,(.mv (.c (.bool false)))⟩])
 (.seq
 (.reg
 [⟨(some 5),none,(.mv (.t 0))⟩,⟨(some 6),none,(.cmp .geq .i64 (.t 5) (.c (.int .i64 1)))⟩,⟨(some 7),none,(.mv (.t 6))⟩,⟨(some 8),(some (7,true)),(.mv (.t 0))⟩,⟨(some 9),(some (7,true)),(.mv (.t 1))⟩,⟨(some 10),(some (7,true)),(.cmp .lss .i64 (.t 8) (.t 9))⟩,⟨(some 11),none,(.pick (.t 7) (.t 10) (.c (.bool false)))⟩,⟨(some 4),none,(.mv (.t 11))⟩])
 .ret))
def ts_evergreenref11_earlier : List (Nat × Tr) := []
set_option maxRecDepth 100000 in
set_option maxHeartbeats 4000000 in
theorem ok_evergreenref11_earlier : irOf Tryz.prog fn_evergreenref11_earlier [] ts_evergreenref11_earlier = some (12,[(.t 4)],ir_evergreenref11_earlier) := by kernel_rfl
def ir_evergreenref11_Rule : C :=
 (.seq
 (.reg
 [⟨(some 2),none,(.box 2 ty_api_Rule (.t 0))⟩,⟨(some 4),none,(.mv (.c (.int .i64 0)))⟩])
 (.seq
 (.seq
 (.reg
 [⟨(some 5),none,(.fa 0 (.t 2))⟩,⟨(some 6),none,(.ld (.int .i64) (.t 5))⟩])
 (.blk
 0
 (.seq
 (.reg
 [⟨(some 8),none,(.cmp .eql .i64 (.t 6) (.c (.int .i64 1)))⟩,⟨(some 7),none,(.mv (.t 8))⟩])
 (.cond
 (.t 7)
 (.seq
 (.seq
 (.reg
 [⟨(some 9),none,(.fa 2 (.t 2))⟩,⟨(some 10),none,(.ld (.int .i64) (.t 9))⟩,⟨(some 11),none,(.cmp .neq .i64 (.t 10) (.c (.int .i64 0)))⟩,⟨(some 12),none,(.mv (.t 11))⟩,⟨(some 13),(some (12,false)),(.fa 3 (.t 2))⟩,⟨(some 14),(some (12,false)),(.ld (.int .i64) (.t 13))⟩,⟨(some 15),(some (12,false)),(.cmp .neq .i64 (.t 14) (.c (.int .i64 0)))⟩,⟨(some 16),none,(.pick (.t 12) (.c (.bool true)) (.t 15))⟩,⟨(some 17),none,(.mv (.t 16))⟩,⟨(some 18),(some (17,false)),(.fa 4 (.t 2))⟩,⟨(some 19),(some (17,false)),(.ld (.int .i64) (.t 18))⟩,⟨(some 20),(some (17,false)),(.cmp .neq .i64 (.t 19) (.c (.int .i64 0)))⟩,⟨(some 21),none,(.pick (.t 17) (.c (.bool true)) (.t 20))⟩])
 (.cond
 (.t 21)
 (.seq
 (.reg
 [⟨(some 4),none,(.mv (.c (.int .i64 4)))⟩])
 .ret)
 .skip))
 (.seq
 (.seq
 (.reg
 [⟨(some 22),none,(.mv (.t 1))⟩,⟨(some 23),none,(.cmp .lss .i64 (.t 22) (.c (.int .i64 1)))⟩])
 (.cond
 (.t 23)
 (.seq
 (.reg
 [⟨(some 4),none,(.mv (.c (.int .i64 1)))⟩])
 .ret)
 .skip))
 (.seq
 (.reg
 [⟨(some 4),none,(.mv (.c (.int .i64 0)))⟩])
 .ret)))
 (.seq
 (.reg
 [⟨(some 25),none,(.cmp .eql .i64 (.t 6) (.c (.int .i64 2)))⟩,⟨(some 24),none,(.mv (.t 25))⟩])
 (.cond
 (.t 24)
 (.seq
 (.seq
 (.reg
 [⟨(some 26),none,(.fa 1 (.t 2))⟩,⟨(some 27),none,(.ld (.int .u8) (.t 26))⟩,⟨(some 28),none,(.cmp .neq .u8 (.t 27) (.c (.int .u8 0)))⟩,⟨(some 29),none,(.mv (.t 28))⟩,⟨(some 30),(some (29,false)),(.fa 4 (.t 2))⟩,⟨(some 31),(some (29,false)),(.ld (.int .i64) (.t 30))⟩,⟨(some 32),(some (29,false)),(.cmp .neq .i64 (.t 31) (.c (.int .i64 0)))⟩,⟨(some 33),none,(.pick (.t 29) (.c (.bool true)) (.t 32))⟩])
 (.cond
 (.t 33)
 (.seq
 (.reg
 [⟨(some 4),none,(.mv (.c (.int .i64 4)))⟩])
 .ret)
 .skip))
 (.seq
 (.seq
 (.reg
 [⟨(some 34),none,(.mv (.t 1))⟩,⟨(some 35),none,(.cmp .lss .i64 (.t 34) (.c (.int .i64 1)))⟩,⟨(some 36),none,(.mv (.t 35))⟩,⟨(some 37),(some (36,false)),(.fa 2 (.t 2))⟩,⟨(some 38),(some (36,false)),(.ld (.int .i64) (.t 37))⟩,⟨(some 39),(some (36,false)),(.mv (.t 1))⟩,⟨(some 40),(some (36,false)),(.call fn_evergreenref11_earlier [(.t 38),(.t 39)])⟩,⟨(some 41),(some (36,false)),(.not (.t 40))⟩,⟨(some 42),none,(.pick (.t 36) (.c (.bool true)) (.t 41))⟩,⟨(some 43),none,(.mv (.t 42))⟩,⟨(some 44),(some (43,false)),(.fa 3 (.t 2))⟩,⟨(some 45),(some (43,false)),(.ld (.int .i64) (.t 44))⟩,⟨(some 46),(some (43,false)),(.mv (.t 1))⟩,⟨(some 47),(some (43,false)),(.call fn_evergreenref11_earlier [(.t 45),(.t 46)])⟩,⟨(some 48),(some (43,false)),(.not (.t 47))⟩,⟨(some 49),none,(.pick (.t 43) (.c (.bool true)) (.t 48))⟩])
 (.cond
 (.t 49)
 (.seq
 (.reg
 [⟨(some 4),none,(.mv (.c (.int .i64 1)))⟩])
 .ret)
 .skip))
 (.seq
 (.reg
 [⟨(some 4),none,(.mv (.c (.int .i64 0)))⟩])
 .ret)))
 (.seq
 (.reg
 [⟨(some 51),none,(.cmp .eql .i64 (.t 6) (.c (.int .i64 3)))⟩,⟨(some 50),none,(.mv (.t 51))⟩])
 (.cond
 (.t 50)
 (.seq
 (.seq
 (.reg
 [⟨(some 52),none,(.fa 1 (.t 2))⟩,⟨(some 53),none,(.ld (.int .u8) (.t 52))⟩,⟨(some 54),none,(.cmp .neq .u8 (.t 53) (.c (.int .u8 0)))⟩,⟨(some 55),none,(.mv (.t 54))⟩,⟨(some 56),(some (55,false)),(.fa 3 (.t 2))⟩,⟨(some 57),(some (55,false)),(.ld (.int .i64) (.t 56))⟩,⟨(some 58),(some (55,false)),(.cmp .neq .i64 (.t 57) (.c (.int .i64 0)))⟩,⟨(some 59),none,(.pick (.t 55) (.c (.bool true)) (.t 58))⟩,⟨(some 60),none,(.mv (.t 59))⟩,⟨(some 61),(some (60,false)),(.fa 4 (.t 2))⟩,⟨(some 62),(some (60,false)),(.ld (.int .i64) (.t 61))⟩,⟨(some 63),(some (60,false)),(.cmp .lss .i64 (.t 62) (.c (.int .i64 2)))⟩,⟨(some 64),none,(.pick (.t 60) (.c (.bool true)) (.t 63))⟩])
 (.cond
 (.t 64)
 (.seq
 (.reg
 [⟨(some 4),none,(.mv (.c (.int .i64 4)))⟩])
 .ret)
 .skip))
 (.seq
 (.seq
 (.reg
 [⟨(some 65),none,(.mv (.t 1))⟩,⟨(some 66),none,(.cmp .lss .i64 (.t 65) (.c (.int .i64 1)))⟩,⟨(some 67),none,(.mv (.t 66))⟩,⟨(some 68),(some (67,false)),(.fa 2 (.t 2))⟩,⟨(some 69),(some (67,false)),(.ld (.int .i64) (.t 68))⟩,⟨(some 70),(some (67,false)),(.mv (.t 1))⟩,⟨(some 71),(some (67,false)),(.call fn_evergreenref11_earlier [(.t 69),(.t 70)])⟩,⟨(some 72),(some (67,false)),(.not (.t 71))⟩,⟨(some 73),none,(.pick (.t 67) (.c (.bool true)) (.t 72))⟩])
 (.cond
 (.t 73)
 (.seq
 (.reg
 [⟨(some 4),none,(.mv (.c (.int .i64 1)))⟩])
 .ret)
 .skip))
 (.seq
 (.reg
 [⟨(some 4),none,(.mv (.c (.int .i64 0)))⟩])
 .ret)))
 .skip))))))))
 (.seq
 (.reg
 [⟨(some 4),none,(.mv (.c (.int .i64 4)))⟩])
 .ret)))
def ts_evergreenref11_Rule : List (Nat × Tr) := []
set_option maxRecDepth 100000 in
set_option maxHeartbeats 4000000 in
theorem ok_evergreenref11_Rule : irOf Tryz.prog fn_evergreenref11_Rule [] ts_evergreenref11_Rule = some (74,[(.t 4)],ir_evergreenref11_Rule) := by kernel_rfl
def ir_evergreenref11_Check : C :=
 (.seq
 (.reg
 [⟨(some 2),none,(.mv (.c (.int .i64 0)))⟩])
 (.seq
 (.seq
 (.reg
 [⟨(some 3),none,(.mv (.c (.int .i64 0)))⟩])
 (.blk
 0
 (.loop
 (.seq
 (.seq
 (.reg
 [⟨(some 5),none,(.mv (.t 3))⟩,⟨(some 6),none,(.mv (.t 0))⟩,⟨(some 7),none,(.lens (.t 6))⟩,⟨(some 8),none,(.cmp .lss .i64 (.t 5) (.t 7))⟩])
 (.cond
 (.t 8)
 .skip
 (.exit 0)))
 (.seq
 (.blk
 1
 (.seq
 (.reg
 [⟨(some 11),none,(.mv (.t 0))⟩,⟨(some 12),none,(.mv (.t 3))⟩,⟨(some 13),none,(.ia 5 (.t 11) (.t 12))⟩,⟨(some 14),none,(.lda 5 [(.int .i64),(.int .u8),(.int .i64),(.int .i64),(.int .i64)] (.t 13))⟩,⟨(some 15),none,(.mv (.t 3))⟩,⟨(some 16),none,(.ar .add .i64 (.t 15) (.c (.int .i64 1)))⟩,⟨(some 17),none,(.call fn_evergreenref11_Rule [(.t 14),(.t 16)])⟩,⟨(some 4),none,(.mv (.t 17))⟩])
 (.seq
 (.reg
 [⟨(some 18),none,(.mv (.t 4))⟩,⟨(some 19),none,(.cmp .neq .i64 (.t 18) (.c (.int .i64 0)))⟩])
 (.cond
 (.t 19)
 (.seq
 (.reg
 [⟨(some 20),none,(.mv (.t 4))⟩,⟨(some 2),none,(.mv (.t 20))⟩])
 .ret)
 .skip))))
 (.reg
 [⟨(some 9),none,(.mv (.t 3))⟩,⟨(some 10),none,(.ar .add .i64 (.t 9) (.c (.int .i64 1)))⟩,⟨(some 3),none,(.mv (.t 10))⟩]))))))
 (.seq
 (.reg
 [⟨(some 2),none,(.mv (.c (.int .i64 0)))⟩])
 .ret)))
def ts_evergreenref11_Check : List (Nat × Tr) := []
set_option maxRecDepth 100000 in
set_option maxHeartbeats 4000000 in
theorem ok_evergreenref11_Check : irOf Tryz.prog fn_evergreenref11_Check [] ts_evergreenref11_Check = some (21,[(.t 2)],ir_evergreenref11_Check) := by kernel_rfl
def ir_evergreenref11_Same : C :=
 (.seq
 (.reg
 [⟨(some 4),none,(.mv (.c (.bool false)))⟩])
 (.seq
 (.seq
 (.reg
 [⟨(some 6),none,(.mv (.t 0))⟩,⟨(some 7),none,(.lens (.t 6))⟩,⟨(some 8),none,(.mv (.t 1))⟩,⟨(some 9),none,(.lens (.t 8))⟩,⟨(some 10),none,(.cmp .neq .i64 (.t 7) (.t 9))⟩])
 (.cond
 (.t 10)
 (.seq
 (.reg
 [⟨(some 4),none,(.mv (.c (.bool false)))⟩])
 .ret)
 .skip))
 (.seq
 (.seq
 (.reg
 [⟨(some 5),none,(.mv (.c (.int .i64 0)))⟩])
 (.blk
 0
 (.loop
 (.seq
 (.seq
 (.reg
 [⟨(some 11),none,(.mv (.t 5))⟩,⟨(some 12),none,(.mv (.t 0))⟩,⟨(some 13),none,(.lens (.t 12))⟩,⟨(some 14),none,(.cmp .lss .i64 (.t 11) (.t 13))⟩])
 (.cond
 (.t 14)
 .skip
 (.exit 0)))
 (.seq
 (.blk
 1
 (.seq
 (.drw
 [⟨(some 17),none,(.mv (.t 0))⟩,⟨(some 18),none,(.mv (.t 5))⟩,⟨(some 19),none,(.ia 5 (.t 17) (.t 18))⟩,⟨(some 20),none,(.lda 5 [(.int .i64),(.int .u8),(.int .i64),(.int .i64),(.int .i64)] (.t 19))⟩,⟨(some 21),none,(.mv (.t 1))⟩,⟨(some 22),none,(.mv (.t 5))⟩,⟨(some 23),none,(.ia 5 (.t 21) (.t 22))⟩,⟨(some 24),none,(.lda 5 [(.int .i64),(.int .u8),(.int .i64),(.int .i64),(.int .i64)] (.t 23))⟩,⟨(some 25),none,(.eqa true [(.int .i64),(.int .u8),(.int .i64),(.int .i64),(.int .i64)] (.t 20) (.t 24))⟩]
 (.mov 0 (.mov 1 (.take 2 (.take 3 (.mov 4 (.mov 5 (.take 6 (.take 7 (.take 8 .done))))))))))
 (.cond
 (.t 25)
 (.seq
 (.reg
 [⟨(some 4),none,(.mv (.c (.bool false)))⟩])
 .ret)
 .skip)))
 (.reg
 [⟨(some 15),none,(.mv (.t 5))⟩,⟨(some 16),none,(.ar .add .i64 (.t 15) (.c (.int .i64 1)))⟩,⟨(some 5),none,(.mv (.t 16))⟩]))))))
 (.seq
 (.reg
 [⟨(some 4),none,(.mv (.c (.bool true)))⟩])
 .ret))))
def ts_evergreenref11_Same : List (Nat × Tr) := [(6,(.mov 0 (.mov 1 (.take 2 (.take 3 (.mov 4 (.mov 5 (.take 6 (.take 7 (.take 8 .done))))))))))]
set_option maxRecDepth 100000 in
set_option maxHeartbeats 4000000 in
theorem ok_evergreenref11_Same : irOf Tryz.prog fn_evergreenref11_Same [] ts_evergreenref11_Same = some (26,[(.t 4)],ir_evergreenref11_Same) := by kernel_rfl
def ir_evergreenref04_Add : C :=
 (.seq
 (.reg
 [⟨(some 4),none,(.mv (.c (.int .u64 0)))⟩])
 (.seq
 (.reg
 [⟨(some 5),none,(.mv (.t 0))⟩,⟨(some 6),none,(.dv true .u64 (.t 5) (.c (.int .u64 2305843009213693951)))⟩,⟨(some 7),none,(.mv (.t 1))⟩,⟨(some 8),none,(.dv true .u64 (.t 7) (.c (.int .u64 2305843009213693951)))⟩,⟨(some 9),none,(.ar .add .u64 (.t 6) (.t 8))⟩,⟨(some 10),none,(.dv true .u64 (.t 9) (.c (.int .u64 2305843009213693951)))⟩,⟨(some 4),none,(.mv (.t 10))⟩])
 .ret))
def ts_evergreenref04_Add : List (Nat × Tr) := []
set_option maxRecDepth 100000 in
set_option maxHeartbeats 4000000 in
theorem ok_evergreenref04_Add : irOf Tryz.prog fn_evergreenref04_Add [] ts_evergreenref04_Add = some (11,[(.t 4)],ir_evergreenref04_Add) := by kernel_rfl
def ir_evergreenref04_Mul : C :=
 (.seq
 (.reg
 [⟨(some 4),none,(.mv (.c (.int .u64 0)))⟩])
 (.seq
 (.reg
 [⟨(some 5),none,(.mv (.c (.int .u64 0)))⟩])
 (.seq
 (.seq
 (.reg
 [⟨(some 6),none,(.mv (.c (.int .i64 60)))⟩])
 (.blk
 0
 (.loop
 (.seq
 (.seq
 (.reg
 [⟨(some 7),none,(.mv (.t 6))⟩,⟨(some 8),none,(.cmp .geq .i64 (.t 7) (.c (.int .i64 0)))⟩])
 (.cond
 (.t 8)
 .skip
 (.exit 0)))
 (.seq
 (.blk
 1
 (.seq
 (.reg
 [⟨(some 11),none,(.mv (.t 5))⟩,⟨(some 12),none,(.mv (.t 5))⟩,⟨(some 13),none,(.call fn_evergreenref04_Add [(.t 11),(.t 12)])⟩,⟨(some 5),none,(.mv (.t 13))⟩])
 (.seq
 (.reg
 [⟨(some 14),none,(.mv (.t 1))⟩,⟨(some 15),none,(.dv true .u64 (.t 14) (.c (.int .u64 2305843009213693951)))⟩,⟨(some 16),none,(.mv (.t 6))⟩,⟨(some 17),none,(.sh false .u64 (.t 15) (.t 16))⟩,⟨(some 18),none,(.bit .and .u64 (.t 17) (.c (.int .u64 1)))⟩,⟨(some 19),none,(.cmp .eql .u64 (.t 18) (.c (.int .u64 1)))⟩])
 (.cond
 (.t 19)
 (.reg
 [⟨(some 20),none,(.mv (.t 5))⟩,⟨(some 21),none,(.mv (.t 0))⟩,⟨(some 22),none,(.call fn_evergreenref04_Add [(.t 20),(.t 21)])⟩,⟨(some 5),none,(.mv (.t 22))⟩])
 .skip))))
 (.reg
 [⟨(some 9),none,(.mv (.t 6))⟩,⟨(some 10),none,(.ar .sub .i64 (.t 9) (.c (.int .i64 1)))⟩,⟨(some 6),none,(.mv (.t 10))⟩]))))))
 (.seq
 (.reg
 [⟨(some 23),none,(.mv (.t 5))⟩,⟨(some 4),none,(.mv (.t 23))⟩])
 .ret))))
def ts_evergreenref04_Mul : List (Nat × Tr) := []
set_option maxRecDepth 100000 in
set_option maxHeartbeats 4000000 in
theorem ok_evergreenref04_Mul : irOf Tryz.prog fn_evergreenref04_Mul [] ts_evergreenref04_Mul = some (24,[(.t 4)],ir_evergreenref04_Mul) := by kernel_rfl
def ir_evergreenref04_Pow : C :=
 (.seq
 (.reg
 [⟨(some 4),none,(.mv (.c (.int .u64 0)))⟩])
 (.seq
 (.reg
 [⟨(some 5),none,(.mv (.c (.int .u64 1)))⟩])
 (.seq
 (.seq
 (.reg
 [⟨(some 6),none,(.mv (.c (.int .i64 63)))⟩])
 (.blk
 0
 (.loop
 (.seq
 (.seq
 (.reg
 [⟨(some 7),none,(.mv (.t 6))⟩,⟨(some 8),none,(.cmp .geq .i64 (.t 7) (.c (.int .i64 0)))⟩])
 (.cond
 (.t 8)
 .skip
 (.exit 0)))
 (.seq
 (.blk
 1
 (.seq
 (.reg
 [⟨(some 11),none,(.mv (.t 5))⟩,⟨(some 12),none,(.mv (.t 5))⟩,⟨(some 13),none,(.call fn_evergreenref04_Mul [(.t 11),(.t 12)])⟩,⟨(some 5),none,(.mv (.t 13))⟩])
 (.seq
 (.reg
 [⟨(some 14),none,(.mv (.t 1))⟩,⟨(some 15),none,(.mv (.t 6))⟩,⟨(some 16),none,(.sh false .u64 (.t 14) (.t 15))⟩,⟨(some 17),none,(.bit .and .u64 (.t 16) (.c (.int .u64 1)))⟩,⟨(some 18),none,(.cmp .eql .u64 (.t 17) (.c (.int .u64 1)))⟩])
 (.cond
 (.t 18)
 (.reg
 [⟨(some 19),none,(.mv (.t 5))⟩,⟨(some 20),none,(.mv (.t 0))⟩,⟨(some 21),none,(.call fn_evergreenref04_Mul [(.t 19),(.t 20)])⟩,⟨(some 5),none,(.mv (.t 21))⟩])
 .skip))))
 (.reg
 [⟨(some 9),none,(.mv (.t 6))⟩,⟨(some 10),none,(.ar .sub .i64 (.t 9) (.c (.int .i64 1)))⟩,⟨(some 6),none,(.mv (.t 10))⟩]))))))
 (.seq
 (.reg
 [⟨(some 22),none,(.mv (.t 5))⟩,⟨(some 4),none,(.mv (.t 22))⟩])
 .ret))))
def ts_evergreenref04_Pow : List (Nat × Tr) := []
set_option maxRecDepth 100000 in
set_option maxHeartbeats 4000000 in
theorem ok_evergreenref04_Pow : irOf Tryz.prog fn_evergreenref04_Pow [] ts_evergreenref04_Pow = some (23,[(.t 4)],ir_evergreenref04_Pow) := by kernel_rfl
def ir_evergreenref04_Mix : C :=
 (.seq
 (.reg
 [⟨(some 6),none,(.mv (.c (.int .u64 0)))⟩])
 (.seq
 (.reg
 [⟨(some 7),none,(.mv (.t 0))⟩,⟨(some 8),none,(.mv (.t 1))⟩,⟨(some 9),none,(.call fn_evergreenref04_Mul [(.c (.int .u64 1234567890123456789)),(.t 8)])⟩,⟨(some 10),none,(.mv (.t 2))⟩,⟨(some 11),none,(.call fn_evergreenref04_Mul [(.c (.int .u64 987654321987654321)),(.t 10)])⟩,⟨(some 12),none,(.call fn_evergreenref04_Add [(.t 9),(.t 11)])⟩,⟨(some 13),none,(.call fn_evergreenref04_Add [(.t 7),(.t 12)])⟩,⟨(some 14),none,(.call fn_evergreenref04_Pow [(.t 13),(.c (.int .u64 17))])⟩,⟨(some 6),none,(.mv (.t 14))⟩])
 .ret))
def ts_evergreenref04_Mix : List (Nat × Tr) := []
set_option maxRecDepth 100000 in
set_option maxHeartbeats 4000000 in
theorem ok_evergreenref04_Mix : irOf Tryz.prog fn_evergreenref04_Mix [] ts_evergreenref04_Mix = some (15,[(.t 6)],ir_evergreenref04_Mix) := by kernel_rfl
def ir_evergreenref20_Number : C :=
 (.seq
 (.reg
 [⟨(some 2),none,(.mv (.c (.int .i64 0)))⟩,⟨(some 3),none,(.mv (.c (.int .u64 0)))⟩,⟨(some 4),none,(.mv (.c (.bool false)))⟩])
 (.seq
 (.seq
 (.reg
 [⟨(some 6),none,(.mv (.t 0))⟩,⟨(some 7),none,(.cmp .lss .i64 (.t 6) (.c (.int .i64 2)))⟩,⟨(some 8),none,(.mv (.t 7))⟩,⟨(some 9),(some (8,false)),(.mv (.t 0))⟩,⟨(some 10),(some (8,false)),(.dv true .i64 (.t 9) (.c (.int .i64 2)))⟩,⟨(some 11),(some (8,false)),(.cmp .neq .i64 (.t 10) (.c (.int .i64 0)))⟩,⟨(some 12),none,(.pick (.t 8) (.c (.bool true)) (.t 11))⟩])
 (.cond
 (.t 12)
 (.seq
 (.reg
 [⟨(some 2),none,(.mv (.c (.int .i64 (-1))))⟩,⟨(some 3),none,(.mv (.c (.int .u64 0)))⟩,⟨(some 4),none,(.mv (.c (.bool false)))⟩])
 .ret)
 .skip))
 (.seq
 (.reg
 [⟨(some 13),none,(.mv (.t 0))⟩,⟨(some 14),none,(.dv false .i64 (.t 13) (.c (.int .i64 2)))⟩,⟨(some 15),none,(.ar .sub .i64 (.t 14) (.c (.int .i64 1)))⟩,⟨(some 16),none,(.dv true .i64 (.t 15) (.c (.int .i64 123)))⟩,⟨(some 5),none,(.mv (.t 16))⟩])
 (.seq
 (.seq
 (.reg
 [⟨(some 17),none,(.mv (.t 5))⟩,⟨(some 18),none,(.cmp .eql .i64 (.t 17) (.c (.int .i64 122)))⟩])
 (.cond
 (.t 18)
 (.seq
 (.reg
 [⟨(some 2),none,(.mv (.c (.int .i64 0)))⟩,⟨(some 3),none,(.mv (.c (.int .u64 0)))⟩,⟨(some 4),none,(.mv (.c (.bool true)))⟩])
 .ret)
 .skip))
 (.seq
 (.reg
 [⟨(some 19),none,(.mv (.t 5))⟩,⟨(some 20),none,(.dv false .i64 (.t 19) (.c (.int .i64 2)))⟩,⟨(some 21),none,(.mv (.t 5))⟩,⟨(some 22),none,(.dv true .i64 (.t 21) (.c (.int .i64 2)))⟩,⟨(some 23),none,(.cv .u64 (.t 22))⟩,⟨(some 2),none,(.mv (.t 20))⟩,⟨(some 3),none,(.mv (.t 23))⟩,⟨(some 4),none,(.mv (.c (.bool false)))⟩])
 .ret)))))
def ts_evergreenref20_Number : List (Nat × Tr) := []
set_option maxRecDepth 100000 in
set_option maxHeartbeats 4000000 in
theorem ok_evergreenref20_Number : irOf Tryz.prog fn_evergreenref20_Number [] ts_evergreenref20_Number = some (24,[(.t 2),(.t 3),(.t 4)],ir_evergreenref20_Number) := by kernel_rfl
def ir_evergreenref20_Fits : C :=
 (.seq
 (.reg
 [⟨(some 6),none,(.mv (.c (.bool false)))⟩])
 (.seq
 (.reg
 [⟨(some 11),none,(.mv (.t 2))⟩,⟨(some 12),none,(.call fn_evergreenref20_Number [(.t 11)])⟩,⟨(some 10),none,(.mv (.t 12))⟩,⟨(some 13),none,(.ext (.t 10) 0)⟩,⟨(some 14),none,(.ext (.t 10) 1)⟩,⟨(some 15),none,(.ext (.t 10) 2)⟩,⟨(some 7),none,(.mv (.t 13))⟩,⟨(some 8),none,(.mv (.t 14))⟩,⟨(some 9),none,(.mv (.t 15))⟩])
 (.seq
 (.seq
 (.reg
 [⟨(some 16),none,(.mv (.t 7))⟩,⟨(some 17),none,(.cmp .lss .i64 (.t 16) (.c (.int .i64 0)))⟩])
 (.cond
 (.t 17)
 (.seq
 (.reg
 [⟨(some 6),none,(.mv (.c (.bool false)))⟩])
 .ret)
 .skip))
 (.seq
 (.seq
 (.reg
 [⟨(some 18),none,(.mv (.t 9))⟩])
 (.cond
 (.t 18)
 (.seq
 (.reg
 [⟨(some 19),none,(.mv (.t 0))⟩,⟨(some 20),none,(.mv (.t 1))⟩,⟨(some 21),none,(.cmp .eql .u64 (.t 19) (.t 20))⟩,⟨(some 6),none,(.mv (.t 21))⟩])
 .ret)
 .skip))
 (.seq
 (.reg
 [⟨(some 22),none,(.mv (.t 0))⟩,⟨(some 23),none,(.mv (.t 7))⟩,⟨(some 24),none,(.sh false .u64 (.t 22) (.t 23))⟩,⟨(some 25),none,(.bit .and .u64 (.t 24) (.c (.int .u64 1)))⟩,⟨(some 26),none,(.mv (.t 8))⟩,⟨(some 27),none,(.cmp .eql .u64 (.t 25) (.t 26))⟩,⟨(some 28),none,(.mv (.t 27))⟩,⟨(some 29),(some (28,true)),(.mv (.t 1))⟩,⟨(some 30),(some (28,true)),(.mv (.t 7))⟩,⟨(some 31),(some (28,true)),(.sh false .u64 (.t 29) (.t 30))⟩,⟨(some 32),(some (28,true)),(.bit .and .u64 (.t 31) (.c (.int .u64 1)))⟩,⟨(some 33),(some (28,true)),(.mv (.t 8))⟩,⟨(some 34),(some (28,true)),(.ar .sub .u64 (.c (.int .u64 1)) (.t 33))⟩,⟨(some 35),(some (28,true)),(.cmp .eql .u64 (.t 32) (.t 34))⟩,⟨(some 36),none,(.pick (.t 28) (.t 35) (.c (.bool false)))⟩,⟨(some 6),none,(.mv (.t 36))⟩])
 .ret)))))
def ts_evergreenref20_Fits : List (Nat × Tr) := []
set_option maxRecDepth 100000 in
set_option maxHeartbeats 4000000 in
theorem ok_evergreenref20_Fits : irOf Tryz.prog fn_evergreenref20_Fits [] ts_evergreenref20_Fits = some (37,[(.t 6)],ir_evergreenref20_Fits) := by kernel_rfl
def ir_evergreenref20_After : C :=
 (.seq
 (.reg
 [⟨(some 6),none,(.mv (.c (.int .i64 0)))⟩])
 (.seq
 (.seq
 (.reg
 [⟨(some 7),none,(.mv (.c (.int .i64 1)))⟩])
 (.blk
 0
 (.loop
 (.seq
 (.seq
 (.reg
 [⟨(some 8),none,(.mv (.t 7))⟩,⟨(some 9),none,(.cmp .leq .i64 (.t 8) (.c (.int .i64 246)))⟩])
 (.cond
 (.t 9)
 .skip
 (.exit 0)))
 (.seq
 (.blk
 1
 (.seq
 (.reg
 [⟨(some 12),none,(.mv (.t 1))⟩,⟨(some 13),none,(.mv (.t 2))⟩,⟨(some 14),none,(.mv (.t 0))⟩,⟨(some 15),none,(.mv (.t 7))⟩,⟨(some 16),none,(.ar .add .i64 (.t 14) (.t 15))⟩,⟨(some 17),none,(.call fn_evergreenref20_Fits [(.t 12),(.t 13),(.t 16)])⟩])
 (.cond
 (.t 17)
 (.seq
 (.reg
 [⟨(some 18),none,(.mv (.t 0))⟩,⟨(some 19),none,(.mv (.t 7))⟩,⟨(some 20),none,(.ar .add .i64 (.t 18) (.t 19))⟩,⟨(some 6),none,(.mv (.t 20))⟩])
 .ret)
 .skip)))
 (.reg
 [⟨(some 10),none,(.mv (.t 7))⟩,⟨(some 11),none,(.ar .add .i64 (.t 10) (.c (.int .i64 1)))⟩,⟨(some 7),none,(.mv (.t 11))⟩]))))))
 (.seq
 (.reg
 [⟨(some 6),none,(.mv (.c (.int .i64 0)))⟩])
 .ret)))
def ts_evergreenref20_After : List (Nat × Tr) := []
set_option maxRecDepth 100000 in
set_option maxHeartbeats 4000000 in
theorem ok_evergreenref20_After : irOf Tryz.prog fn_evergreenref20_After [] ts_evergreenref20_After = some (21,[(.t 6)],ir_evergreenref20_After) := by kernel_rfl
def ir_evergreenref20_Keys : C :=
 (.seq
 (.reg
 [⟨(some 2),none,(.mv (.c (.slice none 0 0)))⟩])
 (.seq
 (.reg
 [⟨(some 9),none,(.bld [(.int .u64 0),(.int .i64 0)] [])⟩,⟨(some 10),none,(.bsl 10 ty_evergreenref20_Key 2 1 [(.int .u64 0),(.int .i64 0)] [(0,(2,(.t 9)))])⟩,⟨(some 3),none,(.mv (.t 10))⟩])
 (.seq
 (.seq
 (.reg
 [⟨(some 4),none,(.mv (.c (.int .i64 1)))⟩])
 (.blk
 0
 (.loop
 (.seq
 (.seq
 (.reg
 [⟨(some 11),none,(.mv (.t 4))⟩,⟨(some 12),none,(.mv (.t 0))⟩,⟨(some 13),none,(.lens (.t 12))⟩,⟨(some 14),none,(.cmp .lss .i64 (.t 11) (.t 13))⟩])
 (.cond
 (.t 14)
 .skip
 (.exit 0)))
 (.seq
 (.blk
 1
 (.seq
 (.reg
 [⟨(some 17),none,(.mv (.t 0))⟩,⟨(some 18),none,(.mv (.t 4))⟩,⟨(some 19),none,(.ia 5 (.t 17) (.t 18))⟩,⟨(some 20),none,(.lda 5 [(.int .i64),(.int .u8),(.int .i64),(.int .i64),(.int .i64)] (.t 19))⟩,⟨(some 5),none,(.alc 5 ty_api_Rule [(.int .i64 0),(.int .u8 0),(.int .i64 0),(.int .i64 0),(.int .i64 0)])⟩,⟨none,none,(.st 5 (.t 5) (.t 20))⟩])
 (.seq
 (.drw
 [⟨(some 21),none,(.mv (.t 3))⟩,⟨(some 22),none,(.fa 2 (.t 5))⟩,⟨(some 23),none,(.ld (.int .i64) (.t 22))⟩,⟨(some 24),none,(.ia 2 (.t 21) (.t 23))⟩,⟨(some 25),none,(.lda 2 [(.int .u64),(.int .i64)] (.t 24))⟩,⟨(some 26),none,(.mv (.t 3))⟩,⟨(some 27),none,(.fa 3 (.t 5))⟩,⟨(some 28),none,(.ld (.int .i64) (.t 27))⟩,⟨(some 29),none,(.ia 2 (.t 26) (.t 28))⟩,⟨(some 30),none,(.lda 2 [(.int .u64),(.int .i64)] (.t 29))⟩,⟨(some 6),none,(.alc 6 ty_evergreenref20_Key [(.int .u64 0),(.int .i64 0)])⟩,⟨(some 7),none,(.alc 7 ty_evergreenref20_Key [(.int .u64 0),(.int .i64 0)])⟩,⟨none,none,(.st 2 (.t 6) (.t 25))⟩,⟨none,none,(.st 2 (.t 7) (.t 30))⟩]
 (.mov 0 (.take 1 (.take 2 (.take 3 (.take 4 (.mov 5 (.take 6 (.take 7 (.take 8 (.take 9 (.alt 10 true (.alt 11 true (.alt 12 true (.bar 13 .done) .nil) .nil) (.alt 11 true (.alt 10 true (.alt 12 true (.bar 13 .done) .nil) .nil) .nil)))))))))))))
 (.seq
 (.reg
 [⟨(some 31),none,(.bld [(.int .u64 0),(.int .i64 0)] [(1,(1,(.c (.int .i64 (-1)))))])⟩,⟨(some 8),none,(.alc 8 ty_evergreenref20_Key [(.int .u64 0),(.int .i64 0)])⟩,⟨none,none,(.st 2 (.t 8) (.t 31))⟩])
 (.seq
 (.seq
 (.reg
 [⟨(some 32),none,(.fa 0 (.t 5))⟩,⟨(some 33),none,(.ld (.int .i64) (.t 32))⟩])
 (.blk
 2
 (.seq
 (.reg
 [⟨(some 55),none,(.cmp .eql .i64 (.t 33) (.c (.int .i64 1)))⟩,⟨(some 54),none,(.mv (.t 55))⟩])
 (.cond
 (.t 54)
 (.reg
 [⟨(some 56),none,(.fa 1 (.t 5))⟩,⟨(some 57),none,(.ld (.int .u8) (.t 56))⟩,⟨(some 58),none,(.cv .u64 (.t 57))⟩,⟨(some 59),none,(.call fn_evergreenref04_Mix [(.c (.int .u64 1)),(.t 58),(.c (.int .u64 0))])⟩,⟨(some 60),none,(.bld [(.int .u64 0),(.int .i64 0)] [(0,(1,(.t 59))),(1,(1,(.c (.int .i64 0))))])⟩,⟨none,none,(.st 2 (.t 8) (.t 60))⟩])
 (.seq
 (.reg
 [⟨(some 62),none,(.cmp .eql .i64 (.t 33) (.c (.int .i64 2)))⟩,⟨(some 61),none,(.mv (.t 62))⟩])
 (.cond
 (.t 61)
 (.seq
 (.reg
 [⟨(some 63),none,(.fa 0 (.t 6))⟩,⟨(some 64),none,(.ld (.int .u64) (.t 63))⟩,⟨(some 65),none,(.fa 0 (.t 7))⟩,⟨(some 66),none,(.ld (.int .u64) (.t 65))⟩,⟨(some 67),none,(.call fn_evergreenref04_Mix [(.c (.int .u64 2)),(.t 64),(.t 66)])⟩,⟨(some 68),none,(.fa 0 (.t 8))⟩,⟨none,none,(.st 1 (.t 68) (.t 67))⟩])
 (.seq
 (.reg
 [⟨(some 69),none,(.fa 2 (.t 5))⟩,⟨(some 70),none,(.ld (.int .i64) (.t 69))⟩,⟨(some 71),none,(.fa 3 (.t 5))⟩,⟨(some 72),none,(.ld (.int .i64) (.t 71))⟩,⟨(some 73),none,(.cmp .neq .i64 (.t 70) (.t 72))⟩,⟨(some 74),none,(.mv (.t 73))⟩,⟨(some 75),(some (74,true)),(.fa 1 (.t 6))⟩,⟨(some 76),(some (74,true)),(.ld (.int .i64) (.t 75))⟩,⟨(some 77),(some (74,true)),(.cmp .geq .i64 (.t 76) (.c (.int .i64 0)))⟩,⟨(some 78),none,(.pick (.t 74) (.t 77) (.c (.bool false)))⟩,⟨(some 79),none,(.mv (.t 78))⟩,⟨(some 80),(some (79,true)),(.fa 1 (.t 7))⟩,⟨(some 81),(some (79,true)),(.ld (.int .i64) (.t 80))⟩,⟨(some 82),(some (79,true)),(.cmp .geq .i64 (.t 81) (.c (.int .i64 0)))⟩,⟨(some 83),none,(.pick (.t 79) (.t 82) (.c (.bool false)))⟩])
 (.cond
 (.t 83)
 (.reg
 [⟨(some 84),none,(.fa 1 (.t 6))⟩,⟨(some 85),none,(.ld (.int .i64) (.t 84))⟩,⟨(some 86),none,(.fa 1 (.t 7))⟩,⟨(some 87),none,(.ld (.int .i64) (.t 86))⟩,⟨(some 88),none,(.mm true .i64 (.t 85) (.t 87))⟩,⟨(some 89),none,(.fa 0 (.t 6))⟩,⟨(some 90),none,(.ld (.int .u64) (.t 89))⟩,⟨(some 91),none,(.fa 0 (.t 7))⟩,⟨(some 92),none,(.ld (.int .u64) (.t 91))⟩,⟨(some 93),none,(.call fn_evergreenref20_After [(.t 88),(.t 90),(.t 92)])⟩,⟨(some 94),none,(.fa 1 (.t 8))⟩,⟨none,none,(.st 1 (.t 94) (.t 93))⟩])
 .skip)))
 (.seq
 (.reg
 [⟨(some 34),none,(.fa 0 (.t 6))⟩,⟨(some 35),none,(.ld (.int .u64) (.t 34))⟩,⟨(some 36),none,(.fa 4 (.t 5))⟩,⟨(some 37),none,(.ld (.int .i64) (.t 36))⟩,⟨(some 38),none,(.cv .u64 (.t 37))⟩,⟨(some 39),none,(.call fn_evergreenref04_Mix [(.c (.int .u64 3)),(.t 35),(.t 38)])⟩,⟨(some 40),none,(.fa 0 (.t 8))⟩,⟨none,none,(.st 1 (.t 40) (.t 39))⟩])
 (.seq
 (.reg
 [⟨(some 41),none,(.fa 1 (.t 6))⟩,⟨(some 42),none,(.ld (.int .i64) (.t 41))⟩,⟨(some 43),none,(.cmp .geq .i64 (.t 42) (.c (.int .i64 0)))⟩,⟨(some 44),none,(.mv (.t 43))⟩,⟨(some 45),(some (44,true)),(.fa 1 (.t 6))⟩,⟨(some 46),(some (44,true)),(.ld (.int .i64) (.t 45))⟩,⟨(some 47),(some (44,true)),(.dv true .i64 (.t 46) (.c (.int .i64 2)))⟩,⟨(some 48),(some (44,true)),(.cmp .eql .i64 (.t 47) (.c (.int .i64 0)))⟩,⟨(some 49),none,(.pick (.t 44) (.t 48) (.c (.bool false)))⟩])
 (.cond
 (.t 49)
 (.reg
 [⟨(some 50),none,(.fa 1 (.t 6))⟩,⟨(some 51),none,(.ld (.int .i64) (.t 50))⟩,⟨(some 52),none,(.ar .add .i64 (.t 51) (.c (.int .i64 1)))⟩,⟨(some 53),none,(.fa 1 (.t 8))⟩,⟨none,none,(.st 1 (.t 53) (.t 52))⟩])
 .skip)))))))))
 (.reg
 [⟨(some 95),none,(.mv (.t 3))⟩,⟨(some 96),none,(.lda 2 [(.int .u64),(.int .i64)] (.t 8))⟩,⟨(some 97),none,(.bsl 97 ty_evergreenref20_Key 2 1 [(.int .u64 0),(.int .i64 0)] [(0,(2,(.t 96)))])⟩,⟨(some 98),none,(.app 98 ty_evergreenref20_Key 2 16 (.t 95) (.t 97))⟩,⟨(some 3),none,(.mv (.t 98))⟩]))))))
 (.reg
 [⟨(some 15),none,(.mv (.t 4))⟩,⟨(some 16),none,(.ar .add .i64 (.t 15) (.c (.int .i64 1)))⟩,⟨(some 4),none,(.mv (.t 16))⟩]))))))
 (.seq
 (.reg
 [⟨(some 99),none,(.mv (.t 3))⟩,⟨(some 2),none,(.mv (.t 99))⟩])
 .ret))))
def ts_evergreenref20_Keys : List (Nat × Tr) := [(6,(.mov 0 (.take 1 (.take 2 (.take 3 (.take 4 (.mov 5 (.take 6 (.take 7 (.take 8 (.take 9 (.alt 10 true (.alt 11 true (.alt 12 true (.bar 13 .done) .nil) .nil) (.alt 11 true (.alt 10 true (.alt 12 true (.bar 13 .done) .nil) .nil) .nil)))))))))))))]
set_option maxRecDepth 100000 in
set_option maxHeartbeats 4000000 in
theorem ok_evergreenref20_Keys : irOf Tryz.prog fn_evergreenref20_Keys [] ts_evergreenref20_Keys = some (100,[(.t 2)],ir_evergreenref20_Keys) := by kernel_rfl
def ir_evergreenlaw22_copied : C :=
 (.seq
 (.reg
 [⟨(some 2),none,(.mv (.c (.slice none 0 0)))⟩])
 (.seq
 (.reg
 [⟨(some 3),none,(.bsl 3 ty_uint8 1 0 [] [])⟩,⟨(some 4),none,(.mv (.t 0))⟩,⟨(some 5),none,(.app 5 ty_uint8 1 1 (.t 3) (.t 4))⟩,⟨(some 2),none,(.mv (.t 5))⟩])
 .ret))
def ts_evergreenlaw22_copied : List (Nat × Tr) := []
set_option maxRecDepth 100000 in
set_option maxHeartbeats 4000000 in
theorem ok_evergreenlaw22_copied : irOf Tryz.prog fn_evergreenlaw22_copied [] ts_evergreenlaw22_copied = some (6,[(.t 2)],ir_evergreenlaw22_copied) := by kernel_rfl
def ir_evergreenlaw22_awake : C :=
 (.seq
 (.reg
 [⟨(some 0),none,(.mv (.c (.bool false)))⟩])
 (.seq
 (.reg
 [⟨(some 7),none,(.call fn_intern_New [(.c (.int .i64 9))])⟩,⟨(some 1),none,(.mv (.t 7))⟩])
 (.seq
 (.reg
 [⟨(some 8),none,(.mv (.t 1))⟩,⟨(some 9),none,(.call fn_signature_New [(.t 8)])⟩,⟨(some 2),none,(.mv (.t 9))⟩])
 (.seq
 (.reg
 [⟨(some 11),none,(.mv (.t 2))⟩,⟨(some 12),none,(.bsl 12 ty_uint8 1 4 [(.int .u8 0),(.int .u8 0),(.int .u8 0),(.int .u8 0)] [(0,(1,(.c (.int .u8 97)))),(1,(1,(.c (.int .u8 97)))),(2,(1,(.c (.int .u8 97)))),(3,(1,(.c (.int .u8 97))))])⟩,⟨(some 13),none,(.cvm (.t 12))⟩,⟨(some 14),none,(.call fn_P_signature_Parser_Of [(.t 11),(.t 13)])⟩,⟨(some 10),none,(.mv (.t 14))⟩,⟨(some 15),none,(.ext (.t 10) 0)⟩,⟨(some 16),none,(.ext (.t 10) 1)⟩,⟨(some 3),none,(.mv (.t 15))⟩,⟨(some 4),none,(.mv (.t 16))⟩])
 (.seq
 (.seq
 (.reg
 [⟨(some 17),none,(.mv (.t 4))⟩,⟨(some 18),none,(.eqn .ifc true (.t 17))⟩])
 (.cond
 (.t 18)
 (.seq
 (.reg
 [⟨(some 0),none,(.mv (.c (.bool false)))⟩])
 .ret)
 .skip))
 (.seq
 (.reg
 [⟨(some 20),none,(.mv (.t 1))⟩,⟨(some 21),none,(.mv (.t 3))⟩,⟨(some 22),none,(.call fn_P_intern_Store_Rule [(.t 20),(.t 21)])⟩,⟨(some 19),none,(.mv (.t 22))⟩,⟨(some 23),none,(.ext (.t 19) 0)⟩,⟨(some 24),none,(.ext (.t 19) 1)⟩,⟨(some 5),none,(.alc 5 ty_api_Rule [(.int .i64 0),(.int .u8 0),(.int .i64 0),(.int .i64 0),(.int .i64 0)])⟩,⟨none,none,(.st 5 (.t 5) (.t 23))⟩,⟨(some 6),none,(.mv (.t 24))⟩])
 (.seq
 (.reg
 [⟨(some 25),none,(.mv (.t 6))⟩,⟨(some 26),none,(.eqn .ifc false (.t 25))⟩,⟨(some 27),none,(.mv (.t 26))⟩,⟨(some 28),(some (27,true)),(.fa 0 (.t 5))⟩,⟨(some 29),(some (27,true)),(.ld (.int .i64) (.t 28))⟩,⟨(some 30),(some (27,true)),(.cmp .eql .i64 (.t 29) (.c (.int .i64 3)))⟩,⟨(some 31),none,(.pick (.t 27) (.t 30) (.c (.bool false)))⟩,⟨(some 32),none,(.mv (.t 31))⟩,⟨(some 33),(some (32,true)),(.fa 4 (.t 5))⟩,⟨(some 34),(some (32,true)),(.ld (.int .i64) (.t 33))⟩,⟨(some 35),(some (32,true)),(.cmp .eql .i64 (.t 34) (.c (.int .i64 4)))⟩,⟨(some 36),none,(.pick (.t 32) (.t 35) (.c (.bool false)))⟩,⟨(some 0),none,(.mv (.t 36))⟩])
 .ret)))))))
def ts_evergreenlaw22_awake : List (Nat × Tr) := []
set_option maxRecDepth 100000 in
set_option maxHeartbeats 4000000 in
theorem ok_evergreenlaw22_awake : irOf Tryz.prog fn_evergreenlaw22_awake [] ts_evergreenlaw22_awake = some (37,[(.t 0)],ir_evergreenlaw22_awake) := by kernel_rfl
end Go.Proofs.YtkkhpdkfploodaaGreatDoor
