/- The small forms of functions of the program, with the equations that say so: written by a program (irtool.py). No condition. -/
import Derived.Test.YtjmlialibdobpaaK2
import Derived.Test.YtjmlialibdobpaaProg
namespace Go.Proofs.Ytjmlialibdobpaa
open Go.EG
abbrev fn_intern_New : Nat := 7
abbrev fn_P_intern_Store_Power : Nat := 9
abbrev fn_length_Clip : Nat := 17
abbrev fn_P_intern_Store_known : Nat := 19
abbrev fn_P_intern_Store_at : Nat := 20
abbrev fn_length_Mul : Nat := 21
abbrev fn_P_intern_Store_find : Nat := 22
abbrev fn_weight_Repeat : Nat := 23
abbrev fn_P_intern_Store_add : Nat := 24
abbrev fn_length_Range : Nat := 29
abbrev fn_length_Valid : Nat := 35
abbrev fn_P_intern_Store_Letter : Nat := 40
abbrev fn_P_intern_Store_Pair : Nat := 41
abbrev fn_weight_Unit : Nat := 42
abbrev fn_weight_Valid : Nat := 43
abbrev fn_digest_Repeat : Nat := 44
abbrev fn_P_intern_Store_Len : Nat := 48
abbrev fn_P_intern_Store_Weight : Nat := 49
abbrev fn_P_intern_Store_Rule : Nat := 59
abbrev fn_weight_Letter : Nat := 66
abbrev fn_length_Add : Nat := 67
abbrev fn_weight_Join : Nat := 68
abbrev fn_digest_Unit : Nat := 69
abbrev fn_modular_Pow : Nat := 70
abbrev fn_digest_Join : Nat := 71
abbrev fn_rule_Refs : Nat := 76
abbrev fn_digest_Letter : Nat := 84
abbrev fn_modular_Reduce : Nat := 85
abbrev fn_modular_Mul : Nat := 86
abbrev fn_modular_Add : Nat := 87
abbrev fn_math_bits_Mul64 : Nat := 89
abbrev ty_api_ID : Nat := 38
abbrev ty_api_Errno : Nat := 49
abbrev ty_intern_Store : Nat := 62
abbrev ty_api_Rule : Nat := 65
abbrev ty_api_Digest : Nat := 68
abbrev ty_api_Weight : Nat := 70
abbrev ty_intern_entry : Nat := 72
def ir_math_bits_Mul64 : C :=
 (.seq
 (.reg
 [⟨(some 4),none,(.mv (.c (.int .u64 0)))⟩,⟨(some 5),none,(.mv (.c (.int .u64 0)))⟩])
 (.seq
 (.reg
 [⟨(some 14),none,(.mv (.t 0))⟩,⟨(some 15),none,(.bit .and .u64 (.t 14) (.c (.int .u64 4294967295)))⟩,⟨(some 6),none,(.mv (.t 15))⟩])
 (.seq
 (.reg
 [⟨(some 16),none,(.mv (.t 0))⟩,⟨(some 17),none,(.sh false .u64 (.t 16) (.c (.int .u64 32)))⟩,⟨(some 7),none,(.mv (.t 17))⟩])
 (.seq
 (.reg
 [⟨(some 18),none,(.mv (.t 1))⟩,⟨(some 19),none,(.bit .and .u64 (.t 18) (.c (.int .u64 4294967295)))⟩,⟨(some 8),none,(.mv (.t 19))⟩])
 (.seq
 (.reg
 [⟨(some 20),none,(.mv (.t 1))⟩,⟨(some 21),none,(.sh false .u64 (.t 20) (.c (.int .u64 32)))⟩,⟨(some 9),none,(.mv (.t 21))⟩])
 (.seq
 (.reg
 [⟨(some 22),none,(.mv (.t 6))⟩,⟨(some 23),none,(.mv (.t 8))⟩,⟨(some 24),none,(.ar .mul .u64 (.t 22) (.t 23))⟩,⟨(some 10),none,(.mv (.t 24))⟩])
 (.seq
 (.reg
 [⟨(some 25),none,(.mv (.t 7))⟩,⟨(some 26),none,(.mv (.t 8))⟩,⟨(some 27),none,(.ar .mul .u64 (.t 25) (.t 26))⟩,⟨(some 28),none,(.mv (.t 10))⟩,⟨(some 29),none,(.sh false .u64 (.t 28) (.c (.int .u64 32)))⟩,⟨(some 30),none,(.ar .add .u64 (.t 27) (.t 29))⟩,⟨(some 11),none,(.mv (.t 30))⟩])
 (.seq
 (.reg
 [⟨(some 31),none,(.mv (.t 11))⟩,⟨(some 32),none,(.bit .and .u64 (.t 31) (.c (.int .u64 4294967295)))⟩,⟨(some 12),none,(.mv (.t 32))⟩])
 (.seq
 (.reg
 [⟨(some 33),none,(.mv (.t 11))⟩,⟨(some 34),none,(.sh false .u64 (.t 33) (.c (.int .u64 32)))⟩,⟨(some 13),none,(.mv (.t 34))⟩])
 (.seq
 (.reg
 [⟨(some 35),none,(.mv (.t 12))⟩,⟨(some 36),none,(.mv (.t 6))⟩,⟨(some 37),none,(.mv (.t 9))⟩,⟨(some 38),none,(.ar .mul .u64 (.t 36) (.t 37))⟩,⟨(some 39),none,(.ar .add .u64 (.t 35) (.t 38))⟩,⟨(some 12),none,(.mv (.t 39))⟩])
 (.seq
 (.reg
 [⟨(some 40),none,(.mv (.t 7))⟩,⟨(some 41),none,(.mv (.t 9))⟩,⟨(some 42),none,(.ar .mul .u64 (.t 40) (.t 41))⟩,⟨(some 43),none,(.mv (.t 13))⟩,⟨(some 44),none,(.ar .add .u64 (.t 42) (.t 43))⟩,⟨(some 45),none,(.mv (.t 12))⟩,⟨(some 46),none,(.sh false .u64 (.t 45) (.c (.int .u64 32)))⟩,⟨(some 47),none,(.ar .add .u64 (.t 44) (.t 46))⟩,⟨(some 4),none,(.mv (.t 47))⟩])
 (.seq
 (.reg
 [⟨(some 48),none,(.mv (.t 0))⟩,⟨(some 49),none,(.mv (.t 1))⟩,⟨(some 50),none,(.ar .mul .u64 (.t 48) (.t 49))⟩,⟨(some 5),none,(.mv (.t 50))⟩])
 .ret))))))))))))
def ts_math_bits_Mul64 : List (Nat × Tr) := []
set_option maxRecDepth 100000 in
set_option maxHeartbeats 4000000 in
theorem ok_math_bits_Mul64 : irOf Try.prog fn_math_bits_Mul64 [] ts_math_bits_Mul64 = some (51,[(.t 4),(.t 5)],ir_math_bits_Mul64) := by kernel_rfl
def ir_modular_Reduce : C :=
 (.seq
 (.reg
 [⟨(some 2),none,(.mv (.c (.int .u64 0)))⟩])
 (.seq
 (.reg
 [⟨(some 3),none,(.mv (.t 0))⟩,⟨(some 4),none,(.bit .and .u64 (.t 3) (.c (.int .u64 2305843009213693951)))⟩,⟨(some 5),none,(.mv (.t 0))⟩,⟨(some 6),none,(.sh false .u64 (.t 5) (.c (.int .u64 61)))⟩,⟨(some 7),none,(.ar .add .u64 (.t 4) (.t 6))⟩,⟨(some 0),none,(.mv (.t 7))⟩])
 (.seq
 (.seq
 (.reg
 [⟨(some 8),none,(.mv (.t 0))⟩,⟨(some 9),none,(.cmp .geq .u64 (.t 8) (.c (.int .u64 2305843009213693951)))⟩])
 (.cond
 (.t 9)
 (.reg
 [⟨(some 10),none,(.mv (.t 0))⟩,⟨(some 11),none,(.ar .sub .u64 (.t 10) (.c (.int .u64 2305843009213693951)))⟩,⟨(some 0),none,(.mv (.t 11))⟩])
 .skip))
 (.seq
 (.reg
 [⟨(some 12),none,(.mv (.t 0))⟩,⟨(some 2),none,(.mv (.t 12))⟩])
 .ret))))
def ts_modular_Reduce : List (Nat × Tr) := []
set_option maxRecDepth 100000 in
set_option maxHeartbeats 4000000 in
theorem ok_modular_Reduce : irOf Try.prog fn_modular_Reduce [] ts_modular_Reduce = some (13,[(.t 2)],ir_modular_Reduce) := by kernel_rfl
def ir_modular_Mul : C :=
 (.seq
 (.reg
 [⟨(some 4),none,(.mv (.c (.int .u64 0)))⟩])
 (.seq
 (.reg
 [⟨(some 8),none,(.mv (.t 0))⟩,⟨(some 9),none,(.call fn_modular_Reduce [(.t 8)])⟩,⟨(some 10),none,(.mv (.t 1))⟩,⟨(some 11),none,(.call fn_modular_Reduce [(.t 10)])⟩,⟨(some 12),none,(.call fn_math_bits_Mul64 [(.t 9),(.t 11)])⟩,⟨(some 7),none,(.mv (.t 12))⟩,⟨(some 13),none,(.ext (.t 7) 0)⟩,⟨(some 14),none,(.ext (.t 7) 1)⟩,⟨(some 5),none,(.mv (.t 13))⟩,⟨(some 6),none,(.mv (.t 14))⟩])
 (.seq
 (.reg
 [⟨(some 15),none,(.mv (.t 5))⟩,⟨(some 16),none,(.sh true .u64 (.t 15) (.c (.int .u64 3)))⟩,⟨(some 17),none,(.mv (.t 6))⟩,⟨(some 18),none,(.sh false .u64 (.t 17) (.c (.int .u64 61)))⟩,⟨(some 19),none,(.ar .add .u64 (.t 16) (.t 18))⟩,⟨(some 20),none,(.mv (.t 6))⟩,⟨(some 21),none,(.bit .and .u64 (.t 20) (.c (.int .u64 2305843009213693951)))⟩,⟨(some 22),none,(.ar .add .u64 (.t 19) (.t 21))⟩,⟨(some 23),none,(.call fn_modular_Reduce [(.t 22)])⟩,⟨(some 4),none,(.mv (.t 23))⟩])
 .ret)))
def ts_modular_Mul : List (Nat × Tr) := []
set_option maxRecDepth 100000 in
set_option maxHeartbeats 4000000 in
theorem ok_modular_Mul : irOf Try.prog fn_modular_Mul [] ts_modular_Mul = some (24,[(.t 4)],ir_modular_Mul) := by kernel_rfl
def ir_modular_Add : C :=
 (.seq
 (.reg
 [⟨(some 4),none,(.mv (.c (.int .u64 0)))⟩])
 (.seq
 (.reg
 [⟨(some 5),none,(.mv (.t 0))⟩,⟨(some 6),none,(.call fn_modular_Reduce [(.t 5)])⟩,⟨(some 7),none,(.mv (.t 1))⟩,⟨(some 8),none,(.call fn_modular_Reduce [(.t 7)])⟩,⟨(some 9),none,(.ar .add .u64 (.t 6) (.t 8))⟩,⟨(some 10),none,(.call fn_modular_Reduce [(.t 9)])⟩,⟨(some 4),none,(.mv (.t 10))⟩])
 .ret))
def ts_modular_Add : List (Nat × Tr) := []
set_option maxRecDepth 100000 in
set_option maxHeartbeats 4000000 in
theorem ok_modular_Add : irOf Try.prog fn_modular_Add [] ts_modular_Add = some (11,[(.t 4)],ir_modular_Add) := by kernel_rfl
def ir_modular_Pow : C :=
 (.seq
 (.reg
 [⟨(some 4),none,(.mv (.c (.int .u64 0)))⟩])
 (.seq
 (.reg
 [⟨(some 5),none,(.mv (.c (.int .u64 1)))⟩])
 (.seq
 (.seq
 (.reg
 [⟨(some 6),none,(.mv (.t 0))⟩,⟨(some 7),none,(.call fn_modular_Reduce [(.t 6)])⟩,⟨(some 0),none,(.mv (.t 7))⟩])
 (.blk
 0
 (.loop
 (.seq
 (.seq
 (.reg
 [⟨(some 8),none,(.mv (.t 1))⟩,⟨(some 9),none,(.cmp .gtr .u64 (.t 8) (.c (.int .u64 0)))⟩])
 (.cond
 (.t 9)
 .skip
 (.exit 0)))
 (.seq
 (.blk
 1
 (.seq
 (.seq
 (.reg
 [⟨(some 12),none,(.mv (.t 1))⟩,⟨(some 13),none,(.dv true .u64 (.t 12) (.c (.int .u64 2)))⟩,⟨(some 14),none,(.cmp .eql .u64 (.t 13) (.c (.int .u64 1)))⟩])
 (.cond
 (.t 14)
 (.reg
 [⟨(some 15),none,(.mv (.t 5))⟩,⟨(some 16),none,(.mv (.t 0))⟩,⟨(some 17),none,(.call fn_modular_Mul [(.t 15),(.t 16)])⟩,⟨(some 5),none,(.mv (.t 17))⟩])
 .skip))
 (.reg
 [⟨(some 18),none,(.mv (.t 0))⟩,⟨(some 19),none,(.mv (.t 0))⟩,⟨(some 20),none,(.call fn_modular_Mul [(.t 18),(.t 19)])⟩,⟨(some 0),none,(.mv (.t 20))⟩])))
 (.reg
 [⟨(some 10),none,(.mv (.t 1))⟩,⟨(some 11),none,(.dv false .u64 (.t 10) (.c (.int .u64 2)))⟩,⟨(some 1),none,(.mv (.t 11))⟩]))))))
 (.seq
 (.reg
 [⟨(some 21),none,(.mv (.t 5))⟩,⟨(some 4),none,(.mv (.t 21))⟩])
 .ret))))
def ts_modular_Pow : List (Nat × Tr) := []
set_option maxRecDepth 100000 in
set_option maxHeartbeats 4000000 in
theorem ok_modular_Pow : irOf Try.prog fn_modular_Pow [] ts_modular_Pow = some (22,[(.t 4)],ir_modular_Pow) := by kernel_rfl
def ir_digest_Unit : C :=
 (.seq
 (.reg
 [⟨(some 0),none,(.alc 0 ty_api_Digest [(.int .u64 0),(.int .u64 0)])⟩])
 (.seq
 (.reg
 [⟨(some 1),none,(.bld [(.int .u64 0),(.int .u64 0)] [(0,(1,(.c (.int .u64 0)))),(1,(1,(.c (.int .u64 1))))])⟩,⟨none,none,(.st 2 (.t 0) (.t 1))⟩])
 .ret))
def ts_digest_Unit : List (Nat × Tr) := []
set_option maxRecDepth 100000 in
set_option maxHeartbeats 4000000 in
theorem ok_digest_Unit : irOf Try.prog fn_digest_Unit [] ts_digest_Unit = some (2,[(.c 0 2)],ir_digest_Unit) := by kernel_rfl
def ir_digest_Letter : C :=
 (.seq
 (.reg
 [⟨(some 2),none,(.alc 2 ty_api_Digest [(.int .u64 0),(.int .u64 0)])⟩])
 (.seq
 (.reg
 [⟨(some 3),none,(.mv (.t 0))⟩,⟨(some 4),none,(.cv .u64 (.t 3))⟩,⟨(some 5),none,(.ar .add .u64 (.t 4) (.c (.int .u64 1)))⟩,⟨(some 6),none,(.bld [(.int .u64 0),(.int .u64 0)] [(0,(1,(.t 5))),(1,(1,(.c (.int .u64 1103515245))))])⟩,⟨none,none,(.st 2 (.t 2) (.t 6))⟩])
 .ret))
def ts_digest_Letter : List (Nat × Tr) := []
set_option maxRecDepth 100000 in
set_option maxHeartbeats 4000000 in
theorem ok_digest_Letter : irOf Try.prog fn_digest_Letter [] ts_digest_Letter = some (7,[(.c 2 2)],ir_digest_Letter) := by kernel_rfl
def ir_digest_Join : C :=
 (.seq
 (.reg
 [⟨(some 2),none,(.box 2 ty_api_Digest (.t 0))⟩,⟨(some 3),none,(.box 3 ty_api_Digest (.t 1))⟩,⟨(some 4),none,(.alc 4 ty_api_Digest [(.int .u64 0),(.int .u64 0)])⟩])
 (.seq
 (.drw
 [⟨(some 5),none,(.fa 0 (.t 2))⟩,⟨(some 6),none,(.ld (.int .u64) (.t 5))⟩,⟨(some 7),none,(.fa 1 (.t 3))⟩,⟨(some 8),none,(.ld (.int .u64) (.t 7))⟩,⟨(some 9),none,(.call fn_modular_Mul [(.t 6),(.t 8)])⟩,⟨(some 10),none,(.fa 0 (.t 3))⟩,⟨(some 11),none,(.ld (.int .u64) (.t 10))⟩,⟨(some 12),none,(.call fn_modular_Add [(.t 9),(.t 11)])⟩,⟨(some 13),none,(.fa 1 (.t 2))⟩,⟨(some 14),none,(.ld (.int .u64) (.t 13))⟩,⟨(some 15),none,(.fa 1 (.t 3))⟩,⟨(some 16),none,(.ld (.int .u64) (.t 15))⟩,⟨(some 17),none,(.call fn_modular_Mul [(.t 14),(.t 16)])⟩,⟨(some 18),none,(.bld [(.int .u64 0),(.int .u64 0)] [(0,(1,(.t 12))),(1,(1,(.t 17)))])⟩,⟨none,none,(.st 2 (.t 4) (.t 18))⟩]
 (.take 0 (.take 1 (.take 2 (.take 3 (.take 4 (.take 5 (.take 6 (.take 7 (.take 8 (.take 9 (.take 10 (.take 11 (.take 12 (.take 13 (.bar 14 .done))))))))))))))))
 .ret))
def ts_digest_Join : List (Nat × Tr) := [(1,(.take 0 (.take 1 (.take 2 (.take 3 (.take 4 (.take 5 (.take 6 (.take 7 (.take 8 (.take 9 (.take 10 (.take 11 (.take 12 (.take 13 (.bar 14 .done))))))))))))))))]
set_option maxRecDepth 100000 in
set_option maxHeartbeats 4000000 in
theorem ok_digest_Join : irOf Try.prog fn_digest_Join [] ts_digest_Join = some (19,[(.c 4 2)],ir_digest_Join) := by kernel_rfl
def ir_digest_Repeat : C :=
 (.seq
 (.reg
 [⟨(some 2),none,(.box 2 ty_api_Digest (.t 0))⟩,⟨(some 4),none,(.alc 4 ty_api_Digest [(.int .u64 0),(.int .u64 0)])⟩])
 (.seq
 (.reg
 [⟨(some 6),none,(.call fn_digest_Unit [])⟩,⟨(some 5),none,(.alc 5 ty_api_Digest [(.int .u64 0),(.int .u64 0)])⟩,⟨none,none,(.st 2 (.t 5) (.t 6))⟩])
 (.seq
 (.blk
 0
 (.loop
 (.seq
 (.seq
 (.reg
 [⟨(some 7),none,(.mv (.t 1))⟩,⟨(some 8),none,(.cmp .gtr .i64 (.t 7) (.c (.int .i64 0)))⟩])
 (.cond
 (.t 8)
 .skip
 (.exit 0)))
 (.seq
 (.blk
 1
 (.seq
 (.seq
 (.reg
 [⟨(some 11),none,(.mv (.t 1))⟩,⟨(some 12),none,(.dv true .i64 (.t 11) (.c (.int .i64 2)))⟩,⟨(some 13),none,(.cmp .eql .i64 (.t 12) (.c (.int .i64 1)))⟩])
 (.cond
 (.t 13)
 (.reg
 [⟨(some 14),none,(.lda 2 [(.int .u64),(.int .u64)] (.t 5))⟩,⟨(some 15),none,(.lda 2 [(.int .u64),(.int .u64)] (.t 2))⟩,⟨(some 16),none,(.call fn_digest_Join [(.t 14),(.t 15)])⟩,⟨none,none,(.st 2 (.t 5) (.t 16))⟩])
 .skip))
 (.reg
 [⟨(some 17),none,(.lda 2 [(.int .u64),(.int .u64)] (.t 2))⟩,⟨(some 18),none,(.lda 2 [(.int .u64),(.int .u64)] (.t 2))⟩,⟨(some 19),none,(.call fn_digest_Join [(.t 17),(.t 18)])⟩,⟨none,none,(.st 2 (.t 2) (.t 19))⟩])))
 (.reg
 [⟨(some 9),none,(.mv (.t 1))⟩,⟨(some 10),none,(.dv false .i64 (.t 9) (.c (.int .i64 2)))⟩,⟨(some 1),none,(.mv (.t 10))⟩])))))
 (.seq
 (.reg
 [⟨(some 20),none,(.lda 2 [(.int .u64),(.int .u64)] (.t 5))⟩,⟨none,none,(.st 2 (.t 4) (.t 20))⟩])
 .ret))))
def ts_digest_Repeat : List (Nat × Tr) := []
set_option maxRecDepth 100000 in
set_option maxHeartbeats 4000000 in
theorem ok_digest_Repeat : irOf Try.prog fn_digest_Repeat [] ts_digest_Repeat = some (21,[(.c 4 2)],ir_digest_Repeat) := by kernel_rfl
def ir_length_Valid : C :=
 (.seq
 (.reg
 [⟨(some 2),none,(.mv (.c (.bool false)))⟩])
 (.seq
 (.reg
 [⟨(some 3),none,(.mv (.t 0))⟩,⟨(some 4),none,(.cmp .geq .i64 (.t 3) (.c (.int .i64 0)))⟩,⟨(some 5),none,(.mv (.t 4))⟩,⟨(some 6),(some (5,true)),(.mv (.t 0))⟩,⟨(some 7),(some (5,true)),(.cmp .leq .i64 (.t 6) (.c (.int .i64 1152921504606846976)))⟩,⟨(some 8),none,(.pick (.t 5) (.t 7) (.c (.bool false)))⟩,⟨(some 2),none,(.mv (.t 8))⟩])
 .ret))
def ts_length_Valid : List (Nat × Tr) := []
set_option maxRecDepth 100000 in
set_option maxHeartbeats 4000000 in
theorem ok_length_Valid : irOf Try.prog fn_length_Valid [] ts_length_Valid = some (9,[(.t 2)],ir_length_Valid) := by kernel_rfl
def ir_length_Add : C :=
 (.seq
 (.reg
 [⟨(some 4),none,(.mv (.c (.int .i64 0)))⟩,⟨(some 5),none,(.mv (.c .nilIface))⟩])
 (.seq
 (.seq
 (.reg
 [⟨(some 6),none,(.mv (.t 0))⟩,⟨(some 7),none,(.call fn_length_Valid [(.t 6)])⟩,⟨(some 8),none,(.not (.t 7))⟩,⟨(some 9),none,(.mv (.t 8))⟩,⟨(some 10),(some (9,false)),(.mv (.t 1))⟩,⟨(some 11),(some (9,false)),(.call fn_length_Valid [(.t 10)])⟩,⟨(some 12),(some (9,false)),(.not (.t 11))⟩,⟨(some 13),none,(.pick (.t 9) (.c (.bool true)) (.t 12))⟩])
 (.cond
 (.t 13)
 (.seq
 (.reg
 [⟨(some 14),none,(.mki ty_api_Errno (.c (.int .i64 1)))⟩,⟨(some 4),none,(.mv (.c (.int .i64 0)))⟩,⟨(some 5),none,(.mv (.t 14))⟩])
 .ret)
 .skip))
 (.seq
 (.seq
 (.reg
 [⟨(some 15),none,(.mv (.t 0))⟩,⟨(some 16),none,(.mv (.t 1))⟩,⟨(some 17),none,(.ar .sub .i64 (.c (.int .i64 1152921504606846976)) (.t 16))⟩,⟨(some 18),none,(.cmp .gtr .i64 (.t 15) (.t 17))⟩])
 (.cond
 (.t 18)
 (.seq
 (.reg
 [⟨(some 19),none,(.mki ty_api_Errno (.c (.int .i64 2)))⟩,⟨(some 4),none,(.mv (.c (.int .i64 0)))⟩,⟨(some 5),none,(.mv (.t 19))⟩])
 .ret)
 .skip))
 (.seq
 (.reg
 [⟨(some 20),none,(.mv (.t 0))⟩,⟨(some 21),none,(.mv (.t 1))⟩,⟨(some 22),none,(.ar .add .i64 (.t 20) (.t 21))⟩,⟨(some 4),none,(.mv (.t 22))⟩,⟨(some 5),none,(.mv (.c .nilIface))⟩])
 .ret))))
def ts_length_Add : List (Nat × Tr) := []
set_option maxRecDepth 100000 in
set_option maxHeartbeats 4000000 in
theorem ok_length_Add : irOf Try.prog fn_length_Add [] ts_length_Add = some (23,[(.t 4),(.t 5)],ir_length_Add) := by kernel_rfl
def ir_length_Mul : C :=
 (.seq
 (.reg
 [⟨(some 4),none,(.mv (.c (.int .i64 0)))⟩,⟨(some 5),none,(.mv (.c .nilIface))⟩])
 (.seq
 (.seq
 (.reg
 [⟨(some 6),none,(.mv (.t 0))⟩,⟨(some 7),none,(.call fn_length_Valid [(.t 6)])⟩,⟨(some 8),none,(.not (.t 7))⟩,⟨(some 9),none,(.mv (.t 8))⟩,⟨(some 10),(some (9,false)),(.mv (.t 1))⟩,⟨(some 11),(some (9,false)),(.cmp .lss .i64 (.t 10) (.c (.int .i64 0)))⟩,⟨(some 12),none,(.pick (.t 9) (.c (.bool true)) (.t 11))⟩])
 (.cond
 (.t 12)
 (.seq
 (.reg
 [⟨(some 13),none,(.mki ty_api_Errno (.c (.int .i64 1)))⟩,⟨(some 4),none,(.mv (.c (.int .i64 0)))⟩,⟨(some 5),none,(.mv (.t 13))⟩])
 .ret)
 .skip))
 (.seq
 (.seq
 (.reg
 [⟨(some 14),none,(.mv (.t 0))⟩,⟨(some 15),none,(.cmp .eql .i64 (.t 14) (.c (.int .i64 0)))⟩])
 (.cond
 (.t 15)
 (.seq
 (.reg
 [⟨(some 4),none,(.mv (.c (.int .i64 0)))⟩,⟨(some 5),none,(.mv (.c .nilIface))⟩])
 .ret)
 .skip))
 (.seq
 (.seq
 (.reg
 [⟨(some 16),none,(.mv (.t 1))⟩,⟨(some 17),none,(.mv (.t 0))⟩,⟨(some 18),none,(.dv false .i64 (.c (.int .i64 1152921504606846976)) (.t 17))⟩,⟨(some 19),none,(.cmp .gtr .i64 (.t 16) (.t 18))⟩])
 (.cond
 (.t 19)
 (.seq
 (.reg
 [⟨(some 20),none,(.mki ty_api_Errno (.c (.int .i64 2)))⟩,⟨(some 4),none,(.mv (.c (.int .i64 0)))⟩,⟨(some 5),none,(.mv (.t 20))⟩])
 .ret)
 .skip))
 (.seq
 (.reg
 [⟨(some 21),none,(.mv (.t 0))⟩,⟨(some 22),none,(.mv (.t 1))⟩,⟨(some 23),none,(.ar .mul .i64 (.t 21) (.t 22))⟩,⟨(some 4),none,(.mv (.t 23))⟩,⟨(some 5),none,(.mv (.c .nilIface))⟩])
 .ret)))))
def ts_length_Mul : List (Nat × Tr) := []
set_option maxRecDepth 100000 in
set_option maxHeartbeats 4000000 in
theorem ok_length_Mul : irOf Try.prog fn_length_Mul [] ts_length_Mul = some (24,[(.t 4),(.t 5)],ir_length_Mul) := by kernel_rfl
def ir_length_Clip : C :=
 (.seq
 (.reg
 [⟨(some 6),none,(.mv (.c (.int .i64 0)))⟩])
 (.seq
 (.seq
 (.reg
 [⟨(some 7),none,(.mv (.t 0))⟩,⟨(some 8),none,(.mv (.t 1))⟩,⟨(some 9),none,(.cmp .lss .i64 (.t 7) (.t 8))⟩])
 (.cond
 (.t 9)
 (.seq
 (.reg
 [⟨(some 10),none,(.mv (.t 1))⟩,⟨(some 6),none,(.mv (.t 10))⟩])
 .ret)
 .skip))
 (.seq
 (.seq
 (.reg
 [⟨(some 11),none,(.mv (.t 0))⟩,⟨(some 12),none,(.mv (.t 2))⟩,⟨(some 13),none,(.cmp .gtr .i64 (.t 11) (.t 12))⟩])
 (.cond
 (.t 13)
 (.seq
 (.reg
 [⟨(some 14),none,(.mv (.t 2))⟩,⟨(some 6),none,(.mv (.t 14))⟩])
 .ret)
 .skip))
 (.seq
 (.reg
 [⟨(some 15),none,(.mv (.t 0))⟩,⟨(some 6),none,(.mv (.t 15))⟩])
 .ret))))
def ts_length_Clip : List (Nat × Tr) := []
set_option maxRecDepth 100000 in
set_option maxHeartbeats 4000000 in
theorem ok_length_Clip : irOf Try.prog fn_length_Clip [] ts_length_Clip = some (16,[(.t 6)],ir_length_Clip) := by kernel_rfl
def ir_length_Range : C :=
 (.seq
 (.reg
 [⟨(some 6),none,(.mv (.c .nilIface))⟩])
 (.seq
 (.seq
 (.reg
 [⟨(some 7),none,(.mv (.t 2))⟩,⟨(some 8),none,(.call fn_length_Valid [(.t 7)])⟩,⟨(some 9),none,(.not (.t 8))⟩,⟨(some 10),none,(.mv (.t 9))⟩,⟨(some 11),(some (10,false)),(.mv (.t 0))⟩,⟨(some 12),(some (10,false)),(.cmp .lss .i64 (.t 11) (.c (.int .i64 0)))⟩,⟨(some 13),none,(.pick (.t 10) (.c (.bool true)) (.t 12))⟩,⟨(some 14),none,(.mv (.t 13))⟩,⟨(some 15),(some (14,false)),(.mv (.t 1))⟩,⟨(some 16),(some (14,false)),(.cmp .lss .i64 (.t 15) (.c (.int .i64 0)))⟩,⟨(some 17),none,(.pick (.t 14) (.c (.bool true)) (.t 16))⟩,⟨(some 18),none,(.mv (.t 17))⟩,⟨(some 19),(some (18,false)),(.mv (.t 0))⟩,⟨(some 20),(some (18,false)),(.mv (.t 2))⟩,⟨(some 21),(some (18,false)),(.cmp .gtr .i64 (.t 19) (.t 20))⟩,⟨(some 22),none,(.pick (.t 18) (.c (.bool true)) (.t 21))⟩,⟨(some 23),none,(.mv (.t 22))⟩,⟨(some 24),(some (23,false)),(.mv (.t 1))⟩,⟨(some 25),(some (23,false)),(.mv (.t 2))⟩,⟨(some 26),(some (23,false)),(.mv (.t 0))⟩,⟨(some 27),(some (23,false)),(.ar .sub .i64 (.t 25) (.t 26))⟩,⟨(some 28),(some (23,false)),(.cmp .gtr .i64 (.t 24) (.t 27))⟩,⟨(some 29),none,(.pick (.t 23) (.c (.bool true)) (.t 28))⟩])
 (.cond
 (.t 29)
 (.seq
 (.reg
 [⟨(some 30),none,(.mki ty_api_Errno (.c (.int .i64 1)))⟩,⟨(some 6),none,(.mv (.t 30))⟩])
 .ret)
 .skip))
 (.seq
 (.reg
 [⟨(some 6),none,(.mv (.c .nilIface))⟩])
 .ret)))
def ts_length_Range : List (Nat × Tr) := []
set_option maxRecDepth 100000 in
set_option maxHeartbeats 4000000 in
theorem ok_length_Range : irOf Try.prog fn_length_Range [] ts_length_Range = some (31,[(.t 6)],ir_length_Range) := by kernel_rfl
def ir_weight_Unit : C :=
 (.seq
 (.reg
 [⟨(some 0),none,(.alc 0 ty_api_Weight [(.int .i64 0),(.int .i64 0),(.int .i64 0),(.int .i64 0),(.int .u64 0),(.int .u64 0)])⟩])
 (.seq
 (.reg
 [⟨(some 1),none,(.call fn_digest_Unit [])⟩,⟨(some 2),none,(.bld [(.int .i64 0),(.int .i64 0),(.int .i64 0),(.int .i64 0),(.int .u64 0),(.int .u64 0)] [(4,(2,(.t 1)))])⟩,⟨none,none,(.st 6 (.t 0) (.t 2))⟩])
 .ret))
def ts_weight_Unit : List (Nat × Tr) := []
set_option maxRecDepth 100000 in
set_option maxHeartbeats 4000000 in
theorem ok_weight_Unit : irOf Try.prog fn_weight_Unit [] ts_weight_Unit = some (3,[(.c 0 6)],ir_weight_Unit) := by kernel_rfl
def ir_weight_Letter : C :=
 (.seq
 (.reg
 [⟨(some 2),none,(.alc 2 ty_api_Weight [(.int .i64 0),(.int .i64 0),(.int .i64 0),(.int .i64 0),(.int .u64 0),(.int .u64 0)])⟩])
 (.seq
 (.seq
 (.reg
 [⟨(some 3),none,(.mv (.t 0))⟩,⟨(some 4),none,(.cmp .eql .u8 (.t 3) (.c (.int .u8 10)))⟩])
 (.cond
 (.t 4)
 (.seq
 (.reg
 [⟨(some 5),none,(.mv (.t 0))⟩,⟨(some 6),none,(.call fn_digest_Letter [(.t 5)])⟩,⟨(some 7),none,(.bld [(.int .i64 0),(.int .i64 0),(.int .i64 0),(.int .i64 0),(.int .u64 0),(.int .u64 0)] [(0,(1,(.c (.int .i64 1)))),(1,(1,(.c (.int .i64 1)))),(4,(2,(.t 6)))])⟩,⟨none,none,(.st 6 (.t 2) (.t 7))⟩])
 .ret)
 .skip))
 (.seq
 (.reg
 [⟨(some 8),none,(.mv (.t 0))⟩,⟨(some 9),none,(.call fn_digest_Letter [(.t 8)])⟩,⟨(some 10),none,(.bld [(.int .i64 0),(.int .i64 0),(.int .i64 0),(.int .i64 0),(.int .u64 0),(.int .u64 0)] [(0,(1,(.c (.int .i64 1)))),(2,(1,(.c (.int .i64 1)))),(3,(1,(.c (.int .i64 1)))),(4,(2,(.t 9)))])⟩,⟨none,none,(.st 6 (.t 2) (.t 10))⟩])
 .ret)))
def ts_weight_Letter : List (Nat × Tr) := []
set_option maxRecDepth 100000 in
set_option maxHeartbeats 4000000 in
theorem ok_weight_Letter : irOf Try.prog fn_weight_Letter [] ts_weight_Letter = some (11,[(.c 2 6)],ir_weight_Letter) := by kernel_rfl
def ir_weight_Valid : C :=
 (.seq
 (.reg
 [⟨(some 1),none,(.box 1 ty_api_Weight (.t 0))⟩,⟨(some 2),none,(.mv (.c (.bool false)))⟩])
 (.seq
 (.seq
 (.reg
 [⟨(some 4),none,(.fa 0 (.t 1))⟩,⟨(some 5),none,(.ld (.int .i64) (.t 4))⟩,⟨(some 6),none,(.call fn_length_Valid [(.t 5)])⟩,⟨(some 7),none,(.not (.t 6))⟩,⟨(some 8),none,(.mv (.t 7))⟩,⟨(some 9),(some (8,false)),(.fa 1 (.t 1))⟩,⟨(some 10),(some (8,false)),(.ld (.int .i64) (.t 9))⟩,⟨(some 11),(some (8,false)),(.cmp .lss .i64 (.t 10) (.c (.int .i64 0)))⟩,⟨(some 12),none,(.pick (.t 8) (.c (.bool true)) (.t 11))⟩])
 (.cond
 (.t 12)
 (.seq
 (.reg
 [⟨(some 2),none,(.mv (.c (.bool false)))⟩])
 .ret)
 .skip))
 (.seq
 (.seq
 (.reg
 [⟨(some 13),none,(.fa 1 (.t 1))⟩,⟨(some 14),none,(.ld (.int .i64) (.t 13))⟩,⟨(some 15),none,(.cmp .eql .i64 (.t 14) (.c (.int .i64 0)))⟩])
 (.cond
 (.t 15)
 (.seq
 (.reg
 [⟨(some 16),none,(.fa 2 (.t 1))⟩,⟨(some 17),none,(.ld (.int .i64) (.t 16))⟩,⟨(some 18),none,(.fa 0 (.t 1))⟩,⟨(some 19),none,(.ld (.int .i64) (.t 18))⟩,⟨(some 20),none,(.cmp .neq .i64 (.t 17) (.t 19))⟩,⟨(some 21),none,(.mv (.t 20))⟩,⟨(some 22),(some (21,false)),(.fa 3 (.t 1))⟩,⟨(some 23),(some (21,false)),(.ld (.int .i64) (.t 22))⟩,⟨(some 24),(some (21,false)),(.fa 0 (.t 1))⟩,⟨(some 25),(some (21,false)),(.ld (.int .i64) (.t 24))⟩,⟨(some 26),(some (21,false)),(.cmp .neq .i64 (.t 23) (.t 25))⟩,⟨(some 27),none,(.pick (.t 21) (.c (.bool true)) (.t 26))⟩])
 (.cond
 (.t 27)
 (.seq
 (.reg
 [⟨(some 2),none,(.mv (.c (.bool false)))⟩])
 .ret)
 .skip))
 (.seq
 (.seq
 (.reg
 [⟨(some 28),none,(.fa 2 (.t 1))⟩,⟨(some 29),none,(.ld (.int .i64) (.t 28))⟩,⟨(some 30),none,(.cmp .lss .i64 (.t 29) (.c (.int .i64 0)))⟩,⟨(some 31),none,(.mv (.t 30))⟩,⟨(some 32),(some (31,false)),(.fa 2 (.t 1))⟩,⟨(some 33),(some (31,false)),(.ld (.int .i64) (.t 32))⟩,⟨(some 34),(some (31,false)),(.fa 0 (.t 1))⟩,⟨(some 35),(some (31,false)),(.ld (.int .i64) (.t 34))⟩,⟨(some 36),(some (31,false)),(.cmp .gtr .i64 (.t 33) (.t 35))⟩,⟨(some 37),none,(.pick (.t 31) (.c (.bool true)) (.t 36))⟩,⟨(some 38),none,(.mv (.t 37))⟩,⟨(some 39),(some (38,false)),(.fa 3 (.t 1))⟩,⟨(some 40),(some (38,false)),(.ld (.int .i64) (.t 39))⟩,⟨(some 41),(some (38,false)),(.cmp .lss .i64 (.t 40) (.c (.int .i64 0)))⟩,⟨(some 42),none,(.pick (.t 38) (.c (.bool true)) (.t 41))⟩,⟨(some 43),none,(.mv (.t 42))⟩,⟨(some 44),(some (43,false)),(.fa 3 (.t 1))⟩,⟨(some 45),(some (43,false)),(.ld (.int .i64) (.t 44))⟩,⟨(some 46),(some (43,false)),(.fa 0 (.t 1))⟩,⟨(some 47),(some (43,false)),(.ld (.int .i64) (.t 46))⟩,⟨(some 48),(some (43,false)),(.fa 2 (.t 1))⟩,⟨(some 49),(some (43,false)),(.ld (.int .i64) (.t 48))⟩,⟨(some 50),(some (43,false)),(.ar .sub .i64 (.t 47) (.t 49))⟩,⟨(some 51),(some (43,false)),(.cmp .gtr .i64 (.t 45) (.t 50))⟩,⟨(some 52),none,(.pick (.t 43) (.c (.bool true)) (.t 51))⟩])
 (.cond
 (.t 52)
 (.seq
 (.reg
 [⟨(some 2),none,(.mv (.c (.bool false)))⟩])
 .ret)
 .skip))
 (.seq
 (.reg
 [⟨(some 53),none,(.fa 0 (.t 1))⟩,⟨(some 54),none,(.ld (.int .i64) (.t 53))⟩,⟨(some 55),none,(.fa 2 (.t 1))⟩,⟨(some 56),none,(.ld (.int .i64) (.t 55))⟩,⟨(some 57),none,(.ar .sub .i64 (.t 54) (.t 56))⟩,⟨(some 58),none,(.fa 3 (.t 1))⟩,⟨(some 59),none,(.ld (.int .i64) (.t 58))⟩,⟨(some 60),none,(.ar .sub .i64 (.t 57) (.t 59))⟩,⟨(some 3),none,(.mv (.t 60))⟩])
 (.seq
 (.reg
 [⟨(some 61),none,(.fa 1 (.t 1))⟩,⟨(some 62),none,(.ld (.int .i64) (.t 61))⟩,⟨(some 63),none,(.mv (.t 3))⟩,⟨(some 64),none,(.cmp .gtr .i64 (.t 62) (.t 63))⟩,⟨(some 65),none,(.mv (.t 64))⟩,⟨(some 66),(some (65,false)),(.fa 1 (.t 1))⟩,⟨(some 67),(some (65,false)),(.ld (.int .i64) (.t 66))⟩,⟨(some 68),(some (65,false)),(.cmp .eql .i64 (.t 67) (.c (.int .i64 1)))⟩,⟨(some 69),(some (65,false)),(.mv (.t 68))⟩,⟨(some 70),(some (69,true)),(.mv (.t 3))⟩,⟨(some 71),(some (69,true)),(.cmp .neq .i64 (.t 70) (.c (.int .i64 1)))⟩,⟨(some 72),(some (65,false)),(.pick (.t 69) (.t 71) (.c (.bool false)))⟩,⟨(some 73),none,(.pick (.t 65) (.c (.bool true)) (.t 72))⟩])
 (.cond
 (.t 73)
 (.seq
 (.reg
 [⟨(some 2),none,(.mv (.c (.bool false)))⟩])
 .ret)
 .skip))))))
 (.seq
 (.seq
 (.reg
 [⟨(some 74),none,(.fa 4 (.t 1))⟩,⟨(some 75),none,(.fa 0 (.t 74))⟩,⟨(some 76),none,(.ld (.int .u64) (.t 75))⟩,⟨(some 77),none,(.cmp .geq .u64 (.t 76) (.c (.int .u64 2305843009213693951)))⟩,⟨(some 78),none,(.mv (.t 77))⟩,⟨(some 79),(some (78,false)),(.fa 0 (.t 1))⟩,⟨(some 80),(some (78,false)),(.ld (.int .i64) (.t 79))⟩,⟨(some 81),(some (78,false)),(.cmp .eql .i64 (.t 80) (.c (.int .i64 0)))⟩,⟨(some 82),(some (78,false)),(.mv (.t 81))⟩,⟨(some 83),(some (82,true)),(.fa 4 (.t 1))⟩,⟨(some 84),(some (82,true)),(.fa 0 (.t 83))⟩,⟨(some 85),(some (82,true)),(.ld (.int .u64) (.t 84))⟩,⟨(some 86),(some (82,true)),(.cmp .neq .u64 (.t 85) (.c (.int .u64 0)))⟩,⟨(some 87),(some (78,false)),(.pick (.t 82) (.t 86) (.c (.bool false)))⟩,⟨(some 88),none,(.pick (.t 78) (.c (.bool true)) (.t 87))⟩])
 (.cond
 (.t 88)
 (.seq
 (.reg
 [⟨(some 2),none,(.mv (.c (.bool false)))⟩])
 .ret)
 .skip))
 (.seq
 (.drw
 [⟨(some 89),none,(.fa 4 (.t 1))⟩,⟨(some 90),none,(.fa 1 (.t 89))⟩,⟨(some 91),none,(.ld (.int .u64) (.t 90))⟩,⟨(some 92),none,(.fa 0 (.t 1))⟩,⟨(some 93),none,(.ld (.int .i64) (.t 92))⟩,⟨(some 94),none,(.cv .u64 (.t 93))⟩,⟨(some 95),none,(.call fn_modular_Pow [(.c (.int .u64 1103515245)),(.t 94)])⟩,⟨(some 96),none,(.cmp .eql .u64 (.t 91) (.t 95))⟩,⟨(some 2),none,(.mv (.t 96))⟩]
 (.take 0 (.take 1 (.take 2 (.take 3 (.take 4 (.take 5 (.take 6 (.take 7 (.mov 8 .done))))))))))
 .ret)))))
def ts_weight_Valid : List (Nat × Tr) := [(13,(.take 0 (.take 1 (.take 2 (.take 3 (.take 4 (.take 5 (.take 6 (.take 7 (.mov 8 .done))))))))))]
set_option maxRecDepth 100000 in
set_option maxHeartbeats 4000000 in
theorem ok_weight_Valid : irOf Try.prog fn_weight_Valid [] ts_weight_Valid = some (97,[(.t 2)],ir_weight_Valid) := by kernel_rfl
def ir_weight_Join : C :=
 (.seq
 (.reg
 [⟨(some 2),none,(.box 2 ty_api_Weight (.t 0))⟩,⟨(some 3),none,(.box 3 ty_api_Weight (.t 1))⟩,⟨(some 4),none,(.alc 4 ty_api_Weight [(.int .i64 0),(.int .i64 0),(.int .i64 0),(.int .i64 0),(.int .u64 0),(.int .u64 0)])⟩,⟨(some 5),none,(.mv (.c .nilIface))⟩])
 (.seq
 (.seq
 (.reg
 [⟨(some 9),none,(.lda 6 [(.int .i64),(.int .i64),(.int .i64),(.int .i64),(.int .u64),(.int .u64)] (.t 2))⟩,⟨(some 10),none,(.call fn_weight_Valid [(.t 9)])⟩,⟨(some 11),none,(.not (.t 10))⟩,⟨(some 12),none,(.mv (.t 11))⟩,⟨(some 13),(some (12,false)),(.lda 6 [(.int .i64),(.int .i64),(.int .i64),(.int .i64),(.int .u64),(.int .u64)] (.t 3))⟩,⟨(some 14),(some (12,false)),(.call fn_weight_Valid [(.t 13)])⟩,⟨(some 15),(some (12,false)),(.not (.t 14))⟩,⟨(some 16),none,(.pick (.t 12) (.c (.bool true)) (.t 15))⟩])
 (.cond
 (.t 16)
 (.seq
 (.reg
 [⟨(some 17),none,(.bld [(.int .i64 0),(.int .i64 0),(.int .i64 0),(.int .i64 0),(.int .u64 0),(.int .u64 0)] [])⟩,⟨(some 18),none,(.mki ty_api_Errno (.c (.int .i64 4)))⟩,⟨none,none,(.st 6 (.t 4) (.t 17))⟩,⟨(some 5),none,(.mv (.t 18))⟩])
 .ret)
 .skip))
 (.seq
 (.reg
 [⟨(some 20),none,(.fa 0 (.t 2))⟩,⟨(some 21),none,(.ld (.int .i64) (.t 20))⟩,⟨(some 22),none,(.fa 0 (.t 3))⟩,⟨(some 23),none,(.ld (.int .i64) (.t 22))⟩,⟨(some 24),none,(.call fn_length_Add [(.t 21),(.t 23)])⟩,⟨(some 19),none,(.mv (.t 24))⟩,⟨(some 25),none,(.ext (.t 19) 0)⟩,⟨(some 26),none,(.ext (.t 19) 1)⟩,⟨(some 6),none,(.mv (.t 25))⟩,⟨(some 7),none,(.mv (.t 26))⟩])
 (.seq
 (.seq
 (.reg
 [⟨(some 27),none,(.mv (.t 7))⟩,⟨(some 28),none,(.eqn .ifc true (.t 27))⟩])
 (.cond
 (.t 28)
 (.seq
 (.reg
 [⟨(some 29),none,(.bld [(.int .i64 0),(.int .i64 0),(.int .i64 0),(.int .i64 0),(.int .u64 0),(.int .u64 0)] [])⟩,⟨(some 30),none,(.mki ty_api_Errno (.c (.int .i64 2)))⟩,⟨none,none,(.st 6 (.t 4) (.t 29))⟩,⟨(some 5),none,(.mv (.t 30))⟩])
 .ret)
 .skip))
 (.seq
 (.drw
 [⟨(some 31),none,(.mv (.t 6))⟩,⟨(some 32),none,(.fa 1 (.t 2))⟩,⟨(some 33),none,(.ld (.int .i64) (.t 32))⟩,⟨(some 34),none,(.fa 1 (.t 3))⟩,⟨(some 35),none,(.ld (.int .i64) (.t 34))⟩,⟨(some 36),none,(.ar .add .i64 (.t 33) (.t 35))⟩,⟨(some 37),none,(.fa 2 (.t 2))⟩,⟨(some 38),none,(.ld (.int .i64) (.t 37))⟩,⟨(some 39),none,(.fa 3 (.t 3))⟩,⟨(some 40),none,(.ld (.int .i64) (.t 39))⟩,⟨(some 41),none,(.fa 4 (.t 2))⟩,⟨(some 42),none,(.lda 2 [(.int .u64),(.int .u64)] (.t 41))⟩,⟨(some 43),none,(.fa 4 (.t 3))⟩,⟨(some 44),none,(.lda 2 [(.int .u64),(.int .u64)] (.t 43))⟩,⟨(some 45),none,(.call fn_digest_Join [(.t 42),(.t 44)])⟩,⟨(some 46),none,(.bld [(.int .i64 0),(.int .i64 0),(.int .i64 0),(.int .i64 0),(.int .u64 0),(.int .u64 0)] [(0,(1,(.t 31))),(1,(1,(.t 36))),(2,(1,(.t 38))),(3,(1,(.t 40))),(4,(2,(.t 45)))])⟩,⟨(some 8),none,(.alc 8 ty_api_Weight [(.int .i64 0),(.int .i64 0),(.int .i64 0),(.int .i64 0),(.int .u64 0),(.int .u64 0)])⟩,⟨none,none,(.st 6 (.t 8) (.t 46))⟩]
 (.mov 0 (.take 1 (.take 2 (.take 3 (.take 4 (.take 5 (.take 6 (.take 7 (.take 8 (.take 9 (.take 10 (.take 11 (.take 12 (.take 13 (.take 14 (.take 15 (.alt 16 true (.bar 17 .done) .nil))))))))))))))))))
 (.seq
 (.seq
 (.reg
 [⟨(some 47),none,(.fa 1 (.t 2))⟩,⟨(some 48),none,(.ld (.int .i64) (.t 47))⟩,⟨(some 49),none,(.cmp .eql .i64 (.t 48) (.c (.int .i64 0)))⟩])
 (.cond
 (.t 49)
 (.reg
 [⟨(some 50),none,(.fa 0 (.t 2))⟩,⟨(some 51),none,(.ld (.int .i64) (.t 50))⟩,⟨(some 52),none,(.fa 2 (.t 3))⟩,⟨(some 53),none,(.ld (.int .i64) (.t 52))⟩,⟨(some 54),none,(.ar .add .i64 (.t 51) (.t 53))⟩,⟨(some 55),none,(.fa 2 (.t 8))⟩,⟨none,none,(.st 1 (.t 55) (.t 54))⟩])
 .skip))
 (.seq
 (.seq
 (.reg
 [⟨(some 56),none,(.fa 1 (.t 3))⟩,⟨(some 57),none,(.ld (.int .i64) (.t 56))⟩,⟨(some 58),none,(.cmp .eql .i64 (.t 57) (.c (.int .i64 0)))⟩])
 (.cond
 (.t 58)
 (.reg
 [⟨(some 59),none,(.fa 0 (.t 3))⟩,⟨(some 60),none,(.ld (.int .i64) (.t 59))⟩,⟨(some 61),none,(.fa 3 (.t 2))⟩,⟨(some 62),none,(.ld (.int .i64) (.t 61))⟩,⟨(some 63),none,(.ar .add .i64 (.t 60) (.t 62))⟩,⟨(some 64),none,(.fa 3 (.t 8))⟩,⟨none,none,(.st 1 (.t 64) (.t 63))⟩])
 .skip))
 (.seq
 (.reg
 [⟨(some 65),none,(.lda 6 [(.int .i64),(.int .i64),(.int .i64),(.int .i64),(.int .u64),(.int .u64)] (.t 8))⟩,⟨none,none,(.st 6 (.t 4) (.t 65))⟩,⟨(some 5),none,(.mv (.c .nilIface))⟩])
 .ret))))))))
def ts_weight_Join : List (Nat × Tr) := [(6,(.mov 0 (.take 1 (.take 2 (.take 3 (.take 4 (.take 5 (.take 6 (.take 7 (.take 8 (.take 9 (.take 10 (.take 11 (.take 12 (.take 13 (.take 14 (.take 15 (.alt 16 true (.bar 17 .done) .nil))))))))))))))))))]
set_option maxRecDepth 100000 in
set_option maxHeartbeats 4000000 in
theorem ok_weight_Join : irOf Try.prog fn_weight_Join [] ts_weight_Join = some (66,[(.c 4 6),(.t 5)],ir_weight_Join) := by kernel_rfl
def ir_weight_Repeat : C :=
 (.seq
 (.reg
 [⟨(some 2),none,(.box 2 ty_api_Weight (.t 0))⟩,⟨(some 4),none,(.alc 4 ty_api_Weight [(.int .i64 0),(.int .i64 0),(.int .i64 0),(.int .i64 0),(.int .u64 0),(.int .u64 0)])⟩,⟨(some 5),none,(.mv (.c .nilIface))⟩])
 (.seq
 (.seq
 (.reg
 [⟨(some 9),none,(.lda 6 [(.int .i64),(.int .i64),(.int .i64),(.int .i64),(.int .u64),(.int .u64)] (.t 2))⟩,⟨(some 10),none,(.call fn_weight_Valid [(.t 9)])⟩,⟨(some 11),none,(.not (.t 10))⟩])
 (.cond
 (.t 11)
 (.seq
 (.reg
 [⟨(some 12),none,(.bld [(.int .i64 0),(.int .i64 0),(.int .i64 0),(.int .i64 0),(.int .u64 0),(.int .u64 0)] [])⟩,⟨(some 13),none,(.mki ty_api_Errno (.c (.int .i64 4)))⟩,⟨none,none,(.st 6 (.t 4) (.t 12))⟩,⟨(some 5),none,(.mv (.t 13))⟩])
 .ret)
 .skip))
 (.seq
 (.seq
 (.reg
 [⟨(some 14),none,(.mv (.t 1))⟩,⟨(some 15),none,(.cmp .lss .i64 (.t 14) (.c (.int .i64 0)))⟩])
 (.cond
 (.t 15)
 (.seq
 (.reg
 [⟨(some 16),none,(.bld [(.int .i64 0),(.int .i64 0),(.int .i64 0),(.int .i64 0),(.int .u64 0),(.int .u64 0)] [])⟩,⟨(some 17),none,(.mki ty_api_Errno (.c (.int .i64 1)))⟩,⟨none,none,(.st 6 (.t 4) (.t 16))⟩,⟨(some 5),none,(.mv (.t 17))⟩])
 .ret)
 .skip))
 (.seq
 (.reg
 [⟨(some 19),none,(.fa 0 (.t 2))⟩,⟨(some 20),none,(.ld (.int .i64) (.t 19))⟩,⟨(some 21),none,(.mv (.t 1))⟩,⟨(some 22),none,(.call fn_length_Mul [(.t 20),(.t 21)])⟩,⟨(some 18),none,(.mv (.t 22))⟩,⟨(some 23),none,(.ext (.t 18) 0)⟩,⟨(some 24),none,(.ext (.t 18) 1)⟩,⟨(some 6),none,(.mv (.t 23))⟩,⟨(some 7),none,(.mv (.t 24))⟩])
 (.seq
 (.seq
 (.reg
 [⟨(some 25),none,(.mv (.t 7))⟩,⟨(some 26),none,(.eqn .ifc true (.t 25))⟩])
 (.cond
 (.t 26)
 (.seq
 (.reg
 [⟨(some 27),none,(.bld [(.int .i64 0),(.int .i64 0),(.int .i64 0),(.int .i64 0),(.int .u64 0),(.int .u64 0)] [])⟩,⟨(some 28),none,(.mki ty_api_Errno (.c (.int .i64 2)))⟩,⟨none,none,(.st 6 (.t 4) (.t 27))⟩,⟨(some 5),none,(.mv (.t 28))⟩])
 .ret)
 .skip))
 (.seq
 (.seq
 (.reg
 [⟨(some 29),none,(.mv (.t 6))⟩,⟨(some 30),none,(.cmp .eql .i64 (.t 29) (.c (.int .i64 0)))⟩])
 (.cond
 (.t 30)
 (.seq
 (.reg
 [⟨(some 31),none,(.call fn_weight_Unit [])⟩,⟨none,none,(.st 6 (.t 4) (.t 31))⟩,⟨(some 5),none,(.mv (.c .nilIface))⟩])
 .ret)
 .skip))
 (.seq
 (.drw
 [⟨(some 32),none,(.mv (.t 6))⟩,⟨(some 33),none,(.fa 1 (.t 2))⟩,⟨(some 34),none,(.ld (.int .i64) (.t 33))⟩,⟨(some 35),none,(.mv (.t 1))⟩,⟨(some 36),none,(.ar .mul .i64 (.t 34) (.t 35))⟩,⟨(some 37),none,(.fa 2 (.t 2))⟩,⟨(some 38),none,(.ld (.int .i64) (.t 37))⟩,⟨(some 39),none,(.fa 3 (.t 2))⟩,⟨(some 40),none,(.ld (.int .i64) (.t 39))⟩,⟨(some 41),none,(.fa 4 (.t 2))⟩,⟨(some 42),none,(.lda 2 [(.int .u64),(.int .u64)] (.t 41))⟩,⟨(some 43),none,(.mv (.t 1))⟩,⟨(some 44),none,(.call fn_digest_Repeat [(.t 42),(.t 43)])⟩,⟨(some 45),none,(.bld [(.int .i64 0),(.int .i64 0),(.int .i64 0),(.int .i64 0),(.int .u64 0),(.int .u64 0)] [(0,(1,(.t 32))),(1,(1,(.t 36))),(2,(1,(.t 38))),(3,(1,(.t 40))),(4,(2,(.t 44)))])⟩,⟨(some 8),none,(.alc 8 ty_api_Weight [(.int .i64 0),(.int .i64 0),(.int .i64 0),(.int .i64 0),(.int .u64 0),(.int .u64 0)])⟩,⟨none,none,(.st 6 (.t 8) (.t 45))⟩]
 (.mov 0 (.take 1 (.take 2 (.mov 3 (.take 4 (.take 5 (.take 6 (.take 7 (.take 8 (.take 9 (.take 10 (.mov 11 (.take 12 (.take 13 (.alt 14 true (.bar 15 .done) .nil))))))))))))))))
 (.seq
 (.seq
 (.reg
 [⟨(some 46),none,(.fa 1 (.t 2))⟩,⟨(some 47),none,(.ld (.int .i64) (.t 46))⟩,⟨(some 48),none,(.cmp .eql .i64 (.t 47) (.c (.int .i64 0)))⟩])
 (.cond
 (.t 48)
 (.reg
 [⟨(some 49),none,(.mv (.t 6))⟩,⟨(some 50),none,(.mv (.t 6))⟩,⟨(some 51),none,(.fa 2 (.t 8))⟩,⟨none,none,(.st 1 (.t 51) (.t 49))⟩,⟨(some 52),none,(.fa 3 (.t 8))⟩,⟨none,none,(.st 1 (.t 52) (.t 50))⟩])
 .skip))
 (.seq
 (.reg
 [⟨(some 53),none,(.lda 6 [(.int .i64),(.int .i64),(.int .i64),(.int .i64),(.int .u64),(.int .u64)] (.t 8))⟩,⟨none,none,(.st 6 (.t 4) (.t 53))⟩,⟨(some 5),none,(.mv (.c .nilIface))⟩])
 .ret)))))))))
def ts_weight_Repeat : List (Nat × Tr) := [(10,(.mov 0 (.take 1 (.take 2 (.mov 3 (.take 4 (.take 5 (.take 6 (.take 7 (.take 8 (.take 9 (.take 10 (.mov 11 (.take 12 (.take 13 (.alt 14 true (.bar 15 .done) .nil))))))))))))))))]
set_option maxRecDepth 100000 in
set_option maxHeartbeats 4000000 in
theorem ok_weight_Repeat : irOf Try.prog fn_weight_Repeat [] ts_weight_Repeat = some (54,[(.c 4 6),(.t 5)],ir_weight_Repeat) := by kernel_rfl
def ir_rule_Refs : C :=
 (.seq
 (.reg
 [⟨(some 1),none,(.box 1 ty_api_Rule (.t 0))⟩,⟨(some 2),none,(.mv (.c (.slice none 0 0)))⟩])
 (.seq
 (.seq
 (.reg
 [⟨(some 3),none,(.fa 0 (.t 1))⟩,⟨(some 4),none,(.ld (.int .i64) (.t 3))⟩])
 (.blk
 0
 (.seq
 (.reg
 [⟨(some 6),none,(.cmp .eql .i64 (.t 4) (.c (.int .i64 2)))⟩,⟨(some 5),none,(.mv (.t 6))⟩])
 (.cond
 (.t 5)
 (.seq
 (.reg
 [⟨(some 7),none,(.fa 2 (.t 1))⟩,⟨(some 8),none,(.ld (.int .i64) (.t 7))⟩,⟨(some 9),none,(.fa 3 (.t 1))⟩,⟨(some 10),none,(.ld (.int .i64) (.t 9))⟩,⟨(some 11),none,(.bsl 11 ty_api_ID 1 2 [(.int .i64 0),(.int .i64 0)] [(0,(1,(.t 8))),(1,(1,(.t 10)))])⟩,⟨(some 2),none,(.mv (.t 11))⟩])
 .ret)
 (.seq
 (.reg
 [⟨(some 13),none,(.cmp .eql .i64 (.t 4) (.c (.int .i64 3)))⟩,⟨(some 12),none,(.mv (.t 13))⟩])
 (.cond
 (.t 12)
 (.seq
 (.reg
 [⟨(some 14),none,(.fa 2 (.t 1))⟩,⟨(some 15),none,(.ld (.int .i64) (.t 14))⟩,⟨(some 16),none,(.bsl 16 ty_api_ID 1 1 [(.int .i64 0)] [(0,(1,(.t 15)))])⟩,⟨(some 2),none,(.mv (.t 16))⟩])
 .ret)
 .skip))))))
 (.seq
 (.reg
 [⟨(some 2),none,(.mv (.c (.slice none 0 0)))⟩])
 .ret)))
def ts_rule_Refs : List (Nat × Tr) := []
set_option maxRecDepth 100000 in
set_option maxHeartbeats 4000000 in
theorem ok_rule_Refs : irOf Try.prog fn_rule_Refs [] ts_rule_Refs = some (17,[(.t 2)],ir_rule_Refs) := by kernel_rfl
def ir_P_intern_Store_known : C :=
 (.seq
 (.reg
 [⟨(some 4),none,(.mv (.c (.bool false)))⟩])
 (.seq
 (.reg
 [⟨(some 5),none,(.mv (.t 1))⟩,⟨(some 6),none,(.cmp .geq .i64 (.t 5) (.c (.int .i64 0)))⟩,⟨(some 7),none,(.mv (.t 6))⟩,⟨(some 8),(some (7,true)),(.mv (.t 1))⟩,⟨(some 9),(some (7,true)),(.mv (.t 0))⟩,⟨(some 10),(some (7,true)),(.nil (.t 9))⟩,⟨(some 11),(some (7,true)),(.fa 1 (.t 10))⟩,⟨(some 12),(some (7,true)),(.ld .slc (.t 11))⟩,⟨(some 13),(some (7,true)),(.lens (.t 12))⟩,⟨(some 14),(some (7,true)),(.cmp .leq .i64 (.t 8) (.t 13))⟩,⟨(some 15),none,(.pick (.t 7) (.t 14) (.c (.bool false)))⟩,⟨(some 4),none,(.mv (.t 15))⟩])
 .ret))
def ts_P_intern_Store_known : List (Nat × Tr) := []
set_option maxRecDepth 100000 in
set_option maxHeartbeats 4000000 in
theorem ok_P_intern_Store_known : irOf Try.prog fn_P_intern_Store_known [] ts_P_intern_Store_known = some (16,[(.t 4)],ir_P_intern_Store_known) := by kernel_rfl
def ir_P_intern_Store_at : C :=
 (.seq
 (.reg
 [⟨(some 4),none,(.alc 4 ty_intern_entry [(.int .i64 0),(.int .u8 0),(.int .i64 0),(.int .i64 0),(.int .i64 0),(.int .i64 0),(.int .i64 0),(.int .i64 0),(.int .i64 0),(.int .u64 0),(.int .u64 0),(.int .i64 0),(.bool false)])⟩])
 (.seq
 (.seq
 (.reg
 [⟨(some 5),none,(.mv (.t 1))⟩,⟨(some 6),none,(.cmp .eql .i64 (.t 5) (.c (.int .i64 0)))⟩])
 (.cond
 (.t 6)
 (.seq
 (.reg
 [⟨(some 7),none,(.call fn_weight_Unit [])⟩,⟨(some 8),none,(.bld [(.int .i64 0),(.int .u8 0),(.int .i64 0),(.int .i64 0),(.int .i64 0),(.int .i64 0),(.int .i64 0),(.int .i64 0),(.int .i64 0),(.int .u64 0),(.int .u64 0),(.int .i64 0),(.bool false)] [(5,(6,(.t 7))),(12,(1,(.c (.bool true))))])⟩,⟨none,none,(.st 13 (.t 4) (.t 8))⟩])
 .ret)
 .skip))
 (.seq
 (.reg
 [⟨(some 9),none,(.mv (.t 0))⟩,⟨(some 10),none,(.nil (.t 9))⟩,⟨(some 11),none,(.fa 1 (.t 10))⟩,⟨(some 12),none,(.ld .slc (.t 11))⟩,⟨(some 13),none,(.mv (.t 1))⟩,⟨(some 14),none,(.ar .sub .i64 (.t 13) (.c (.int .i64 1)))⟩,⟨(some 15),none,(.ia 13 (.t 12) (.t 14))⟩,⟨(some 16),none,(.lda 13 [(.int .i64),(.int .u8),(.int .i64),(.int .i64),(.int .i64),(.int .i64),(.int .i64),(.int .i64),(.int .i64),(.int .u64),(.int .u64),(.int .i64),.bool] (.t 15))⟩,⟨none,none,(.st 13 (.t 4) (.t 16))⟩])
 .ret)))
def ts_P_intern_Store_at : List (Nat × Tr) := []
set_option maxRecDepth 100000 in
set_option maxHeartbeats 4000000 in
theorem ok_P_intern_Store_at : irOf Try.prog fn_P_intern_Store_at [] ts_P_intern_Store_at = some (17,[(.c 4 13)],ir_P_intern_Store_at) := by kernel_rfl
def ir_P_intern_Store_find : C :=
 (.seq
 (.reg
 [⟨(some 3),none,(.box 3 ty_api_Rule (.t 1))⟩,⟨(some 4),none,(.mv (.c (.int .i64 0)))⟩,⟨(some 5),none,(.mv (.c .nilIface))⟩])
 (.seq
 (.seq
 (.drw
 [⟨(some 9),none,(.mv (.t 0))⟩,⟨(some 10),none,(.nil (.t 9))⟩,⟨(some 11),none,(.fa 2 (.t 10))⟩,⟨(some 12),none,(.ld .map (.t 11))⟩,⟨(some 13),none,(.lda 5 [(.int .i64),(.int .u8),(.int .i64),(.int .i64),(.int .i64)] (.t 3))⟩,⟨(some 14),none,(.lku (.agg [(.int .i64),(.int .u8),(.int .i64),(.int .i64),(.int .i64)]) true (.int .i64 0) (.t 12) (.t 13))⟩,⟨(some 8),none,(.mv (.t 14))⟩,⟨(some 15),none,(.ext (.t 8) 0)⟩,⟨(some 16),none,(.ext (.t 8) 1)⟩,⟨(some 6),none,(.mv (.t 15))⟩,⟨(some 7),none,(.mv (.t 16))⟩]
 (.mov 0 (.take 1 (.take 2 (.take 3 (.take 4 (.take 5 (.mov 6 (.mov 7 (.mov 8 (.mov 9 (.mov 10 .done))))))))))))
 (.seq
 (.reg
 [⟨(some 17),none,(.mv (.t 7))⟩])
 (.cond
 (.t 17)
 (.seq
 (.reg
 [⟨(some 18),none,(.mv (.t 6))⟩,⟨(some 4),none,(.mv (.t 18))⟩,⟨(some 5),none,(.mv (.c .nilIface))⟩])
 .ret)
 .skip)))
 (.seq
 (.seq
 (.drw
 [⟨(some 19),none,(.mv (.t 0))⟩,⟨(some 20),none,(.nil (.t 19))⟩,⟨(some 21),none,(.fa 1 (.t 20))⟩,⟨(some 22),none,(.ld .slc (.t 21))⟩,⟨(some 23),none,(.lens (.t 22))⟩,⟨(some 24),none,(.mv (.t 0))⟩,⟨(some 25),none,(.nil (.t 24))⟩,⟨(some 26),none,(.fa 0 (.t 25))⟩,⟨(some 27),none,(.ld (.int .i64) (.t 26))⟩,⟨(some 28),none,(.cmp .geq .i64 (.t 23) (.t 27))⟩]
 (.mov 0 (.take 1 (.take 2 (.take 3 (.take 4 (.mov 5 (.take 6 (.take 7 (.take 8 (.take 9 .done)))))))))))
 (.cond
 (.t 28)
 (.seq
 (.reg
 [⟨(some 29),none,(.mki ty_api_Errno (.c (.int .i64 3)))⟩,⟨(some 4),none,(.mv (.c (.int .i64 0)))⟩,⟨(some 5),none,(.mv (.t 29))⟩])
 .ret)
 .skip))
 (.seq
 (.reg
 [⟨(some 4),none,(.mv (.c (.int .i64 0)))⟩,⟨(some 5),none,(.mv (.c .nilIface))⟩])
 .ret))))
def ts_P_intern_Store_find : List (Nat × Tr) := [(1,(.mov 0 (.take 1 (.take 2 (.take 3 (.take 4 (.take 5 (.mov 6 (.mov 7 (.mov 8 (.mov 9 (.mov 10 .done)))))))))))),(4,(.mov 0 (.take 1 (.take 2 (.take 3 (.take 4 (.mov 5 (.take 6 (.take 7 (.take 8 (.take 9 .done)))))))))))]
set_option maxRecDepth 100000 in
set_option maxHeartbeats 4000000 in
theorem ok_P_intern_Store_find : irOf Try.prog fn_P_intern_Store_find [] ts_P_intern_Store_find = some (30,[(.t 4),(.t 5)],ir_P_intern_Store_find) := by kernel_rfl
def ir_P_intern_Store_add : C :=
 (.seq
 (.reg
 [⟨(some 3),none,(.box 3 ty_intern_entry (.t 1))⟩,⟨(some 4),none,(.mv (.c (.int .i64 0)))⟩])
 (.seq
 (.drw
 [⟨(some 6),none,(.mv (.t 0))⟩,⟨(some 7),none,(.mv (.t 0))⟩,⟨(some 8),none,(.nil (.t 7))⟩,⟨(some 9),none,(.fa 1 (.t 8))⟩,⟨(some 10),none,(.ld .slc (.t 9))⟩,⟨(some 11),none,(.lda 13 [(.int .i64),(.int .u8),(.int .i64),(.int .i64),(.int .i64),(.int .i64),(.int .i64),(.int .i64),(.int .i64),(.int .u64),(.int .u64),(.int .i64),.bool] (.t 3))⟩,⟨(some 12),none,(.bsl 12 ty_intern_entry 13 1 [(.int .i64 0),(.int .u8 0),(.int .i64 0),(.int .i64 0),(.int .i64 0),(.int .i64 0),(.int .i64 0),(.int .i64 0),(.int .i64 0),(.int .u64 0),(.int .u64 0),(.int .i64 0),(.bool false)] [(0,(13,(.t 11)))])⟩,⟨(some 13),none,(.app 13 ty_intern_entry 13 104 (.t 10) (.t 12))⟩,⟨(some 14),none,(.nil (.t 6))⟩,⟨(some 15),none,(.fa 1 (.t 14))⟩,⟨none,none,(.st 1 (.t 15) (.t 13))⟩]
 (.mov 0 (.mov 1 (.take 2 (.take 3 (.take 4 (.take 5 (.alt 6 true (.bar 7 (.take 8 (.take 9 (.bar 10 .done)))) .nil))))))))
 (.seq
 (.reg
 [⟨(some 16),none,(.mv (.t 0))⟩,⟨(some 17),none,(.nil (.t 16))⟩,⟨(some 18),none,(.fa 1 (.t 17))⟩,⟨(some 19),none,(.ld .slc (.t 18))⟩,⟨(some 20),none,(.lens (.t 19))⟩,⟨(some 5),none,(.mv (.t 20))⟩])
 (.seq
 (.drw
 [⟨(some 21),none,(.mv (.t 0))⟩,⟨(some 22),none,(.nil (.t 21))⟩,⟨(some 23),none,(.fa 2 (.t 22))⟩,⟨(some 24),none,(.ld .map (.t 23))⟩,⟨(some 25),none,(.fa 0 (.t 3))⟩,⟨(some 26),none,(.lda 5 [(.int .i64),(.int .u8),(.int .i64),(.int .i64),(.int .i64)] (.t 25))⟩,⟨(some 27),none,(.mv (.t 5))⟩,⟨none,none,(.mup (.agg [(.int .i64),(.int .u8),(.int .i64),(.int .i64),(.int .i64)]) (.t 24) (.t 26) (.t 27))⟩]
 (.mov 0 (.take 1 (.take 2 (.take 3 (.take 4 (.take 5 (.mov 6 (.bar 7 .done)))))))))
 (.seq
 (.reg
 [⟨(some 28),none,(.mv (.t 5))⟩,⟨(some 4),none,(.mv (.t 28))⟩])
 .ret)))))
def ts_P_intern_Store_add : List (Nat × Tr) := [(1,(.mov 0 (.mov 1 (.take 2 (.take 3 (.take 4 (.take 5 (.alt 6 true (.bar 7 (.take 8 (.take 9 (.bar 10 .done)))) .nil)))))))),(3,(.mov 0 (.take 1 (.take 2 (.take 3 (.take 4 (.take 5 (.mov 6 (.bar 7 .done)))))))))]
set_option maxRecDepth 100000 in
set_option maxHeartbeats 4000000 in
theorem ok_P_intern_Store_add : irOf Try.prog fn_P_intern_Store_add [] ts_P_intern_Store_add = some (29,[(.t 4)],ir_P_intern_Store_add) := by kernel_rfl
def ir_P_intern_Store_Letter : C :=
 (.seq
 (.reg
 [⟨(some 4),none,(.mv (.c (.int .i64 0)))⟩,⟨(some 5),none,(.mv (.c .nilIface))⟩])
 (.seq
 (.seq
 (.reg
 [⟨(some 9),none,(.mv (.t 0))⟩,⟨(some 10),none,(.eqn .ptr false (.t 9))⟩])
 (.cond
 (.t 10)
 (.seq
 (.reg
 [⟨(some 11),none,(.mki ty_api_Errno (.c (.int .i64 5)))⟩,⟨(some 4),none,(.mv (.c (.int .i64 0)))⟩,⟨(some 5),none,(.mv (.t 11))⟩])
 .ret)
 .skip))
 (.seq
 (.reg
 [⟨(some 12),none,(.mv (.t 1))⟩,⟨(some 13),none,(.bld [(.int .i64 0),(.int .u8 0),(.int .i64 0),(.int .i64 0),(.int .i64 0)] [(0,(1,(.c (.int .i64 1)))),(1,(1,(.t 12)))])⟩,⟨(some 6),none,(.alc 6 ty_api_Rule [(.int .i64 0),(.int .u8 0),(.int .i64 0),(.int .i64 0),(.int .i64 0)])⟩,⟨none,none,(.st 5 (.t 6) (.t 13))⟩])
 (.seq
 (.seq
 (.reg
 [⟨(some 15),none,(.mv (.t 0))⟩,⟨(some 16),none,(.lda 5 [(.int .i64),(.int .u8),(.int .i64),(.int .i64),(.int .i64)] (.t 6))⟩,⟨(some 17),none,(.call fn_P_intern_Store_find [(.t 15),(.t 16)])⟩,⟨(some 14),none,(.mv (.t 17))⟩,⟨(some 18),none,(.ext (.t 14) 0)⟩,⟨(some 19),none,(.ext (.t 14) 1)⟩,⟨(some 7),none,(.mv (.t 18))⟩,⟨(some 8),none,(.mv (.t 19))⟩])
 (.seq
 (.reg
 [⟨(some 20),none,(.mv (.t 7))⟩,⟨(some 21),none,(.cmp .neq .i64 (.t 20) (.c (.int .i64 0)))⟩,⟨(some 22),none,(.mv (.t 21))⟩,⟨(some 23),(some (22,false)),(.mv (.t 8))⟩,⟨(some 24),(some (22,false)),(.eqn .ifc true (.t 23))⟩,⟨(some 25),none,(.pick (.t 22) (.c (.bool true)) (.t 24))⟩])
 (.cond
 (.t 25)
 (.seq
 (.reg
 [⟨(some 26),none,(.mv (.t 7))⟩,⟨(some 27),none,(.mv (.t 8))⟩,⟨(some 4),none,(.mv (.t 26))⟩,⟨(some 5),none,(.mv (.t 27))⟩])
 .ret)
 .skip)))
 (.seq
 (.drw
 [⟨(some 28),none,(.mv (.t 0))⟩,⟨(some 29),none,(.lda 5 [(.int .i64),(.int .u8),(.int .i64),(.int .i64),(.int .i64)] (.t 6))⟩,⟨(some 30),none,(.mv (.t 1))⟩,⟨(some 31),none,(.call fn_weight_Letter [(.t 30)])⟩,⟨(some 32),none,(.bld [(.int .i64 0),(.int .u8 0),(.int .i64 0),(.int .i64 0),(.int .i64 0),(.int .i64 0),(.int .i64 0),(.int .i64 0),(.int .i64 0),(.int .u64 0),(.int .u64 0),(.int .i64 0),(.bool false)] [(0,(5,(.t 29))),(5,(6,(.t 31))),(12,(1,(.c (.bool true))))])⟩,⟨(some 33),none,(.call fn_P_intern_Store_add [(.t 28),(.t 32)])⟩,⟨(some 4),none,(.mv (.t 33))⟩,⟨(some 5),none,(.mv (.c .nilIface))⟩]
 (.mov 0 (.take 1 (.mov 2 (.take 3 (.take 4 (.bar 5 (.mov 6 (.mov 7 .done)))))))))
 .ret)))))
def ts_P_intern_Store_Letter : List (Nat × Tr) := [(7,(.mov 0 (.take 1 (.mov 2 (.take 3 (.take 4 (.bar 5 (.mov 6 (.mov 7 .done)))))))))]
set_option maxRecDepth 100000 in
set_option maxHeartbeats 4000000 in
theorem ok_P_intern_Store_Letter : irOf Try.prog fn_P_intern_Store_Letter [] ts_P_intern_Store_Letter = some (34,[(.t 4),(.t 5)],ir_P_intern_Store_Letter) := by kernel_rfl
def ir_P_intern_Store_Pair : C :=
 (.seq
 (.reg
 [⟨(some 6),none,(.mv (.c (.int .i64 0)))⟩,⟨(some 7),none,(.mv (.c .nilIface))⟩])
 (.seq
 (.seq
 (.reg
 [⟨(some 18),none,(.mv (.t 0))⟩,⟨(some 19),none,(.eqn .ptr false (.t 18))⟩])
 (.cond
 (.t 19)
 (.seq
 (.reg
 [⟨(some 20),none,(.mki ty_api_Errno (.c (.int .i64 5)))⟩,⟨(some 6),none,(.mv (.c (.int .i64 0)))⟩,⟨(some 7),none,(.mv (.t 20))⟩])
 .ret)
 .skip))
 (.seq
 (.seq
 (.reg
 [⟨(some 21),none,(.mv (.t 0))⟩,⟨(some 22),none,(.mv (.t 1))⟩,⟨(some 23),none,(.call fn_P_intern_Store_known [(.t 21),(.t 22)])⟩,⟨(some 24),none,(.not (.t 23))⟩,⟨(some 25),none,(.mv (.t 24))⟩,⟨(some 26),(some (25,false)),(.mv (.t 0))⟩,⟨(some 27),(some (25,false)),(.mv (.t 2))⟩,⟨(some 28),(some (25,false)),(.call fn_P_intern_Store_known [(.t 26),(.t 27)])⟩,⟨(some 29),(some (25,false)),(.not (.t 28))⟩,⟨(some 30),none,(.pick (.t 25) (.c (.bool true)) (.t 29))⟩])
 (.cond
 (.t 30)
 (.seq
 (.reg
 [⟨(some 31),none,(.mki ty_api_Errno (.c (.int .i64 1)))⟩,⟨(some 6),none,(.mv (.c (.int .i64 0)))⟩,⟨(some 7),none,(.mv (.t 31))⟩])
 .ret)
 .skip))
 (.seq
 (.seq
 (.reg
 [⟨(some 32),none,(.mv (.t 1))⟩,⟨(some 33),none,(.cmp .eql .i64 (.t 32) (.c (.int .i64 0)))⟩])
 (.cond
 (.t 33)
 (.seq
 (.reg
 [⟨(some 34),none,(.mv (.t 2))⟩,⟨(some 6),none,(.mv (.t 34))⟩,⟨(some 7),none,(.mv (.c .nilIface))⟩])
 .ret)
 .skip))
 (.seq
 (.seq
 (.reg
 [⟨(some 35),none,(.mv (.t 2))⟩,⟨(some 36),none,(.cmp .eql .i64 (.t 35) (.c (.int .i64 0)))⟩])
 (.cond
 (.t 36)
 (.seq
 (.reg
 [⟨(some 37),none,(.mv (.t 1))⟩,⟨(some 6),none,(.mv (.t 37))⟩,⟨(some 7),none,(.mv (.c .nilIface))⟩])
 .ret)
 .skip))
 (.seq
 (.reg
 [⟨(some 38),none,(.mv (.t 0))⟩,⟨(some 39),none,(.mv (.t 1))⟩,⟨(some 40),none,(.call fn_P_intern_Store_at [(.t 38),(.t 39)])⟩,⟨(some 41),none,(.mv (.t 0))⟩,⟨(some 42),none,(.mv (.t 2))⟩,⟨(some 43),none,(.call fn_P_intern_Store_at [(.t 41),(.t 42)])⟩,⟨(some 8),none,(.alc 8 ty_intern_entry [(.int .i64 0),(.int .u8 0),(.int .i64 0),(.int .i64 0),(.int .i64 0),(.int .i64 0),(.int .i64 0),(.int .i64 0),(.int .i64 0),(.int .u64 0),(.int .u64 0),(.int .i64 0),(.bool false)])⟩,⟨(some 9),none,(.alc 9 ty_intern_entry [(.int .i64 0),(.int .u8 0),(.int .i64 0),(.int .i64 0),(.int .i64 0),(.int .i64 0),(.int .i64 0),(.int .i64 0),(.int .i64 0),(.int .u64 0),(.int .u64 0),(.int .i64 0),(.bool false)])⟩,⟨none,none,(.st 13 (.t 8) (.t 40))⟩,⟨none,none,(.st 13 (.t 9) (.t 43))⟩])
 (.seq
 (.seq
 (.reg
 [⟨(some 45),none,(.fa 5 (.t 8))⟩,⟨(some 46),none,(.fa 0 (.t 45))⟩,⟨(some 47),none,(.ld (.int .i64) (.t 46))⟩,⟨(some 48),none,(.fa 5 (.t 9))⟩,⟨(some 49),none,(.fa 0 (.t 48))⟩,⟨(some 50),none,(.ld (.int .i64) (.t 49))⟩,⟨(some 51),none,(.call fn_length_Add [(.t 47),(.t 50)])⟩,⟨(some 44),none,(.mv (.t 51))⟩,⟨(some 52),none,(.ext (.t 44) 0)⟩,⟨(some 53),none,(.ext (.t 44) 1)⟩,⟨(some 10),none,(.mv (.t 52))⟩,⟨(some 11),none,(.mv (.t 53))⟩])
 (.seq
 (.reg
 [⟨(some 54),none,(.mv (.t 11))⟩,⟨(some 55),none,(.eqn .ifc true (.t 54))⟩])
 (.cond
 (.t 55)
 (.seq
 (.reg
 [⟨(some 56),none,(.mki ty_api_Errno (.c (.int .i64 2)))⟩,⟨(some 6),none,(.mv (.c (.int .i64 0)))⟩,⟨(some 7),none,(.mv (.t 56))⟩])
 .ret)
 .skip)))
 (.seq
 (.reg
 [⟨(some 57),none,(.mv (.t 1))⟩,⟨(some 58),none,(.mv (.t 2))⟩,⟨(some 59),none,(.bld [(.int .i64 0),(.int .u8 0),(.int .i64 0),(.int .i64 0),(.int .i64 0)] [(0,(1,(.c (.int .i64 2)))),(2,(1,(.t 57))),(3,(1,(.t 58)))])⟩,⟨(some 12),none,(.alc 12 ty_api_Rule [(.int .i64 0),(.int .u8 0),(.int .i64 0),(.int .i64 0),(.int .i64 0)])⟩,⟨none,none,(.st 5 (.t 12) (.t 59))⟩])
 (.seq
 (.seq
 (.reg
 [⟨(some 61),none,(.mv (.t 0))⟩,⟨(some 62),none,(.lda 5 [(.int .i64),(.int .u8),(.int .i64),(.int .i64),(.int .i64)] (.t 12))⟩,⟨(some 63),none,(.call fn_P_intern_Store_find [(.t 61),(.t 62)])⟩,⟨(some 60),none,(.mv (.t 63))⟩,⟨(some 64),none,(.ext (.t 60) 0)⟩,⟨(some 65),none,(.ext (.t 60) 1)⟩,⟨(some 13),none,(.mv (.t 64))⟩,⟨(some 14),none,(.mv (.t 65))⟩])
 (.seq
 (.reg
 [⟨(some 66),none,(.mv (.t 13))⟩,⟨(some 67),none,(.cmp .neq .i64 (.t 66) (.c (.int .i64 0)))⟩,⟨(some 68),none,(.mv (.t 67))⟩,⟨(some 69),(some (68,false)),(.mv (.t 14))⟩,⟨(some 70),(some (68,false)),(.eqn .ifc true (.t 69))⟩,⟨(some 71),none,(.pick (.t 68) (.c (.bool true)) (.t 70))⟩])
 (.cond
 (.t 71)
 (.seq
 (.reg
 [⟨(some 72),none,(.mv (.t 13))⟩,⟨(some 73),none,(.mv (.t 14))⟩,⟨(some 6),none,(.mv (.t 72))⟩,⟨(some 7),none,(.mv (.t 73))⟩])
 .ret)
 .skip)))
 (.seq
 (.reg
 [⟨(some 75),none,(.fa 5 (.t 8))⟩,⟨(some 76),none,(.lda 6 [(.int .i64),(.int .i64),(.int .i64),(.int .i64),(.int .u64),(.int .u64)] (.t 75))⟩,⟨(some 77),none,(.fa 5 (.t 9))⟩,⟨(some 78),none,(.lda 6 [(.int .i64),(.int .i64),(.int .i64),(.int .i64),(.int .u64),(.int .u64)] (.t 77))⟩,⟨(some 79),none,(.call fn_weight_Join [(.t 76),(.t 78)])⟩,⟨(some 74),none,(.mv (.t 79))⟩,⟨(some 80),none,(.ext (.t 74) 0)⟩,⟨(some 81),none,(.ext (.t 74) 1)⟩,⟨(some 15),none,(.alc 15 ty_api_Weight [(.int .i64 0),(.int .i64 0),(.int .i64 0),(.int .i64 0),(.int .u64 0),(.int .u64 0)])⟩,⟨none,none,(.st 6 (.t 15) (.t 80))⟩,⟨(some 16),none,(.mv (.t 81))⟩])
 (.seq
 (.seq
 (.reg
 [⟨(some 82),none,(.mv (.t 16))⟩,⟨(some 83),none,(.eqn .ifc true (.t 82))⟩])
 (.cond
 (.t 83)
 (.seq
 (.reg
 [⟨(some 84),none,(.mv (.t 16))⟩,⟨(some 6),none,(.mv (.c (.int .i64 0)))⟩,⟨(some 7),none,(.mv (.t 84))⟩])
 .ret)
 .skip))
 (.seq
 (.reg
 [⟨(some 85),none,(.fa 11 (.t 8))⟩,⟨(some 86),none,(.ld (.int .i64) (.t 85))⟩,⟨(some 87),none,(.fa 11 (.t 9))⟩,⟨(some 88),none,(.ld (.int .i64) (.t 87))⟩,⟨(some 89),none,(.ar .sub .i64 (.t 86) (.t 88))⟩,⟨(some 17),none,(.mv (.t 89))⟩])
 (.seq
 (.reg
 [⟨(some 90),none,(.mv (.t 0))⟩,⟨(some 91),none,(.lda 5 [(.int .i64),(.int .u8),(.int .i64),(.int .i64),(.int .i64)] (.t 12))⟩,⟨(some 92),none,(.lda 6 [(.int .i64),(.int .i64),(.int .i64),(.int .i64),(.int .u64),(.int .u64)] (.t 15))⟩,⟨(some 93),none,(.fa 11 (.t 8))⟩,⟨(some 94),none,(.ld (.int .i64) (.t 93))⟩,⟨(some 95),none,(.fa 11 (.t 9))⟩,⟨(some 96),none,(.ld (.int .i64) (.t 95))⟩,⟨(some 97),none,(.mm true .i64 (.t 94) (.t 96))⟩,⟨(some 98),none,(.ar .add .i64 (.c (.int .i64 1)) (.t 97))⟩,⟨(some 99),none,(.fa 12 (.t 8))⟩,⟨(some 100),none,(.ld .bool (.t 99))⟩,⟨(some 101),none,(.mv (.t 100))⟩,⟨(some 102),(some (101,true)),(.fa 12 (.t 9))⟩,⟨(some 103),(some (101,true)),(.ld .bool (.t 102))⟩,⟨(some 104),none,(.pick (.t 101) (.t 103) (.c (.bool false)))⟩,⟨(some 105),none,(.mv (.t 104))⟩,⟨(some 106),(some (105,true)),(.mv (.t 17))⟩,⟨(some 107),(some (105,true)),(.cmp .geq .i64 (.t 106) (.c (.int .i64 (-1))))⟩,⟨(some 108),none,(.pick (.t 105) (.t 107) (.c (.bool false)))⟩,⟨(some 109),none,(.mv (.t 108))⟩,⟨(some 110),(some (109,true)),(.mv (.t 17))⟩,⟨(some 111),(some (109,true)),(.cmp .leq .i64 (.t 110) (.c (.int .i64 1)))⟩,⟨(some 112),none,(.pick (.t 109) (.t 111) (.c (.bool false)))⟩,⟨(some 113),none,(.bld [(.int .i64 0),(.int .u8 0),(.int .i64 0),(.int .i64 0),(.int .i64 0),(.int .i64 0),(.int .i64 0),(.int .i64 0),(.int .i64 0),(.int .u64 0),(.int .u64 0),(.int .i64 0),(.bool false)] [(0,(5,(.t 91))),(5,(6,(.t 92))),(11,(1,(.t 98))),(12,(1,(.t 112)))])⟩,⟨(some 114),none,(.call fn_P_intern_Store_add [(.t 90),(.t 113)])⟩,⟨(some 6),none,(.mv (.t 114))⟩,⟨(some 7),none,(.mv (.c .nilIface))⟩])
 .ret)))))))))))))
def ts_P_intern_Store_Pair : List (Nat × Tr) := []
set_option maxRecDepth 100000 in
set_option maxHeartbeats 4000000 in
theorem ok_P_intern_Store_Pair : irOf Try.prog fn_P_intern_Store_Pair [] ts_P_intern_Store_Pair = some (115,[(.t 6),(.t 7)],ir_P_intern_Store_Pair) := by kernel_rfl
def ir_P_intern_Store_Power : C :=
 (.seq
 (.reg
 [⟨(some 6),none,(.mv (.c (.int .i64 0)))⟩,⟨(some 7),none,(.mv (.c .nilIface))⟩])
 (.seq
 (.seq
 (.reg
 [⟨(some 16),none,(.mv (.t 0))⟩,⟨(some 17),none,(.eqn .ptr false (.t 16))⟩])
 (.cond
 (.t 17)
 (.seq
 (.reg
 [⟨(some 18),none,(.mki ty_api_Errno (.c (.int .i64 5)))⟩,⟨(some 6),none,(.mv (.c (.int .i64 0)))⟩,⟨(some 7),none,(.mv (.t 18))⟩])
 .ret)
 .skip))
 (.seq
 (.seq
 (.reg
 [⟨(some 19),none,(.mv (.t 0))⟩,⟨(some 20),none,(.mv (.t 1))⟩,⟨(some 21),none,(.call fn_P_intern_Store_known [(.t 19),(.t 20)])⟩,⟨(some 22),none,(.not (.t 21))⟩,⟨(some 23),none,(.mv (.t 22))⟩,⟨(some 24),(some (23,false)),(.mv (.t 2))⟩,⟨(some 25),(some (23,false)),(.cmp .lss .i64 (.t 24) (.c (.int .i64 0)))⟩,⟨(some 26),none,(.pick (.t 23) (.c (.bool true)) (.t 25))⟩])
 (.cond
 (.t 26)
 (.seq
 (.reg
 [⟨(some 27),none,(.mki ty_api_Errno (.c (.int .i64 1)))⟩,⟨(some 6),none,(.mv (.c (.int .i64 0)))⟩,⟨(some 7),none,(.mv (.t 27))⟩])
 .ret)
 .skip))
 (.seq
 (.seq
 (.reg
 [⟨(some 28),none,(.mv (.t 2))⟩,⟨(some 29),none,(.cmp .eql .i64 (.t 28) (.c (.int .i64 0)))⟩,⟨(some 30),none,(.mv (.t 29))⟩,⟨(some 31),(some (30,false)),(.mv (.t 1))⟩,⟨(some 32),(some (30,false)),(.cmp .eql .i64 (.t 31) (.c (.int .i64 0)))⟩,⟨(some 33),none,(.pick (.t 30) (.c (.bool true)) (.t 32))⟩])
 (.cond
 (.t 33)
 (.seq
 (.reg
 [⟨(some 6),none,(.mv (.c (.int .i64 0)))⟩,⟨(some 7),none,(.mv (.c .nilIface))⟩])
 .ret)
 .skip))
 (.seq
 (.seq
 (.reg
 [⟨(some 34),none,(.mv (.t 2))⟩,⟨(some 35),none,(.cmp .eql .i64 (.t 34) (.c (.int .i64 1)))⟩])
 (.cond
 (.t 35)
 (.seq
 (.reg
 [⟨(some 36),none,(.mv (.t 1))⟩,⟨(some 6),none,(.mv (.t 36))⟩,⟨(some 7),none,(.mv (.c .nilIface))⟩])
 .ret)
 .skip))
 (.seq
 (.reg
 [⟨(some 37),none,(.mv (.t 0))⟩,⟨(some 38),none,(.mv (.t 1))⟩,⟨(some 39),none,(.call fn_P_intern_Store_at [(.t 37),(.t 38)])⟩,⟨(some 8),none,(.alc 8 ty_intern_entry [(.int .i64 0),(.int .u8 0),(.int .i64 0),(.int .i64 0),(.int .i64 0),(.int .i64 0),(.int .i64 0),(.int .i64 0),(.int .i64 0),(.int .u64 0),(.int .u64 0),(.int .i64 0),(.bool false)])⟩,⟨none,none,(.st 13 (.t 8) (.t 39))⟩])
 (.seq
 (.seq
 (.reg
 [⟨(some 41),none,(.fa 5 (.t 8))⟩,⟨(some 42),none,(.fa 0 (.t 41))⟩,⟨(some 43),none,(.ld (.int .i64) (.t 42))⟩,⟨(some 44),none,(.mv (.t 2))⟩,⟨(some 45),none,(.call fn_length_Mul [(.t 43),(.t 44)])⟩,⟨(some 40),none,(.mv (.t 45))⟩,⟨(some 46),none,(.ext (.t 40) 0)⟩,⟨(some 47),none,(.ext (.t 40) 1)⟩,⟨(some 9),none,(.mv (.t 46))⟩,⟨(some 10),none,(.mv (.t 47))⟩])
 (.seq
 (.reg
 [⟨(some 48),none,(.mv (.t 10))⟩,⟨(some 49),none,(.eqn .ifc true (.t 48))⟩])
 (.cond
 (.t 49)
 (.seq
 (.reg
 [⟨(some 50),none,(.mki ty_api_Errno (.c (.int .i64 2)))⟩,⟨(some 6),none,(.mv (.c (.int .i64 0)))⟩,⟨(some 7),none,(.mv (.t 50))⟩])
 .ret)
 .skip)))
 (.seq
 (.reg
 [⟨(some 51),none,(.mv (.t 1))⟩,⟨(some 52),none,(.mv (.t 2))⟩,⟨(some 53),none,(.bld [(.int .i64 0),(.int .u8 0),(.int .i64 0),(.int .i64 0),(.int .i64 0)] [(0,(1,(.c (.int .i64 3)))),(2,(1,(.t 51))),(4,(1,(.t 52)))])⟩,⟨(some 11),none,(.alc 11 ty_api_Rule [(.int .i64 0),(.int .u8 0),(.int .i64 0),(.int .i64 0),(.int .i64 0)])⟩,⟨none,none,(.st 5 (.t 11) (.t 53))⟩])
 (.seq
 (.seq
 (.reg
 [⟨(some 55),none,(.mv (.t 0))⟩,⟨(some 56),none,(.lda 5 [(.int .i64),(.int .u8),(.int .i64),(.int .i64),(.int .i64)] (.t 11))⟩,⟨(some 57),none,(.call fn_P_intern_Store_find [(.t 55),(.t 56)])⟩,⟨(some 54),none,(.mv (.t 57))⟩,⟨(some 58),none,(.ext (.t 54) 0)⟩,⟨(some 59),none,(.ext (.t 54) 1)⟩,⟨(some 12),none,(.mv (.t 58))⟩,⟨(some 13),none,(.mv (.t 59))⟩])
 (.seq
 (.reg
 [⟨(some 60),none,(.mv (.t 12))⟩,⟨(some 61),none,(.cmp .neq .i64 (.t 60) (.c (.int .i64 0)))⟩,⟨(some 62),none,(.mv (.t 61))⟩,⟨(some 63),(some (62,false)),(.mv (.t 13))⟩,⟨(some 64),(some (62,false)),(.eqn .ifc true (.t 63))⟩,⟨(some 65),none,(.pick (.t 62) (.c (.bool true)) (.t 64))⟩])
 (.cond
 (.t 65)
 (.seq
 (.reg
 [⟨(some 66),none,(.mv (.t 12))⟩,⟨(some 67),none,(.mv (.t 13))⟩,⟨(some 6),none,(.mv (.t 66))⟩,⟨(some 7),none,(.mv (.t 67))⟩])
 .ret)
 .skip)))
 (.seq
 (.reg
 [⟨(some 69),none,(.fa 5 (.t 8))⟩,⟨(some 70),none,(.lda 6 [(.int .i64),(.int .i64),(.int .i64),(.int .i64),(.int .u64),(.int .u64)] (.t 69))⟩,⟨(some 71),none,(.mv (.t 2))⟩,⟨(some 72),none,(.call fn_weight_Repeat [(.t 70),(.t 71)])⟩,⟨(some 68),none,(.mv (.t 72))⟩,⟨(some 73),none,(.ext (.t 68) 0)⟩,⟨(some 74),none,(.ext (.t 68) 1)⟩,⟨(some 14),none,(.alc 14 ty_api_Weight [(.int .i64 0),(.int .i64 0),(.int .i64 0),(.int .i64 0),(.int .u64 0),(.int .u64 0)])⟩,⟨none,none,(.st 6 (.t 14) (.t 73))⟩,⟨(some 15),none,(.mv (.t 74))⟩])
 (.seq
 (.seq
 (.reg
 [⟨(some 75),none,(.mv (.t 15))⟩,⟨(some 76),none,(.eqn .ifc true (.t 75))⟩])
 (.cond
 (.t 76)
 (.seq
 (.reg
 [⟨(some 77),none,(.mv (.t 15))⟩,⟨(some 6),none,(.mv (.c (.int .i64 0)))⟩,⟨(some 7),none,(.mv (.t 77))⟩])
 .ret)
 .skip))
 (.seq
 (.reg
 [⟨(some 78),none,(.mv (.t 0))⟩,⟨(some 79),none,(.lda 5 [(.int .i64),(.int .u8),(.int .i64),(.int .i64),(.int .i64)] (.t 11))⟩,⟨(some 80),none,(.lda 6 [(.int .i64),(.int .i64),(.int .i64),(.int .i64),(.int .u64),(.int .u64)] (.t 14))⟩,⟨(some 81),none,(.fa 11 (.t 8))⟩,⟨(some 82),none,(.ld (.int .i64) (.t 81))⟩,⟨(some 83),none,(.ar .add .i64 (.c (.int .i64 1)) (.t 82))⟩,⟨(some 84),none,(.bld [(.int .i64 0),(.int .u8 0),(.int .i64 0),(.int .i64 0),(.int .i64 0),(.int .i64 0),(.int .i64 0),(.int .i64 0),(.int .i64 0),(.int .u64 0),(.int .u64 0),(.int .i64 0),(.bool false)] [(0,(5,(.t 79))),(5,(6,(.t 80))),(11,(1,(.t 83)))])⟩,⟨(some 85),none,(.call fn_P_intern_Store_add [(.t 78),(.t 84)])⟩,⟨(some 6),none,(.mv (.t 85))⟩,⟨(some 7),none,(.mv (.c .nilIface))⟩])
 .ret))))))))))))
def ts_P_intern_Store_Power : List (Nat × Tr) := []
set_option maxRecDepth 100000 in
set_option maxHeartbeats 4000000 in
theorem ok_P_intern_Store_Power : irOf Try.prog fn_P_intern_Store_Power [] ts_P_intern_Store_Power = some (86,[(.t 6),(.t 7)],ir_P_intern_Store_Power) := by kernel_rfl
def ir_P_intern_Store_Rule : C :=
 (.seq
 (.reg
 [⟨(some 4),none,(.alc 4 ty_api_Rule [(.int .i64 0),(.int .u8 0),(.int .i64 0),(.int .i64 0),(.int .i64 0)])⟩,⟨(some 5),none,(.mv (.c .nilIface))⟩])
 (.seq
 (.seq
 (.reg
 [⟨(some 6),none,(.mv (.t 0))⟩,⟨(some 7),none,(.eqn .ptr false (.t 6))⟩])
 (.cond
 (.t 7)
 (.seq
 (.reg
 [⟨(some 8),none,(.bld [(.int .i64 0),(.int .u8 0),(.int .i64 0),(.int .i64 0),(.int .i64 0)] [])⟩,⟨(some 9),none,(.mki ty_api_Errno (.c (.int .i64 5)))⟩,⟨none,none,(.st 5 (.t 4) (.t 8))⟩,⟨(some 5),none,(.mv (.t 9))⟩])
 .ret)
 .skip))
 (.seq
 (.seq
 (.reg
 [⟨(some 10),none,(.mv (.t 1))⟩,⟨(some 11),none,(.cmp .eql .i64 (.t 10) (.c (.int .i64 0)))⟩,⟨(some 12),none,(.mv (.t 11))⟩,⟨(some 13),(some (12,false)),(.mv (.t 0))⟩,⟨(some 14),(some (12,false)),(.mv (.t 1))⟩,⟨(some 15),(some (12,false)),(.call fn_P_intern_Store_known [(.t 13),(.t 14)])⟩,⟨(some 16),(some (12,false)),(.not (.t 15))⟩,⟨(some 17),none,(.pick (.t 12) (.c (.bool true)) (.t 16))⟩])
 (.cond
 (.t 17)
 (.seq
 (.reg
 [⟨(some 18),none,(.bld [(.int .i64 0),(.int .u8 0),(.int .i64 0),(.int .i64 0),(.int .i64 0)] [])⟩,⟨(some 19),none,(.mki ty_api_Errno (.c (.int .i64 1)))⟩,⟨none,none,(.st 5 (.t 4) (.t 18))⟩,⟨(some 5),none,(.mv (.t 19))⟩])
 .ret)
 .skip))
 (.seq
 (.reg
 [⟨(some 20),none,(.mv (.t 0))⟩,⟨(some 21),none,(.nil (.t 20))⟩,⟨(some 22),none,(.fa 1 (.t 21))⟩,⟨(some 23),none,(.ld .slc (.t 22))⟩,⟨(some 24),none,(.mv (.t 1))⟩,⟨(some 25),none,(.ar .sub .i64 (.t 24) (.c (.int .i64 1)))⟩,⟨(some 26),none,(.ia 13 (.t 23) (.t 25))⟩,⟨(some 27),none,(.fa 0 (.t 26))⟩,⟨(some 28),none,(.lda 5 [(.int .i64),(.int .u8),(.int .i64),(.int .i64),(.int .i64)] (.t 27))⟩,⟨none,none,(.st 5 (.t 4) (.t 28))⟩,⟨(some 5),none,(.mv (.c .nilIface))⟩])
 .ret))))
def ts_P_intern_Store_Rule : List (Nat × Tr) := []
set_option maxRecDepth 100000 in
set_option maxHeartbeats 4000000 in
theorem ok_P_intern_Store_Rule : irOf Try.prog fn_P_intern_Store_Rule [] ts_P_intern_Store_Rule = some (29,[(.c 4 5),(.t 5)],ir_P_intern_Store_Rule) := by kernel_rfl
def ir_P_intern_Store_Len : C :=
 (.seq
 (.reg
 [⟨(some 2),none,(.mv (.c (.int .i64 0)))⟩])
 (.seq
 (.seq
 (.reg
 [⟨(some 3),none,(.mv (.t 0))⟩,⟨(some 4),none,(.eqn .ptr false (.t 3))⟩])
 (.cond
 (.t 4)
 (.seq
 (.reg
 [⟨(some 2),none,(.mv (.c (.int .i64 0)))⟩])
 .ret)
 .skip))
 (.seq
 (.reg
 [⟨(some 5),none,(.mv (.t 0))⟩,⟨(some 6),none,(.nil (.t 5))⟩,⟨(some 7),none,(.fa 1 (.t 6))⟩,⟨(some 8),none,(.ld .slc (.t 7))⟩,⟨(some 9),none,(.lens (.t 8))⟩,⟨(some 2),none,(.mv (.t 9))⟩])
 .ret)))
def ts_P_intern_Store_Len : List (Nat × Tr) := []
set_option maxRecDepth 100000 in
set_option maxHeartbeats 4000000 in
theorem ok_P_intern_Store_Len : irOf Try.prog fn_P_intern_Store_Len [] ts_P_intern_Store_Len = some (10,[(.t 2)],ir_P_intern_Store_Len) := by kernel_rfl
def ir_P_intern_Store_Weight : C :=
 (.seq
 (.reg
 [⟨(some 4),none,(.alc 4 ty_api_Weight [(.int .i64 0),(.int .i64 0),(.int .i64 0),(.int .i64 0),(.int .u64 0),(.int .u64 0)])⟩,⟨(some 5),none,(.mv (.c .nilIface))⟩])
 (.seq
 (.seq
 (.reg
 [⟨(some 6),none,(.mv (.t 0))⟩,⟨(some 7),none,(.eqn .ptr false (.t 6))⟩])
 (.cond
 (.t 7)
 (.seq
 (.reg
 [⟨(some 8),none,(.bld [(.int .i64 0),(.int .i64 0),(.int .i64 0),(.int .i64 0),(.int .u64 0),(.int .u64 0)] [])⟩,⟨(some 9),none,(.mki ty_api_Errno (.c (.int .i64 5)))⟩,⟨none,none,(.st 6 (.t 4) (.t 8))⟩,⟨(some 5),none,(.mv (.t 9))⟩])
 .ret)
 .skip))
 (.seq
 (.seq
 (.reg
 [⟨(some 10),none,(.mv (.t 0))⟩,⟨(some 11),none,(.mv (.t 1))⟩,⟨(some 12),none,(.call fn_P_intern_Store_known [(.t 10),(.t 11)])⟩,⟨(some 13),none,(.not (.t 12))⟩])
 (.cond
 (.t 13)
 (.seq
 (.reg
 [⟨(some 14),none,(.bld [(.int .i64 0),(.int .i64 0),(.int .i64 0),(.int .i64 0),(.int .u64 0),(.int .u64 0)] [])⟩,⟨(some 15),none,(.mki ty_api_Errno (.c (.int .i64 1)))⟩,⟨none,none,(.st 6 (.t 4) (.t 14))⟩,⟨(some 5),none,(.mv (.t 15))⟩])
 .ret)
 .skip))
 (.seq
 (.reg
 [⟨(some 16),none,(.mv (.t 0))⟩,⟨(some 17),none,(.mv (.t 1))⟩,⟨(some 18),none,(.call fn_P_intern_Store_at [(.t 16),(.t 17)])⟩,⟨(some 19),none,(.fls 5 6 (.t 18))⟩,⟨none,none,(.st 6 (.t 4) (.t 19))⟩,⟨(some 5),none,(.mv (.c .nilIface))⟩])
 .ret))))
def ts_P_intern_Store_Weight : List (Nat × Tr) := []
set_option maxRecDepth 100000 in
set_option maxHeartbeats 4000000 in
theorem ok_P_intern_Store_Weight : irOf Try.prog fn_P_intern_Store_Weight [] ts_P_intern_Store_Weight = some (20,[(.c 4 6),(.t 5)],ir_P_intern_Store_Weight) := by kernel_rfl
def ir_intern_New : C :=
 (.seq
 (.reg
 [⟨(some 2),none,(.mv (.c (.pointer none)))⟩])
 (.seq
 (.reg
 [⟨(some 3),none,(.mv (.t 0))⟩,⟨(some 4),none,(.call fn_length_Clip [(.t 3),(.c (.int .i64 0)),(.c (.int .i64 1048576))])⟩,⟨(some 5),none,(.mkm 5 (.agg [(.int .i64),(.int .u8),(.int .i64),(.int .i64),(.int .i64)]) none)⟩,⟨(some 6),none,(.bld [(.int .i64 0),(.slice none 0 0),(.map none)] [(0,(1,(.t 4))),(2,(1,(.t 5)))])⟩,⟨(some 7),none,(.box 7 ty_intern_Store (.t 6))⟩,⟨(some 2),none,(.mv (.t 7))⟩])
 .ret))
def ts_intern_New : List (Nat × Tr) := []
set_option maxRecDepth 100000 in
set_option maxHeartbeats 4000000 in
theorem ok_intern_New : irOf Try.prog fn_intern_New [] ts_intern_New = some (8,[(.t 2)],ir_intern_New) := by kernel_rfl
end Go.Proofs.Ytjmlialibdobpaa
