/- The small forms of functions of the program, with the equations that say so: written by a program (irtool.py). No condition. -/
import Derived.Test.YtjmlialibdobpaaK5
import Derived.Test.YtjmlialibdobpaaProg
namespace Go.Proofs.Ytjmlialibdobpaa
open Go.EG
abbrev fn_evergreentop_WholeNth : Nat := 3
abbrev fn_evergreentop_finds : Nat := 4
abbrev fn_evergreentop_greatly : Nat := 5
abbrev fn_literal_Of : Nat := 6
abbrev fn_balance_Text : Nat := 8
abbrev fn_locate_Count : Nat := 11
abbrev fn_locate_Nth : Nat := 12
abbrev fn_locate_Next : Nat := 13
abbrev fn_locate_Prev : Nat := 14
abbrev fn_P_literal_trie_add : Nat := 15
abbrev fn_P_literal_trie_machine : Nat := 16
abbrev fn_balance_text : Nat := 18
abbrev fn_locate_check : Nat := 28
abbrev fn_scan_Size : Nat := 30
abbrev fn_scan_Through : Nat := 31
abbrev fn_scan_Parts : Nat := 32
abbrev fn_locate_above : Nat := 36
abbrev fn_locate_nth : Nat := 37
abbrev fn_scan_First : Nat := 38
abbrev fn_scan_Last : Nat := 39
abbrev fn_scan_Follow : Nat := 50
abbrev fn_scan_Orbit_At : Nat := 51
abbrev fn_errors_Is : Nat := 58
abbrev fn_locate_nthCopy : Nat := 60
abbrev fn_scan_End : Nat := 61
abbrev fn_scan_Skip : Nat := 62
abbrev fn_scan_first : Nat := 63
abbrev fn_scan_lastCopy : Nat := 64
abbrev fn_scan_last : Nat := 65
abbrev fn_scan_Hit : Nat := 82
abbrev fn_scan_Children : Nat := 83
abbrev ty_Sl_uint8 : Nat := 22
abbrev ty_2_int : Nat := 23
abbrev ty_literal_trie : Nat := 54
abbrev ty_scan_Orbit : Nat := 113
abbrev ty_256_int16 : Nat := 143
abbrev ty_257_int : Nat := 160
def ir_scan_Follow : C :=
 (.seq
 (.reg
 [⟨(some 8),none,(.alc 8 ty_scan_Orbit [(.slice none 0 0),(.int .i64 0)])⟩])
 (.seq
 (.reg
 [⟨(some 9),none,(.alc 9 ty_256_int16 [(.int .i16 0),(.int .i16 0),(.int .i16 0),(.int .i16 0),(.int .i16 0),(.int .i16 0),(.int .i16 0),(.int .i16 0),(.int .i16 0),(.int .i16 0),(.int .i16 0),(.int .i16 0),(.int .i16 0),(.int .i16 0),(.int .i16 0),(.int .i16 0),(.int .i16 0),(.int .i16 0),(.int .i16 0),(.int .i16 0),(.int .i16 0),(.int .i16 0),(.int .i16 0),(.int .i16 0),(.int .i16 0),(.int .i16 0),(.int .i16 0),(.int .i16 0),(.int .i16 0),(.int .i16 0),(.int .i16 0),(.int .i16 0),(.int .i16 0),(.int .i16 0),(.int .i16 0),(.int .i16 0),(.int .i16 0),(.int .i16 0),(.int .i16 0),(.int .i16 0),(.int .i16 0),(.int .i16 0),(.int .i16 0),(.int .i16 0),(.int .i16 0),(.int .i16 0),(.int .i16 0),(.int .i16 0),(.int .i16 0),(.int .i16 0),(.int .i16 0),(.int .i16 0),(.int .i16 0),(.int .i16 0),(.int .i16 0),(.int .i16 0),(.int .i16 0),(.int .i16 0),(.int .i16 0),(.int .i16 0),(.int .i16 0),(.int .i16 0),(.int .i16 0),(.int .i16 0),(.int .i16 0),(.int .i16 0),(.int .i16 0),(.int .i16 0),(.int .i16 0),(.int .i16 0),(.int .i16 0),(.int .i16 0),(.int .i16 0),(.int .i16 0),(.int .i16 0),(.int .i16 0),(.int .i16 0),(.int .i16 0),(.int .i16 0),(.int .i16 0),(.int .i16 0),(.int .i16 0),(.int .i16 0),(.int .i16 0),(.int .i16 0),(.int .i16 0),(.int .i16 0),(.int .i16 0),(.int .i16 0),(.int .i16 0),(.int .i16 0),(.int .i16 0),(.int .i16 0),(.int .i16 0),(.int .i16 0),(.int .i16 0),(.int .i16 0),(.int .i16 0),(.int .i16 0),(.int .i16 0),(.int .i16 0),(.int .i16 0),(.int .i16 0),(.int .i16 0),(.int .i16 0),(.int .i16 0),(.int .i16 0),(.int .i16 0),(.int .i16 0),(.int .i16 0),(.int .i16 0),(.int .i16 0),(.int .i16 0),(.int .i16 0),(.int .i16 0),(.int .i16 0),(.int .i16 0),(.int .i16 0),(.int .i16 0),(.int .i16 0),(.int .i16 0),(.int .i16 0),(.int .i16 0),(.int .i16 0),(.int .i16 0),(.int .i16 0),(.int .i16 0),(.int .i16 0),(.int .i16 0),(.int .i16 0),(.int .i16 0),(.int .i16 0),(.int .i16 0),(.int .i16 0),(.int .i16 0),(.int .i16 0),(.int .i16 0),(.int .i16 0),(.int .i16 0),(.int .i16 0),(.int .i16 0),(.int .i16 0),(.int .i16 0),(.int .i16 0),(.int .i16 0),(.int .i16 0),(.int .i16 0),(.int .i16 0),(.int .i16 0),(.int .i16 0),(.int .i16 0),(.int .i16 0),(.int .i16 0),(.int .i16 0),(.int .i16 0),(.int .i16 0),(.int .i16 0),(.int .i16 0),(.int .i16 0),(.int .i16 0),(.int .i16 0),(.int .i16 0),(.int .i16 0),(.int .i16 0),(.int .i16 0),(.int .i16 0),(.int .i16 0),(.int .i16 0),(.int .i16 0),(.int .i16 0),(.int .i16 0),(.int .i16 0),(.int .i16 0),(.int .i16 0),(.int .i16 0),(.int .i16 0),(.int .i16 0),(.int .i16 0),(.int .i16 0),(.int .i16 0),(.int .i16 0),(.int .i16 0),(.int .i16 0),(.int .i16 0),(.int .i16 0),(.int .i16 0),(.int .i16 0),(.int .i16 0),(.int .i16 0),(.int .i16 0),(.int .i16 0),(.int .i16 0),(.int .i16 0),(.int .i16 0),(.int .i16 0),(.int .i16 0),(.int .i16 0),(.int .i16 0),(.int .i16 0),(.int .i16 0),(.int .i16 0),(.int .i16 0),(.int .i16 0),(.int .i16 0),(.int .i16 0),(.int .i16 0),(.int .i16 0),(.int .i16 0),(.int .i16 0),(.int .i16 0),(.int .i16 0),(.int .i16 0),(.int .i16 0),(.int .i16 0),(.int .i16 0),(.int .i16 0),(.int .i16 0),(.int .i16 0),(.int .i16 0),(.int .i16 0),(.int .i16 0),(.int .i16 0),(.int .i16 0),(.int .i16 0),(.int .i16 0),(.int .i16 0),(.int .i16 0),(.int .i16 0),(.int .i16 0),(.int .i16 0),(.int .i16 0),(.int .i16 0),(.int .i16 0),(.int .i16 0),(.int .i16 0),(.int .i16 0),(.int .i16 0),(.int .i16 0),(.int .i16 0),(.int .i16 0),(.int .i16 0),(.int .i16 0),(.int .i16 0),(.int .i16 0),(.int .i16 0),(.int .i16 0),(.int .i16 0),(.int .i16 0),(.int .i16 0),(.int .i16 0),(.int .i16 0),(.int .i16 0),(.int .i16 0),(.int .i16 0),(.int .i16 0),(.int .i16 0)])⟩])
 (.seq
 (.reg
 [⟨(some 10),none,(.alc 10 ty_scan_Orbit [(.slice none 0 0),(.int .i64 0)])⟩])
 (.seq
 (.blk
 0
 (.loop
 (.seq
 (.seq
 (.reg
 [⟨(some 12),none,(.fa 0 (.t 10))⟩,⟨(some 13),none,(.ld .slc (.t 12))⟩,⟨(some 14),none,(.lens (.t 13))⟩,⟨(some 15),none,(.mv (.t 3))⟩,⟨(some 16),none,(.cmp .leq .i64 (.t 14) (.t 15))⟩])
 (.cond
 (.t 16)
 .skip
 (.exit 0)))
 (.blk
 1
 (.seq
 (.seq
 (.reg
 [⟨(some 17),none,(.mv (.t 2))⟩,⟨(some 18),none,(.iaa 1 256 (.t 9) (.t 17))⟩,⟨(some 19),none,(.ld (.int .i16) (.t 18))⟩,⟨(some 20),none,(.cv .i64 (.t 19))⟩,⟨(some 11),none,(.mv (.t 20))⟩])
 (.seq
 (.reg
 [⟨(some 21),none,(.mv (.t 11))⟩,⟨(some 22),none,(.cmp .gtr .i64 (.t 21) (.c (.int .i64 0)))⟩])
 (.cond
 (.t 22)
 (.seq
 (.reg
 [⟨(some 23),none,(.mv (.t 11))⟩,⟨(some 24),none,(.ar .sub .i64 (.t 23) (.c (.int .i64 1)))⟩,⟨(some 25),none,(.fa 1 (.t 10))⟩,⟨none,none,(.st 1 (.t 25) (.t 24))⟩])
 (.seq
 (.reg
 [⟨(some 26),none,(.lda 2 [.slc,(.int .i64)] (.t 10))⟩,⟨none,none,(.st 2 (.t 8) (.t 26))⟩])
 .ret))
 .skip)))
 (.seq
 (.reg
 [⟨(some 27),none,(.fa 0 (.t 10))⟩,⟨(some 28),none,(.ld .slc (.t 27))⟩,⟨(some 29),none,(.mv (.t 2))⟩,⟨(some 30),none,(.bsl 30 ty_int 1 1 [(.int .i64 0)] [(0,(1,(.t 29)))])⟩,⟨(some 31),none,(.app 31 ty_int 1 8 (.t 28) (.t 30))⟩,⟨(some 32),none,(.fa 0 (.t 10))⟩,⟨none,none,(.st 1 (.t 32) (.t 31))⟩])
 (.seq
 (.reg
 [⟨(some 33),none,(.mv (.t 2))⟩,⟨(some 34),none,(.fa 0 (.t 10))⟩,⟨(some 35),none,(.ld .slc (.t 34))⟩,⟨(some 36),none,(.lens (.t 35))⟩,⟨(some 37),none,(.cv .i16 (.t 36))⟩,⟨(some 38),none,(.iaa 1 256 (.t 9) (.t 33))⟩,⟨none,none,(.st 1 (.t 38) (.t 37))⟩])
 (.reg
 [⟨(some 39),none,(.mv (.t 0))⟩,⟨(some 40),none,(.mv (.t 1))⟩,⟨(some 41),none,(.mv (.t 2))⟩,⟨(some 42),none,(.call fn_scan_End [(.t 39),(.t 40),(.t 41)])⟩,⟨(some 2),none,(.mv (.t 42))⟩]))))))))
 (.seq
 (.reg
 [⟨(some 43),none,(.fa 0 (.t 10))⟩,⟨(some 44),none,(.ld .slc (.t 43))⟩,⟨(some 45),none,(.lens (.t 44))⟩,⟨(some 46),none,(.fa 1 (.t 10))⟩,⟨none,none,(.st 1 (.t 46) (.t 45))⟩])
 (.seq
 (.reg
 [⟨(some 47),none,(.lda 2 [.slc,(.int .i64)] (.t 10))⟩,⟨none,none,(.st 2 (.t 8) (.t 47))⟩])
 .ret))))))
def ts_scan_Follow : List (Nat × Tr) := []
set_option maxRecDepth 100000 in
set_option maxHeartbeats 4000000 in
theorem ok_scan_Follow : irOf Try.prog fn_scan_Follow [] ts_scan_Follow = some (48,[(.c 8 2)],ir_scan_Follow) := by kernel_rfl
def ir_scan_Orbit_At : C :=
 (.seq
 (.reg
 [⟨(some 2),none,(.box 2 ty_scan_Orbit (.t 0))⟩,⟨(some 4),none,(.mv (.c (.int .i64 0)))⟩])
 (.seq
 (.seq
 (.reg
 [⟨(some 5),none,(.mv (.t 1))⟩,⟨(some 6),none,(.fa 0 (.t 2))⟩,⟨(some 7),none,(.ld .slc (.t 6))⟩,⟨(some 8),none,(.lens (.t 7))⟩,⟨(some 9),none,(.cmp .lss .i64 (.t 5) (.t 8))⟩])
 (.cond
 (.t 9)
 (.seq
 (.reg
 [⟨(some 10),none,(.fa 0 (.t 2))⟩,⟨(some 11),none,(.ld .slc (.t 10))⟩,⟨(some 12),none,(.mv (.t 1))⟩,⟨(some 13),none,(.ia 1 (.t 11) (.t 12))⟩,⟨(some 14),none,(.ld (.int .i64) (.t 13))⟩,⟨(some 4),none,(.mv (.t 14))⟩])
 .ret)
 .skip))
 (.seq
 (.drw
 [⟨(some 15),none,(.fa 0 (.t 2))⟩,⟨(some 16),none,(.ld .slc (.t 15))⟩,⟨(some 17),none,(.fa 1 (.t 2))⟩,⟨(some 18),none,(.ld (.int .i64) (.t 17))⟩,⟨(some 19),none,(.mv (.t 1))⟩,⟨(some 20),none,(.fa 1 (.t 2))⟩,⟨(some 21),none,(.ld (.int .i64) (.t 20))⟩,⟨(some 22),none,(.ar .sub .i64 (.t 19) (.t 21))⟩,⟨(some 23),none,(.fa 0 (.t 2))⟩,⟨(some 24),none,(.ld .slc (.t 23))⟩,⟨(some 25),none,(.lens (.t 24))⟩,⟨(some 26),none,(.fa 1 (.t 2))⟩,⟨(some 27),none,(.ld (.int .i64) (.t 26))⟩,⟨(some 28),none,(.ar .sub .i64 (.t 25) (.t 27))⟩,⟨(some 29),none,(.dv true .i64 (.t 22) (.t 28))⟩,⟨(some 30),none,(.ar .add .i64 (.t 18) (.t 29))⟩,⟨(some 31),none,(.ia 1 (.t 16) (.t 30))⟩,⟨(some 32),none,(.ld (.int .i64) (.t 31))⟩,⟨(some 4),none,(.mv (.t 32))⟩]
 (.take 0 (.take 1 (.take 2 (.take 3 (.mov 4 (.take 5 (.take 6 (.take 7 (.take 8 (.take 9 (.take 10 (.take 11 (.take 12 (.take 13 (.take 14 (.take 15 (.take 16 (.take 17 (.mov 18 .done))))))))))))))))))))
 .ret)))
def ts_scan_Orbit_At : List (Nat × Tr) := [(3,(.take 0 (.take 1 (.take 2 (.take 3 (.mov 4 (.take 5 (.take 6 (.take 7 (.take 8 (.take 9 (.take 10 (.take 11 (.take 12 (.take 13 (.take 14 (.take 15 (.take 16 (.take 17 (.mov 18 .done))))))))))))))))))))]
set_option maxRecDepth 100000 in
set_option maxHeartbeats 4000000 in
theorem ok_scan_Orbit_At : irOf Try.prog fn_scan_Orbit_At [] ts_scan_Orbit_At = some (33,[(.t 4)],ir_scan_Orbit_At) := by kernel_rfl
def ir_scan_Parts : C :=
 (.seq
 (.reg
 [⟨(some 8),none,(.mv (.c (.slice none 0 0)))⟩])
 (.seq
 (.reg
 [⟨(some 12),none,(.mv (.t 0))⟩,⟨(some 13),none,(.call fn_P_transfer_Table_Store [(.t 12)])⟩,⟨(some 14),none,(.mv (.t 1))⟩,⟨(some 15),none,(.mv (.t 2))⟩,⟨(some 16),none,(.mv (.t 3))⟩,⟨(some 17),none,(.call fn_parts_Of [(.t 13),(.t 14),(.t 15),(.t 16)])⟩,⟨(some 11),none,(.mv (.t 17))⟩,⟨(some 18),none,(.ext (.t 11) 0)⟩,⟨(some 19),none,(.ext (.t 11) 1)⟩,⟨(some 9),none,(.mv (.t 18))⟩,⟨(some 10),none,(.mv (.t 19))⟩])
 (.seq
 (.seq
 (.reg
 [⟨(some 20),none,(.mv (.t 10))⟩,⟨(some 21),none,(.eqn .ifc true (.t 20))⟩])
 (.cond
 (.t 21)
 (.seq
 (.reg
 [⟨(some 8),none,(.mv (.c (.slice none 0 0)))⟩])
 .ret)
 .skip))
 (.seq
 (.seq
 (.reg
 [⟨(some 22),none,(.mv (.t 0))⟩,⟨(some 23),none,(.call fn_P_transfer_Table_Back [(.t 22)])⟩])
 (.cond
 (.t 23)
 (.reg
 [⟨(some 24),none,(.mv (.t 9))⟩,⟨(some 25),none,(.call fn_slices_Reverse_Sl_parts_Part_parts_Part [(.t 24)])⟩])
 .skip))
 (.seq
 (.reg
 [⟨(some 26),none,(.mv (.t 9))⟩,⟨(some 8),none,(.mv (.t 26))⟩])
 .ret)))))
def ts_scan_Parts : List (Nat × Tr) := []
set_option maxRecDepth 100000 in
set_option maxHeartbeats 4000000 in
theorem ok_scan_Parts : irOf Try.prog fn_scan_Parts [] ts_scan_Parts = some (27,[(.t 8)],ir_scan_Parts) := by kernel_rfl
def ir_scan_Size : C :=
 (.seq
 (.reg
 [⟨(some 4),none,(.mv (.c (.int .i64 0)))⟩])
 (.seq
 (.reg
 [⟨(some 8),none,(.mv (.t 0))⟩,⟨(some 9),none,(.call fn_P_transfer_Table_Store [(.t 8)])⟩,⟨(some 10),none,(.mv (.t 1))⟩,⟨(some 11),none,(.call fn_P_intern_Store_Weight [(.t 9),(.t 10)])⟩,⟨(some 7),none,(.mv (.t 11))⟩,⟨(some 12),none,(.ext (.t 7) 0)⟩,⟨(some 13),none,(.ext (.t 7) 1)⟩,⟨(some 5),none,(.alc 5 ty_api_Weight [(.int .i64 0),(.int .i64 0),(.int .i64 0),(.int .i64 0),(.int .u64 0),(.int .u64 0)])⟩,⟨none,none,(.st 6 (.t 5) (.t 12))⟩,⟨(some 6),none,(.mv (.t 13))⟩])
 (.seq
 (.seq
 (.reg
 [⟨(some 14),none,(.mv (.t 6))⟩,⟨(some 15),none,(.eqn .ifc true (.t 14))⟩])
 (.cond
 (.t 15)
 (.seq
 (.reg
 [⟨(some 4),none,(.mv (.c (.int .i64 0)))⟩])
 .ret)
 .skip))
 (.seq
 (.reg
 [⟨(some 16),none,(.fa 0 (.t 5))⟩,⟨(some 17),none,(.ld (.int .i64) (.t 16))⟩,⟨(some 4),none,(.mv (.t 17))⟩])
 .ret))))
def ts_scan_Size : List (Nat × Tr) := []
set_option maxRecDepth 100000 in
set_option maxHeartbeats 4000000 in
theorem ok_scan_Size : irOf Try.prog fn_scan_Size [] ts_scan_Size = some (18,[(.t 4)],ir_scan_Size) := by kernel_rfl
def ir_scan_Through : C :=
 (.seq
 (.reg
 [⟨(some 6),none,(.mv (.c (.int .i64 0)))⟩])
 (.seq
 (.seq
 (.reg
 [⟨(some 9),none,(.mv (.t 1))⟩,⟨(some 10),none,(.lens (.t 9))⟩,⟨(some 11),none,(.mv (.c (.int .i64 0)))⟩])
 (.blk
 0
 (.loop
 (.seq
 (.reg
 [⟨(some 12),none,(.cmp .lss .i64 (.t 11) (.t 10))⟩])
 (.seq
 (.cond
 (.t 12)
 .skip
 (.exit 0))
 (.seq
 (.blk
 1
 (.seq
 (.reg
 [⟨(some 13),none,(.ia 3 (.t 9) (.t 11))⟩,⟨(some 14),none,(.lda 3 [(.int .i64),(.int .i64),(.int .i64)] (.t 13))⟩,⟨(some 8),none,(.alc 8 ty_parts_Part [(.int .i64 0),(.int .i64 0),(.int .i64 0)])⟩,⟨none,none,(.st 3 (.t 8) (.t 14))⟩])
 (.drb
 [⟨(some 15),none,(.mv (.t 0))⟩,⟨(some 16),none,(.fa 0 (.t 8))⟩,⟨(some 17),none,(.ld (.int .i64) (.t 16))⟩,⟨(some 18),none,(.mv (.t 2))⟩,⟨(some 19),none,(.fa 2 (.t 8))⟩,⟨(some 20),none,(.ld (.int .i64) (.t 19))⟩,⟨(some 21),none,(.call fn_scan_Follow [(.t 15),(.t 17),(.t 18),(.t 20)])⟩,⟨(some 22),none,(.fa 2 (.t 8))⟩,⟨(some 23),none,(.ld (.int .i64) (.t 22))⟩,⟨(some 24),none,(.call fn_scan_Orbit_At [(.t 21),(.t 23)])⟩,⟨(some 2),none,(.mv (.t 24))⟩]
 (.mov 0 (.take 1 (.take 2 (.mov 3 (.take 4 (.take 5 (.take 7 (.take 8 (.alt 6 true (.bar 9 (.mov 10 .done)) .nil))))))))))))
 (.reg
 [⟨(some 25),none,(.ar .add .i64 (.t 11) (.c (.int .i64 1)))⟩,⟨(some 11),none,(.mv (.t 25))⟩])))))))
 (.seq
 (.reg
 [⟨(some 26),none,(.mv (.t 2))⟩,⟨(some 6),none,(.mv (.t 26))⟩])
 .ret)))
def ts_scan_Through : List (Nat × Tr) := [(4,(.mov 0 (.take 1 (.take 2 (.mov 3 (.take 4 (.take 5 (.take 7 (.take 8 (.alt 6 true (.bar 9 (.mov 10 .done)) .nil))))))))))]
set_option maxRecDepth 100000 in
set_option maxHeartbeats 4000000 in
theorem ok_scan_Through : irOf Try.prog fn_scan_Through [2000004] ts_scan_Through = some (27,[(.t 6)],ir_scan_Through) := by kernel_rfl
def ir_scan_First : C :=
 (.seq
 (.reg
 [⟨(some 6),none,(.mv (.c (.int .i64 0)))⟩])
 (.seq
 (.reg
 [⟨(some 7),none,(.mv (.c (.int .i64 0)))⟩])
 (.seq
 (.seq
 (.reg
 [⟨(some 12),none,(.mv (.t 1))⟩,⟨(some 13),none,(.lens (.t 12))⟩,⟨(some 14),none,(.mv (.c (.int .i64 0)))⟩])
 (.blk
 0
 (.loop
 (.seq
 (.reg
 [⟨(some 15),none,(.cmp .lss .i64 (.t 14) (.t 13))⟩])
 (.seq
 (.cond
 (.t 15)
 .skip
 (.exit 0))
 (.seq
 (.blk
 1
 (.seq
 (.reg
 [⟨(some 16),none,(.ia 3 (.t 12) (.t 14))⟩,⟨(some 17),none,(.lda 3 [(.int .i64),(.int .i64),(.int .i64)] (.t 16))⟩,⟨(some 9),none,(.alc 9 ty_parts_Part [(.int .i64 0),(.int .i64 0),(.int .i64 0)])⟩,⟨none,none,(.st 3 (.t 9) (.t 17))⟩])
 (.seq
 (.reg
 [⟨(some 19),none,(.mv (.t 0))⟩,⟨(some 20),none,(.fa 0 (.t 9))⟩,⟨(some 21),none,(.ld (.int .i64) (.t 20))⟩,⟨(some 22),none,(.mv (.t 2))⟩,⟨(some 23),none,(.fa 2 (.t 9))⟩,⟨(some 24),none,(.ld (.int .i64) (.t 23))⟩,⟨(some 25),none,(.call fn_scan_Skip [(.t 19),(.t 21),(.t 22),(.t 24)])⟩,⟨(some 18),none,(.mv (.t 25))⟩,⟨(some 26),none,(.ext (.t 18) 0)⟩,⟨(some 27),none,(.ext (.t 18) 1)⟩,⟨(some 10),none,(.mv (.t 26))⟩,⟨(some 11),none,(.mv (.t 27))⟩])
 (.seq
 (.reg
 [⟨(some 28),none,(.mv (.t 7))⟩,⟨(some 29),none,(.mv (.t 10))⟩,⟨(some 30),none,(.mv (.t 0))⟩,⟨(some 31),none,(.fa 0 (.t 9))⟩,⟨(some 32),none,(.ld (.int .i64) (.t 31))⟩,⟨(some 33),none,(.call fn_scan_Size [(.t 30),(.t 32)])⟩,⟨(some 34),none,(.ar .mul .i64 (.t 29) (.t 33))⟩,⟨(some 35),none,(.ar .add .i64 (.t 28) (.t 34))⟩,⟨(some 7),none,(.mv (.t 35))⟩])
 (.seq
 (.seq
 (.reg
 [⟨(some 36),none,(.mv (.t 10))⟩,⟨(some 37),none,(.fa 2 (.t 9))⟩,⟨(some 38),none,(.ld (.int .i64) (.t 37))⟩,⟨(some 39),none,(.cmp .lss .i64 (.t 36) (.t 38))⟩])
 (.cond
 (.t 39)
 (.seq
 (.reg
 [⟨(some 40),none,(.mv (.t 7))⟩,⟨(some 41),none,(.mv (.t 0))⟩,⟨(some 42),none,(.fa 0 (.t 9))⟩,⟨(some 43),none,(.ld (.int .i64) (.t 42))⟩,⟨(some 44),none,(.mv (.t 11))⟩,⟨(some 45),none,(.call fn_scan_first [(.t 41),(.t 43),(.t 44)])⟩,⟨(some 46),none,(.ar .add .i64 (.t 40) (.t 45))⟩,⟨(some 6),none,(.mv (.t 46))⟩])
 .ret)
 .skip))
 (.reg
 [⟨(some 47),none,(.mv (.t 11))⟩,⟨(some 2),none,(.mv (.t 47))⟩]))))))
 (.reg
 [⟨(some 48),none,(.ar .add .i64 (.t 14) (.c (.int .i64 1)))⟩,⟨(some 14),none,(.mv (.t 48))⟩])))))))
 (.seq
 (.reg
 [⟨(some 6),none,(.mv (.c (.int .i64 0)))⟩])
 .ret))))
def ts_scan_First : List (Nat × Tr) := []
set_option maxRecDepth 100000 in
set_option maxHeartbeats 4000000 in
theorem ok_scan_First : irOf Try.prog fn_scan_First [] ts_scan_First = some (49,[(.t 6)],ir_scan_First) := by kernel_rfl
def ir_scan_Last : C :=
 (.seq
 (.reg
 [⟨(some 6),none,(.mv (.c (.int .i64 0)))⟩])
 (.seq
 (.reg
 [⟨(some 7),none,(.mv (.c (.int .i64 0)))⟩,⟨(some 8),none,(.mv (.c (.int .i64 0)))⟩])
 (.seq
 (.reg
 [⟨(some 9),none,(.alc 9 ty_parts_Part [(.int .i64 0),(.int .i64 0),(.int .i64 0)])⟩])
 (.seq
 (.reg
 [⟨(some 10),none,(.mv (.c (.int .i64 0)))⟩])
 (.seq
 (.seq
 (.reg
 [⟨(some 17),none,(.mv (.t 1))⟩,⟨(some 18),none,(.lens (.t 17))⟩,⟨(some 19),none,(.mv (.c (.int .i64 0)))⟩])
 (.blk
 0
 (.loop
 (.seq
 (.reg
 [⟨(some 20),none,(.cmp .lss .i64 (.t 19) (.t 18))⟩])
 (.seq
 (.cond
 (.t 20)
 .skip
 (.exit 0))
 (.seq
 (.blk
 1
 (.seq
 (.reg
 [⟨(some 21),none,(.ia 3 (.t 17) (.t 19))⟩,⟨(some 22),none,(.lda 3 [(.int .i64),(.int .i64),(.int .i64)] (.t 21))⟩,⟨(some 12),none,(.alc 12 ty_parts_Part [(.int .i64 0),(.int .i64 0),(.int .i64 0)])⟩,⟨none,none,(.st 3 (.t 12) (.t 22))⟩])
 (.cut
 (.seq
 (.reg
 [⟨(some 24),none,(.mv (.t 0))⟩,⟨(some 25),none,(.fa 0 (.t 12))⟩,⟨(some 26),none,(.ld (.int .i64) (.t 25))⟩,⟨(some 27),none,(.mv (.t 2))⟩,⟨(some 28),none,(.fa 2 (.t 12))⟩,⟨(some 29),none,(.ld (.int .i64) (.t 28))⟩,⟨(some 30),none,(.call fn_scan_Skip [(.t 24),(.t 26),(.t 27),(.t 29)])⟩,⟨(some 23),none,(.mv (.t 30))⟩,⟨(some 31),none,(.ext (.t 23) 0)⟩,⟨(some 32),none,(.ext (.t 23) 1)⟩,⟨(some 13),none,(.mv (.t 31))⟩,⟨(some 14),none,(.mv (.t 32))⟩])
 (.seq
 (.reg
 [⟨(some 33),none,(.mv (.t 13))⟩,⟨(some 34),none,(.fa 2 (.t 12))⟩,⟨(some 35),none,(.ld (.int .i64) (.t 34))⟩,⟨(some 36),none,(.cmp .lss .i64 (.t 33) (.t 35))⟩])
 (.cond
 (.t 36)
 (.reg
 [⟨(some 37),none,(.lda 3 [(.int .i64),(.int .i64),(.int .i64)] (.t 12))⟩,⟨(some 38),none,(.mv (.t 2))⟩,⟨(some 39),none,(.mv (.t 7))⟩,⟨none,none,(.st 3 (.t 9) (.t 37))⟩,⟨(some 10),none,(.mv (.t 38))⟩,⟨(some 8),none,(.mv (.t 39))⟩])
 .skip)))
 (.seq
 (.drb
 [⟨(some 40),none,(.mv (.t 0))⟩,⟨(some 41),none,(.fa 0 (.t 12))⟩,⟨(some 42),none,(.ld (.int .i64) (.t 41))⟩,⟨(some 43),none,(.mv (.t 2))⟩,⟨(some 44),none,(.fa 2 (.t 12))⟩,⟨(some 45),none,(.ld (.int .i64) (.t 44))⟩,⟨(some 46),none,(.call fn_scan_Follow [(.t 40),(.t 42),(.t 43),(.t 45)])⟩,⟨(some 47),none,(.fa 2 (.t 12))⟩,⟨(some 48),none,(.ld (.int .i64) (.t 47))⟩,⟨(some 49),none,(.call fn_scan_Orbit_At [(.t 46),(.t 48)])⟩,⟨(some 2),none,(.mv (.t 49))⟩]
 (.mov 0 (.take 1 (.take 2 (.mov 3 (.take 4 (.take 5 (.take 7 (.take 8 (.alt 6 true (.bar 9 (.mov 10 .done)) .nil))))))))))
 (.drb
 [⟨(some 50),none,(.mv (.t 7))⟩,⟨(some 51),none,(.fa 2 (.t 12))⟩,⟨(some 52),none,(.ld (.int .i64) (.t 51))⟩,⟨(some 53),none,(.mv (.t 0))⟩,⟨(some 54),none,(.fa 0 (.t 12))⟩,⟨(some 55),none,(.ld (.int .i64) (.t 54))⟩,⟨(some 56),none,(.call fn_scan_Size [(.t 53),(.t 55)])⟩,⟨(some 57),none,(.ar .mul .i64 (.t 52) (.t 56))⟩,⟨(some 58),none,(.ar .add .i64 (.t 50) (.t 57))⟩,⟨(some 7),none,(.mv (.t 58))⟩]
 (.mov 0 (.take 1 (.take 2 (.mov 3 (.take 4 (.take 5 (.alt 6 true (.take 7 (.take 8 (.mov 9 .done))) .nil))))))))))))
 (.reg
 [⟨(some 59),none,(.ar .add .i64 (.t 19) (.c (.int .i64 1)))⟩,⟨(some 19),none,(.mv (.t 59))⟩])))))))
 (.seq
 (.seq
 (.reg
 [⟨(some 60),none,(.fa 2 (.t 9))⟩,⟨(some 61),none,(.ld (.int .i64) (.t 60))⟩,⟨(some 62),none,(.cmp .eql .i64 (.t 61) (.c (.int .i64 0)))⟩])
 (.cond
 (.t 62)
 (.seq
 (.reg
 [⟨(some 6),none,(.mv (.c (.int .i64 0)))⟩])
 .ret)
 .skip))
 (.seq
 (.reg
 [⟨(some 64),none,(.mv (.t 0))⟩,⟨(some 65),none,(.fa 0 (.t 9))⟩,⟨(some 66),none,(.ld (.int .i64) (.t 65))⟩,⟨(some 67),none,(.mv (.t 10))⟩,⟨(some 68),none,(.fa 2 (.t 9))⟩,⟨(some 69),none,(.ld (.int .i64) (.t 68))⟩,⟨(some 70),none,(.call fn_scan_lastCopy [(.t 64),(.t 66),(.t 67),(.t 69)])⟩,⟨(some 63),none,(.mv (.t 70))⟩,⟨(some 71),none,(.ext (.t 63) 0)⟩,⟨(some 72),none,(.ext (.t 63) 1)⟩,⟨(some 15),none,(.mv (.t 71))⟩,⟨(some 16),none,(.mv (.t 72))⟩])
 (.seq
 (.drb
 [⟨(some 73),none,(.mv (.t 8))⟩,⟨(some 74),none,(.mv (.t 15))⟩,⟨(some 75),none,(.mv (.t 0))⟩,⟨(some 76),none,(.fa 0 (.t 9))⟩,⟨(some 77),none,(.ld (.int .i64) (.t 76))⟩,⟨(some 78),none,(.call fn_scan_Size [(.t 75),(.t 77)])⟩,⟨(some 79),none,(.ar .mul .i64 (.t 74) (.t 78))⟩,⟨(some 80),none,(.ar .add .i64 (.t 73) (.t 79))⟩,⟨(some 81),none,(.mv (.t 0))⟩,⟨(some 82),none,(.fa 0 (.t 9))⟩,⟨(some 83),none,(.ld (.int .i64) (.t 82))⟩,⟨(some 84),none,(.mv (.t 16))⟩,⟨(some 85),none,(.call fn_scan_last [(.t 81),(.t 83),(.t 84)])⟩,⟨(some 86),none,(.ar .add .i64 (.t 80) (.t 85))⟩,⟨(some 6),none,(.mv (.t 86))⟩]
 (.mov 0 (.mov 1 (.mov 2 (.take 3 (.take 4 (.mov 8 (.take 9 (.take 10 (.mov 11 (.alt 5 true (.take 6 (.take 7 (.alt 12 true (.take 13 (.mov 14 .done)) .nil))) .nil)))))))))))
 .ret))))))))
def ts_scan_Last : List (Nat × Tr) := [(10,(.mov 0 (.take 1 (.take 2 (.mov 3 (.take 4 (.take 5 (.take 7 (.take 8 (.alt 6 true (.bar 9 (.mov 10 .done)) .nil)))))))))),(11,(.mov 0 (.take 1 (.take 2 (.mov 3 (.take 4 (.take 5 (.alt 6 true (.take 7 (.take 8 (.mov 9 .done))) .nil)))))))),(16,(.mov 0 (.mov 1 (.mov 2 (.take 3 (.take 4 (.mov 8 (.take 9 (.take 10 (.mov 11 (.alt 5 true (.take 6 (.take 7 (.alt 12 true (.take 13 (.mov 14 .done)) .nil))) .nil)))))))))))]
set_option maxRecDepth 100000 in
set_option maxHeartbeats 4000000 in
theorem ok_scan_Last : irOf Try.prog fn_scan_Last [2000010,2000011,2000016,1000040] ts_scan_Last = some (87,[(.t 6)],ir_scan_Last) := by kernel_rfl
def ir_scan_End : C :=
 (.seq
 (.reg
 [⟨(some 6),none,(.mv (.c (.int .i64 0)))⟩])
 (.seq
 (.reg
 [⟨(some 10),none,(.mv (.t 0))⟩,⟨(some 11),none,(.mv (.t 1))⟩,⟨(some 12),none,(.mv (.t 2))⟩,⟨(some 13),none,(.call fn_P_transfer_Table_End [(.t 10),(.t 11),(.t 12)])⟩,⟨(some 9),none,(.mv (.t 13))⟩,⟨(some 14),none,(.ext (.t 9) 0)⟩,⟨(some 15),none,(.ext (.t 9) 1)⟩,⟨(some 7),none,(.mv (.t 14))⟩,⟨(some 8),none,(.mv (.t 15))⟩])
 (.seq
 (.seq
 (.reg
 [⟨(some 16),none,(.mv (.t 8))⟩,⟨(some 17),none,(.eqn .ifc true (.t 16))⟩])
 (.cond
 (.t 17)
 (.seq
 (.reg
 [⟨(some 18),none,(.mv (.t 2))⟩,⟨(some 6),none,(.mv (.t 18))⟩])
 .ret)
 .skip))
 (.seq
 (.reg
 [⟨(some 19),none,(.mv (.t 7))⟩,⟨(some 6),none,(.mv (.t 19))⟩])
 .ret))))
def ts_scan_End : List (Nat × Tr) := []
set_option maxRecDepth 100000 in
set_option maxHeartbeats 4000000 in
theorem ok_scan_End : irOf Try.prog fn_scan_End [] ts_scan_End = some (20,[(.t 6)],ir_scan_End) := by kernel_rfl
def ir_scan_Hit : C :=
 (.seq
 (.reg
 [⟨(some 6),none,(.mv (.c (.bool false)))⟩])
 (.seq
 (.reg
 [⟨(some 10),none,(.mv (.t 0))⟩,⟨(some 11),none,(.mv (.t 1))⟩,⟨(some 12),none,(.mv (.t 2))⟩,⟨(some 13),none,(.call fn_P_transfer_Table_Hits [(.t 10),(.t 11),(.t 12)])⟩,⟨(some 9),none,(.mv (.t 13))⟩,⟨(some 14),none,(.ext (.t 9) 0)⟩,⟨(some 15),none,(.ext (.t 9) 1)⟩,⟨(some 7),none,(.mv (.t 14))⟩,⟨(some 8),none,(.mv (.t 15))⟩])
 (.seq
 (.reg
 [⟨(some 16),none,(.mv (.t 8))⟩,⟨(some 17),none,(.eqn .ifc true (.t 16))⟩,⟨(some 18),none,(.mv (.t 17))⟩,⟨(some 19),(some (18,false)),(.mv (.t 7))⟩,⟨(some 20),(some (18,false)),(.cmp .gtr .i64 (.t 19) (.c (.int .i64 0)))⟩,⟨(some 21),none,(.pick (.t 18) (.c (.bool true)) (.t 20))⟩,⟨(some 6),none,(.mv (.t 21))⟩])
 .ret)))
def ts_scan_Hit : List (Nat × Tr) := []
set_option maxRecDepth 100000 in
set_option maxHeartbeats 4000000 in
theorem ok_scan_Hit : irOf Try.prog fn_scan_Hit [] ts_scan_Hit = some (22,[(.t 6)],ir_scan_Hit) := by kernel_rfl
def ir_scan_Children : C :=
 (.seq
 (.reg
 [⟨(some 3),none,(.box 3 ty_api_Rule (.t 1))⟩,⟨(some 4),none,(.mv (.c (.int .i64 0)))⟩,⟨(some 5),none,(.mv (.c (.int .i64 0)))⟩])
 (.seq
 (.seq
 (.reg
 [⟨(some 6),none,(.mv (.t 0))⟩,⟨(some 7),none,(.call fn_P_transfer_Table_Back [(.t 6)])⟩])
 (.cond
 (.t 7)
 (.seq
 (.drw
 [⟨(some 8),none,(.fa 3 (.t 3))⟩,⟨(some 9),none,(.ld (.int .i64) (.t 8))⟩,⟨(some 10),none,(.fa 2 (.t 3))⟩,⟨(some 11),none,(.ld (.int .i64) (.t 10))⟩,⟨(some 4),none,(.mv (.t 9))⟩,⟨(some 5),none,(.mv (.t 11))⟩]
 (.take 0 (.take 1 (.take 2 (.take 3 (.mov 4 (.mov 5 .done)))))))
 .ret)
 .skip))
 (.seq
 (.drw
 [⟨(some 12),none,(.fa 2 (.t 3))⟩,⟨(some 13),none,(.ld (.int .i64) (.t 12))⟩,⟨(some 14),none,(.fa 3 (.t 3))⟩,⟨(some 15),none,(.ld (.int .i64) (.t 14))⟩,⟨(some 4),none,(.mv (.t 13))⟩,⟨(some 5),none,(.mv (.t 15))⟩]
 (.take 0 (.take 1 (.take 2 (.take 3 (.mov 4 (.mov 5 .done)))))))
 .ret)))
def ts_scan_Children : List (Nat × Tr) := [(2,(.take 0 (.take 1 (.take 2 (.take 3 (.mov 4 (.mov 5 .done))))))),(3,(.take 0 (.take 1 (.take 2 (.take 3 (.mov 4 (.mov 5 .done)))))))]
set_option maxRecDepth 100000 in
set_option maxHeartbeats 4000000 in
theorem ok_scan_Children : irOf Try.prog fn_scan_Children [] ts_scan_Children = some (16,[(.t 4),(.t 5)],ir_scan_Children) := by kernel_rfl
def ir_scan_Skip : C :=
 (.seq
 (.reg
 [⟨(some 8),none,(.mv (.c (.int .i64 0)))⟩,⟨(some 9),none,(.mv (.c (.int .i64 0)))⟩])
 (.seq
 (.reg
 [⟨(some 10),none,(.alc 10 ty_256_int16 [(.int .i16 0),(.int .i16 0),(.int .i16 0),(.int .i16 0),(.int .i16 0),(.int .i16 0),(.int .i16 0),(.int .i16 0),(.int .i16 0),(.int .i16 0),(.int .i16 0),(.int .i16 0),(.int .i16 0),(.int .i16 0),(.int .i16 0),(.int .i16 0),(.int .i16 0),(.int .i16 0),(.int .i16 0),(.int .i16 0),(.int .i16 0),(.int .i16 0),(.int .i16 0),(.int .i16 0),(.int .i16 0),(.int .i16 0),(.int .i16 0),(.int .i16 0),(.int .i16 0),(.int .i16 0),(.int .i16 0),(.int .i16 0),(.int .i16 0),(.int .i16 0),(.int .i16 0),(.int .i16 0),(.int .i16 0),(.int .i16 0),(.int .i16 0),(.int .i16 0),(.int .i16 0),(.int .i16 0),(.int .i16 0),(.int .i16 0),(.int .i16 0),(.int .i16 0),(.int .i16 0),(.int .i16 0),(.int .i16 0),(.int .i16 0),(.int .i16 0),(.int .i16 0),(.int .i16 0),(.int .i16 0),(.int .i16 0),(.int .i16 0),(.int .i16 0),(.int .i16 0),(.int .i16 0),(.int .i16 0),(.int .i16 0),(.int .i16 0),(.int .i16 0),(.int .i16 0),(.int .i16 0),(.int .i16 0),(.int .i16 0),(.int .i16 0),(.int .i16 0),(.int .i16 0),(.int .i16 0),(.int .i16 0),(.int .i16 0),(.int .i16 0),(.int .i16 0),(.int .i16 0),(.int .i16 0),(.int .i16 0),(.int .i16 0),(.int .i16 0),(.int .i16 0),(.int .i16 0),(.int .i16 0),(.int .i16 0),(.int .i16 0),(.int .i16 0),(.int .i16 0),(.int .i16 0),(.int .i16 0),(.int .i16 0),(.int .i16 0),(.int .i16 0),(.int .i16 0),(.int .i16 0),(.int .i16 0),(.int .i16 0),(.int .i16 0),(.int .i16 0),(.int .i16 0),(.int .i16 0),(.int .i16 0),(.int .i16 0),(.int .i16 0),(.int .i16 0),(.int .i16 0),(.int .i16 0),(.int .i16 0),(.int .i16 0),(.int .i16 0),(.int .i16 0),(.int .i16 0),(.int .i16 0),(.int .i16 0),(.int .i16 0),(.int .i16 0),(.int .i16 0),(.int .i16 0),(.int .i16 0),(.int .i16 0),(.int .i16 0),(.int .i16 0),(.int .i16 0),(.int .i16 0),(.int .i16 0),(.int .i16 0),(.int .i16 0),(.int .i16 0),(.int .i16 0),(.int .i16 0),(.int .i16 0),(.int .i16 0),(.int .i16 0),(.int .i16 0),(.int .i16 0),(.int .i16 0),(.int .i16 0),(.int .i16 0),(.int .i16 0),(.int .i16 0),(.int .i16 0),(.int .i16 0),(.int .i16 0),(.int .i16 0),(.int .i16 0),(.int .i16 0),(.int .i16 0),(.int .i16 0),(.int .i16 0),(.int .i16 0),(.int .i16 0),(.int .i16 0),(.int .i16 0),(.int .i16 0),(.int .i16 0),(.int .i16 0),(.int .i16 0),(.int .i16 0),(.int .i16 0),(.int .i16 0),(.int .i16 0),(.int .i16 0),(.int .i16 0),(.int .i16 0),(.int .i16 0),(.int .i16 0),(.int .i16 0),(.int .i16 0),(.int .i16 0),(.int .i16 0),(.int .i16 0),(.int .i16 0),(.int .i16 0),(.int .i16 0),(.int .i16 0),(.int .i16 0),(.int .i16 0),(.int .i16 0),(.int .i16 0),(.int .i16 0),(.int .i16 0),(.int .i16 0),(.int .i16 0),(.int .i16 0),(.int .i16 0),(.int .i16 0),(.int .i16 0),(.int .i16 0),(.int .i16 0),(.int .i16 0),(.int .i16 0),(.int .i16 0),(.int .i16 0),(.int .i16 0),(.int .i16 0),(.int .i16 0),(.int .i16 0),(.int .i16 0),(.int .i16 0),(.int .i16 0),(.int .i16 0),(.int .i16 0),(.int .i16 0),(.int .i16 0),(.int .i16 0),(.int .i16 0),(.int .i16 0),(.int .i16 0),(.int .i16 0),(.int .i16 0),(.int .i16 0),(.int .i16 0),(.int .i16 0),(.int .i16 0),(.int .i16 0),(.int .i16 0),(.int .i16 0),(.int .i16 0),(.int .i16 0),(.int .i16 0),(.int .i16 0),(.int .i16 0),(.int .i16 0),(.int .i16 0),(.int .i16 0),(.int .i16 0),(.int .i16 0),(.int .i16 0),(.int .i16 0),(.int .i16 0),(.int .i16 0),(.int .i16 0),(.int .i16 0),(.int .i16 0),(.int .i16 0),(.int .i16 0),(.int .i16 0),(.int .i16 0),(.int .i16 0),(.int .i16 0),(.int .i16 0),(.int .i16 0),(.int .i16 0),(.int .i16 0),(.int .i16 0),(.int .i16 0),(.int .i16 0),(.int .i16 0),(.int .i16 0),(.int .i16 0),(.int .i16 0),(.int .i16 0),(.int .i16 0),(.int .i16 0),(.int .i16 0),(.int .i16 0),(.int .i16 0)])⟩])
 (.seq
 (.seq
 (.reg
 [⟨(some 11),none,(.mv (.c (.int .i64 0)))⟩])
 (.blk
 0
 (.loop
 (.seq
 (.seq
 (.reg
 [⟨(some 14),none,(.mv (.t 11))⟩,⟨(some 15),none,(.mv (.t 3))⟩,⟨(some 16),none,(.cmp .lss .i64 (.t 14) (.t 15))⟩])
 (.cond
 (.t 16)
 .skip
 (.exit 0)))
 (.seq
 (.blk
 1
 (.seq
 (.seq
 (.reg
 [⟨(some 19),none,(.mv (.t 0))⟩,⟨(some 20),none,(.mv (.t 1))⟩,⟨(some 21),none,(.mv (.t 2))⟩,⟨(some 22),none,(.call fn_scan_Hit [(.t 19),(.t 20),(.t 21)])⟩])
 (.cond
 (.t 22)
 (.seq
 (.reg
 [⟨(some 23),none,(.mv (.t 11))⟩,⟨(some 24),none,(.mv (.t 2))⟩,⟨(some 8),none,(.mv (.t 23))⟩,⟨(some 9),none,(.mv (.t 24))⟩])
 .ret)
 .skip))
 (.seq
 (.seq
 (.reg
 [⟨(some 25),none,(.mv (.t 2))⟩,⟨(some 26),none,(.iaa 1 256 (.t 10) (.t 25))⟩,⟨(some 27),none,(.ld (.int .i16) (.t 26))⟩,⟨(some 28),none,(.cv .i64 (.t 27))⟩,⟨(some 12),none,(.mv (.t 28))⟩])
 (.seq
 (.reg
 [⟨(some 29),none,(.mv (.t 12))⟩,⟨(some 30),none,(.cmp .gtr .i64 (.t 29) (.c (.int .i64 0)))⟩])
 (.cond
 (.t 30)
 (.seq
 (.seq
 (.reg
 [⟨(some 31),none,(.mv (.t 3))⟩,⟨(some 32),none,(.mv (.t 11))⟩,⟨(some 33),none,(.ar .sub .i64 (.t 31) (.t 32))⟩,⟨(some 34),none,(.mv (.t 11))⟩,⟨(some 35),none,(.ar .add .i64 (.t 34) (.c (.int .i64 1)))⟩,⟨(some 36),none,(.mv (.t 12))⟩,⟨(some 37),none,(.ar .sub .i64 (.t 35) (.t 36))⟩,⟨(some 38),none,(.dv true .i64 (.t 33) (.t 37))⟩,⟨(some 13),none,(.mv (.t 38))⟩])
 (.blk
 2
 (.loop
 (.seq
 (.seq
 (.reg
 [⟨(some 39),none,(.mv (.t 13))⟩,⟨(some 40),none,(.cmp .gtr .i64 (.t 39) (.c (.int .i64 0)))⟩])
 (.cond
 (.t 40)
 .skip
 (.exit 2)))
 (.seq
 (.blk
 3
 (.reg
 [⟨(some 43),none,(.mv (.t 0))⟩,⟨(some 44),none,(.mv (.t 1))⟩,⟨(some 45),none,(.mv (.t 2))⟩,⟨(some 46),none,(.call fn_scan_End [(.t 43),(.t 44),(.t 45)])⟩,⟨(some 2),none,(.mv (.t 46))⟩]))
 (.reg
 [⟨(some 41),none,(.mv (.t 13))⟩,⟨(some 42),none,(.ar .sub .i64 (.t 41) (.c (.int .i64 1)))⟩,⟨(some 13),none,(.mv (.t 42))⟩]))))))
 (.seq
 (.reg
 [⟨(some 47),none,(.mv (.t 3))⟩,⟨(some 48),none,(.mv (.t 2))⟩,⟨(some 8),none,(.mv (.t 47))⟩,⟨(some 9),none,(.mv (.t 48))⟩])
 .ret))
 .skip)))
 (.seq
 (.reg
 [⟨(some 49),none,(.mv (.t 2))⟩,⟨(some 50),none,(.mv (.t 11))⟩,⟨(some 51),none,(.ar .add .i64 (.t 50) (.c (.int .i64 1)))⟩,⟨(some 52),none,(.cv .i16 (.t 51))⟩,⟨(some 53),none,(.iaa 1 256 (.t 10) (.t 49))⟩,⟨none,none,(.st 1 (.t 53) (.t 52))⟩])
 (.reg
 [⟨(some 54),none,(.mv (.t 0))⟩,⟨(some 55),none,(.mv (.t 1))⟩,⟨(some 56),none,(.mv (.t 2))⟩,⟨(some 57),none,(.call fn_scan_End [(.t 54),(.t 55),(.t 56)])⟩,⟨(some 2),none,(.mv (.t 57))⟩])))))
 (.reg
 [⟨(some 17),none,(.mv (.t 11))⟩,⟨(some 18),none,(.ar .add .i64 (.t 17) (.c (.int .i64 1)))⟩,⟨(some 11),none,(.mv (.t 18))⟩]))))))
 (.seq
 (.reg
 [⟨(some 58),none,(.mv (.t 3))⟩,⟨(some 59),none,(.mv (.t 2))⟩,⟨(some 8),none,(.mv (.t 58))⟩,⟨(some 9),none,(.mv (.t 59))⟩])
 .ret))))
def ts_scan_Skip : List (Nat × Tr) := []
set_option maxRecDepth 100000 in
set_option maxHeartbeats 4000000 in
theorem ok_scan_Skip : irOf Try.prog fn_scan_Skip [] ts_scan_Skip = some (60,[(.t 8),(.t 9)],ir_scan_Skip) := by kernel_rfl
def ir_scan_first : C :=
 (.seq
 (.reg
 [⟨(some 6),none,(.mv (.c (.int .i64 0)))⟩])
 (.seq
 (.reg
 [⟨(some 7),none,(.mv (.c (.int .i64 0)))⟩])
 (.blk
 0
 (.loop
 (.blk
 1
 (.seq
 (.reg
 [⟨(some 14),none,(.mv (.t 0))⟩,⟨(some 15),none,(.call fn_P_transfer_Table_Store [(.t 14)])⟩,⟨(some 16),none,(.mv (.t 1))⟩,⟨(some 17),none,(.call fn_P_intern_Store_Rule [(.t 15),(.t 16)])⟩,⟨(some 13),none,(.mv (.t 17))⟩,⟨(some 18),none,(.ext (.t 13) 0)⟩,⟨(some 19),none,(.ext (.t 13) 1)⟩,⟨(some 8),none,(.alc 8 ty_api_Rule [(.int .i64 0),(.int .u8 0),(.int .i64 0),(.int .i64 0),(.int .i64 0)])⟩,⟨none,none,(.st 5 (.t 8) (.t 18))⟩,⟨(some 9),none,(.mv (.t 19))⟩])
 (.seq
 (.seq
 (.reg
 [⟨(some 20),none,(.mv (.t 9))⟩,⟨(some 21),none,(.eqn .ifc true (.t 20))⟩,⟨(some 22),none,(.mv (.t 21))⟩,⟨(some 23),(some (22,false)),(.fa 0 (.t 8))⟩,⟨(some 24),(some (22,false)),(.ld (.int .i64) (.t 23))⟩,⟨(some 25),(some (22,false)),(.cmp .eql .i64 (.t 24) (.c (.int .i64 1)))⟩,⟨(some 26),none,(.pick (.t 22) (.c (.bool true)) (.t 25))⟩])
 (.cond
 (.t 26)
 (.seq
 (.reg
 [⟨(some 27),none,(.mv (.t 7))⟩,⟨(some 28),none,(.ar .add .i64 (.t 27) (.c (.int .i64 1)))⟩,⟨(some 6),none,(.mv (.t 28))⟩])
 .ret)
 .skip))
 (.seq
 (.seq
 (.reg
 [⟨(some 29),none,(.fa 0 (.t 8))⟩,⟨(some 30),none,(.ld (.int .i64) (.t 29))⟩,⟨(some 31),none,(.cmp .eql .i64 (.t 30) (.c (.int .i64 3)))⟩])
 (.cond
 (.t 31)
 (.seq
 (.reg
 [⟨(some 10),none,(.mv (.c (.int .i64 0)))⟩])
 (.seq
 (.reg
 [⟨(some 33),none,(.mv (.t 0))⟩,⟨(some 34),none,(.fa 2 (.t 8))⟩,⟨(some 35),none,(.ld (.int .i64) (.t 34))⟩,⟨(some 36),none,(.mv (.t 2))⟩,⟨(some 37),none,(.fa 4 (.t 8))⟩,⟨(some 38),none,(.ld (.int .i64) (.t 37))⟩,⟨(some 39),none,(.call fn_scan_Skip [(.t 33),(.t 35),(.t 36),(.t 38)])⟩,⟨(some 32),none,(.mv (.t 39))⟩,⟨(some 40),none,(.ext (.t 32) 0)⟩,⟨(some 41),none,(.ext (.t 32) 1)⟩,⟨(some 10),none,(.mv (.t 40))⟩,⟨(some 2),none,(.mv (.t 41))⟩])
 (.seq
 (.reg
 [⟨(some 42),none,(.mv (.t 7))⟩,⟨(some 43),none,(.mv (.t 10))⟩,⟨(some 44),none,(.mv (.t 0))⟩,⟨(some 45),none,(.fa 2 (.t 8))⟩,⟨(some 46),none,(.ld (.int .i64) (.t 45))⟩,⟨(some 47),none,(.call fn_scan_Size [(.t 44),(.t 46)])⟩,⟨(some 48),none,(.ar .mul .i64 (.t 43) (.t 47))⟩,⟨(some 49),none,(.ar .add .i64 (.t 42) (.t 48))⟩,⟨(some 7),none,(.mv (.t 49))⟩])
 (.seq
 (.reg
 [⟨(some 50),none,(.fa 2 (.t 8))⟩,⟨(some 51),none,(.ld (.int .i64) (.t 50))⟩,⟨(some 1),none,(.mv (.t 51))⟩])
 (.exit 1)))))
 .skip))
 (.seq
 (.reg
 [⟨(some 53),none,(.mv (.t 0))⟩,⟨(some 54),none,(.lda 5 [(.int .i64),(.int .u8),(.int .i64),(.int .i64),(.int .i64)] (.t 8))⟩,⟨(some 55),none,(.call fn_scan_Children [(.t 53),(.t 54)])⟩,⟨(some 52),none,(.mv (.t 55))⟩,⟨(some 56),none,(.ext (.t 52) 0)⟩,⟨(some 57),none,(.ext (.t 52) 1)⟩,⟨(some 11),none,(.mv (.t 56))⟩,⟨(some 12),none,(.mv (.t 57))⟩])
 (.seq
 (.reg
 [⟨(some 58),none,(.mv (.t 11))⟩,⟨(some 1),none,(.mv (.t 58))⟩])
 (.seq
 (.reg
 [⟨(some 59),none,(.mv (.t 0))⟩,⟨(some 60),none,(.mv (.t 11))⟩,⟨(some 61),none,(.mv (.t 2))⟩,⟨(some 62),none,(.call fn_scan_Hit [(.t 59),(.t 60),(.t 61)])⟩,⟨(some 63),none,(.not (.t 62))⟩])
 (.cond
 (.t 63)
 (.seq
 (.reg
 [⟨(some 64),none,(.mv (.t 7))⟩,⟨(some 65),none,(.mv (.t 0))⟩,⟨(some 66),none,(.mv (.t 11))⟩,⟨(some 67),none,(.call fn_scan_Size [(.t 65),(.t 66)])⟩,⟨(some 68),none,(.ar .add .i64 (.t 64) (.t 67))⟩,⟨(some 7),none,(.mv (.t 68))⟩])
 (.seq
 (.reg
 [⟨(some 69),none,(.mv (.t 0))⟩,⟨(some 70),none,(.mv (.t 11))⟩,⟨(some 71),none,(.mv (.t 2))⟩,⟨(some 72),none,(.call fn_scan_End [(.t 69),(.t 70),(.t 71)])⟩,⟨(some 2),none,(.mv (.t 72))⟩])
 (.reg
 [⟨(some 73),none,(.mv (.t 12))⟩,⟨(some 1),none,(.mv (.t 73))⟩])))
 .skip))))))))))))
def ts_scan_first : List (Nat × Tr) := []
set_option maxRecDepth 100000 in
set_option maxHeartbeats 4000000 in
theorem ok_scan_first : irOf Try.prog fn_scan_first [] ts_scan_first = some (74,[(.t 6)],ir_scan_first) := by kernel_rfl
def ir_scan_lastCopy : C :=
 (.seq
 (.reg
 [⟨(some 8),none,(.mv (.c (.int .i64 0)))⟩,⟨(some 9),none,(.mv (.c (.int .i64 0)))⟩])
 (.seq
 (.reg
 [⟨(some 14),none,(.mv (.t 0))⟩,⟨(some 15),none,(.mv (.t 1))⟩,⟨(some 16),none,(.mv (.t 2))⟩,⟨(some 17),none,(.mv (.t 3))⟩,⟨(some 18),none,(.call fn_scan_Follow [(.t 14),(.t 15),(.t 16),(.t 17)])⟩,⟨(some 10),none,(.alc 10 ty_scan_Orbit [(.slice none 0 0),(.int .i64 0)])⟩,⟨none,none,(.st 2 (.t 10) (.t 18))⟩])
 (.cut
 (.seq
 (.reg
 [⟨(some 19),none,(.fa 0 (.t 10))⟩,⟨(some 20),none,(.ld .slc (.t 19))⟩,⟨(some 21),none,(.lens (.t 20))⟩,⟨(some 11),none,(.mv (.t 21))⟩])
 (.seq
 (.reg
 [⟨(some 22),none,(.mv (.t 3))⟩,⟨(some 23),none,(.mv (.t 11))⟩,⟨(some 24),none,(.cmp .gtr .i64 (.t 22) (.t 23))⟩])
 (.cond
 (.t 24)
 (.seq
 (.seq
 (.reg
 [⟨(some 25),none,(.mv (.t 3))⟩,⟨(some 26),none,(.ar .sub .i64 (.t 25) (.c (.int .i64 1)))⟩,⟨(some 12),none,(.mv (.t 26))⟩])
 (.blk
 0
 (.loop
 (.seq
 (.seq
 (.reg
 [⟨(some 27),none,(.mv (.t 12))⟩,⟨(some 28),none,(.mv (.t 3))⟩,⟨(some 29),none,(.mv (.t 11))⟩,⟨(some 30),none,(.fa 1 (.t 10))⟩,⟨(some 31),none,(.ld (.int .i64) (.t 30))⟩,⟨(some 32),none,(.ar .sub .i64 (.t 29) (.t 31))⟩,⟨(some 33),none,(.ar .sub .i64 (.t 28) (.t 32))⟩,⟨(some 34),none,(.cmp .geq .i64 (.t 27) (.t 33))⟩])
 (.cond
 (.t 34)
 .skip
 (.exit 0)))
 (.seq
 (.blk
 1
 (.seq
 (.reg
 [⟨(some 37),none,(.mv (.t 0))⟩,⟨(some 38),none,(.mv (.t 1))⟩,⟨(some 39),none,(.lda 2 [.slc,(.int .i64)] (.t 10))⟩,⟨(some 40),none,(.mv (.t 12))⟩,⟨(some 41),none,(.call fn_scan_Orbit_At [(.t 39),(.t 40)])⟩,⟨(some 42),none,(.call fn_scan_Hit [(.t 37),(.t 38),(.t 41)])⟩])
 (.cond
 (.t 42)
 (.seq
 (.reg
 [⟨(some 43),none,(.mv (.t 12))⟩,⟨(some 44),none,(.lda 2 [.slc,(.int .i64)] (.t 10))⟩,⟨(some 45),none,(.mv (.t 12))⟩,⟨(some 46),none,(.call fn_scan_Orbit_At [(.t 44),(.t 45)])⟩,⟨(some 8),none,(.mv (.t 43))⟩,⟨(some 9),none,(.mv (.t 46))⟩])
 .ret)
 .skip)))
 (.reg
 [⟨(some 35),none,(.mv (.t 12))⟩,⟨(some 36),none,(.ar .sub .i64 (.t 35) (.c (.int .i64 1)))⟩,⟨(some 12),none,(.mv (.t 36))⟩]))))))
 (.reg
 [⟨(some 47),none,(.fa 1 (.t 10))⟩,⟨(some 48),none,(.ld (.int .i64) (.t 47))⟩,⟨(some 3),none,(.mv (.t 48))⟩]))
 .skip)))
 (.seq
 (.seq
 (.reg
 [⟨(some 49),none,(.mv (.t 3))⟩,⟨(some 50),none,(.ar .sub .i64 (.t 49) (.c (.int .i64 1)))⟩,⟨(some 13),none,(.mv (.t 50))⟩])
 (.blk
 2
 (.loop
 (.seq
 (.seq
 (.reg
 [⟨(some 51),none,(.mv (.t 13))⟩,⟨(some 52),none,(.cmp .gtr .i64 (.t 51) (.c (.int .i64 0)))⟩])
 (.cond
 (.t 52)
 .skip
 (.exit 2)))
 (.seq
 (.blk
 3
 (.seq
 (.reg
 [⟨(some 55),none,(.mv (.t 0))⟩,⟨(some 56),none,(.mv (.t 1))⟩,⟨(some 57),none,(.fa 0 (.t 10))⟩,⟨(some 58),none,(.ld .slc (.t 57))⟩,⟨(some 59),none,(.mv (.t 13))⟩,⟨(some 60),none,(.ia 1 (.t 58) (.t 59))⟩,⟨(some 61),none,(.ld (.int .i64) (.t 60))⟩,⟨(some 62),none,(.call fn_scan_Hit [(.t 55),(.t 56),(.t 61)])⟩])
 (.cond
 (.t 62)
 (.seq
 (.drw
 [⟨(some 63),none,(.mv (.t 13))⟩,⟨(some 64),none,(.fa 0 (.t 10))⟩,⟨(some 65),none,(.ld .slc (.t 64))⟩,⟨(some 66),none,(.mv (.t 13))⟩,⟨(some 67),none,(.ia 1 (.t 65) (.t 66))⟩,⟨(some 68),none,(.ld (.int .i64) (.t 67))⟩,⟨(some 8),none,(.mv (.t 63))⟩,⟨(some 9),none,(.mv (.t 68))⟩]
 (.mov 0 (.take 1 (.take 2 (.mov 3 (.take 4 (.take 5 (.mov 6 (.mov 7 .done)))))))))
 .ret)
 .skip)))
 (.reg
 [⟨(some 53),none,(.mv (.t 13))⟩,⟨(some 54),none,(.ar .sub .i64 (.t 53) (.c (.int .i64 1)))⟩,⟨(some 13),none,(.mv (.t 54))⟩]))))))
 (.seq
 (.reg
 [⟨(some 69),none,(.mv (.t 2))⟩,⟨(some 8),none,(.mv (.c (.int .i64 0)))⟩,⟨(some 9),none,(.mv (.t 69))⟩])
 .ret)))))
def ts_scan_lastCopy : List (Nat × Tr) := [(14,(.mov 0 (.take 1 (.take 2 (.mov 3 (.take 4 (.take 5 (.mov 6 (.mov 7 .done)))))))))]
set_option maxRecDepth 100000 in
set_option maxHeartbeats 4000000 in
theorem ok_scan_lastCopy : irOf Try.prog fn_scan_lastCopy [1000049] ts_scan_lastCopy = some (70,[(.t 8),(.t 9)],ir_scan_lastCopy) := by kernel_rfl
def ir_scan_last : C :=
 (.seq
 (.reg
 [⟨(some 6),none,(.mv (.c (.int .i64 0)))⟩])
 (.seq
 (.reg
 [⟨(some 7),none,(.mv (.c (.int .i64 0)))⟩])
 (.blk
 0
 (.loop
 (.blk
 1
 (.seq
 (.reg
 [⟨(some 15),none,(.mv (.t 0))⟩,⟨(some 16),none,(.call fn_P_transfer_Table_Store [(.t 15)])⟩,⟨(some 17),none,(.mv (.t 1))⟩,⟨(some 18),none,(.call fn_P_intern_Store_Rule [(.t 16),(.t 17)])⟩,⟨(some 14),none,(.mv (.t 18))⟩,⟨(some 19),none,(.ext (.t 14) 0)⟩,⟨(some 20),none,(.ext (.t 14) 1)⟩,⟨(some 8),none,(.alc 8 ty_api_Rule [(.int .i64 0),(.int .u8 0),(.int .i64 0),(.int .i64 0),(.int .i64 0)])⟩,⟨none,none,(.st 5 (.t 8) (.t 19))⟩,⟨(some 9),none,(.mv (.t 20))⟩])
 (.seq
 (.seq
 (.reg
 [⟨(some 21),none,(.mv (.t 9))⟩,⟨(some 22),none,(.eqn .ifc true (.t 21))⟩,⟨(some 23),none,(.mv (.t 22))⟩,⟨(some 24),(some (23,false)),(.fa 0 (.t 8))⟩,⟨(some 25),(some (23,false)),(.ld (.int .i64) (.t 24))⟩,⟨(some 26),(some (23,false)),(.cmp .eql .i64 (.t 25) (.c (.int .i64 1)))⟩,⟨(some 27),none,(.pick (.t 23) (.c (.bool true)) (.t 26))⟩])
 (.cond
 (.t 27)
 (.seq
 (.reg
 [⟨(some 28),none,(.mv (.t 7))⟩,⟨(some 29),none,(.ar .add .i64 (.t 28) (.c (.int .i64 1)))⟩,⟨(some 6),none,(.mv (.t 29))⟩])
 .ret)
 .skip))
 (.seq
 (.seq
 (.reg
 [⟨(some 30),none,(.fa 0 (.t 8))⟩,⟨(some 31),none,(.ld (.int .i64) (.t 30))⟩,⟨(some 32),none,(.cmp .eql .i64 (.t 31) (.c (.int .i64 3)))⟩])
 (.cond
 (.t 32)
 (.seq
 (.reg
 [⟨(some 10),none,(.mv (.c (.int .i64 0)))⟩])
 (.seq
 (.reg
 [⟨(some 34),none,(.mv (.t 0))⟩,⟨(some 35),none,(.fa 2 (.t 8))⟩,⟨(some 36),none,(.ld (.int .i64) (.t 35))⟩,⟨(some 37),none,(.mv (.t 2))⟩,⟨(some 38),none,(.fa 4 (.t 8))⟩,⟨(some 39),none,(.ld (.int .i64) (.t 38))⟩,⟨(some 40),none,(.call fn_scan_lastCopy [(.t 34),(.t 36),(.t 37),(.t 39)])⟩,⟨(some 33),none,(.mv (.t 40))⟩,⟨(some 41),none,(.ext (.t 33) 0)⟩,⟨(some 42),none,(.ext (.t 33) 1)⟩,⟨(some 10),none,(.mv (.t 41))⟩,⟨(some 2),none,(.mv (.t 42))⟩])
 (.seq
 (.reg
 [⟨(some 43),none,(.mv (.t 7))⟩,⟨(some 44),none,(.mv (.t 10))⟩,⟨(some 45),none,(.mv (.t 0))⟩,⟨(some 46),none,(.fa 2 (.t 8))⟩,⟨(some 47),none,(.ld (.int .i64) (.t 46))⟩,⟨(some 48),none,(.call fn_scan_Size [(.t 45),(.t 47)])⟩,⟨(some 49),none,(.ar .mul .i64 (.t 44) (.t 48))⟩,⟨(some 50),none,(.ar .add .i64 (.t 43) (.t 49))⟩,⟨(some 7),none,(.mv (.t 50))⟩])
 (.seq
 (.reg
 [⟨(some 51),none,(.fa 2 (.t 8))⟩,⟨(some 52),none,(.ld (.int .i64) (.t 51))⟩,⟨(some 1),none,(.mv (.t 52))⟩])
 (.exit 1)))))
 .skip))
 (.seq
 (.reg
 [⟨(some 54),none,(.mv (.t 0))⟩,⟨(some 55),none,(.lda 5 [(.int .i64),(.int .u8),(.int .i64),(.int .i64),(.int .i64)] (.t 8))⟩,⟨(some 56),none,(.call fn_scan_Children [(.t 54),(.t 55)])⟩,⟨(some 53),none,(.mv (.t 56))⟩,⟨(some 57),none,(.ext (.t 53) 0)⟩,⟨(some 58),none,(.ext (.t 53) 1)⟩,⟨(some 11),none,(.mv (.t 57))⟩,⟨(some 12),none,(.mv (.t 58))⟩])
 (.seq
 (.reg
 [⟨(some 59),none,(.mv (.t 0))⟩,⟨(some 60),none,(.mv (.t 11))⟩,⟨(some 61),none,(.mv (.t 2))⟩,⟨(some 62),none,(.call fn_scan_End [(.t 59),(.t 60),(.t 61)])⟩,⟨(some 13),none,(.mv (.t 62))⟩])
 (.seq
 (.reg
 [⟨(some 63),none,(.mv (.t 11))⟩,⟨(some 1),none,(.mv (.t 63))⟩])
 (.seq
 (.reg
 [⟨(some 64),none,(.mv (.t 0))⟩,⟨(some 65),none,(.mv (.t 12))⟩,⟨(some 66),none,(.mv (.t 13))⟩,⟨(some 67),none,(.call fn_scan_Hit [(.t 64),(.t 65),(.t 66)])⟩])
 (.cond
 (.t 67)
 (.seq
 (.reg
 [⟨(some 68),none,(.mv (.t 7))⟩,⟨(some 69),none,(.mv (.t 0))⟩,⟨(some 70),none,(.mv (.t 11))⟩,⟨(some 71),none,(.call fn_scan_Size [(.t 69),(.t 70)])⟩,⟨(some 72),none,(.ar .add .i64 (.t 68) (.t 71))⟩,⟨(some 7),none,(.mv (.t 72))⟩])
 (.seq
 (.reg
 [⟨(some 73),none,(.mv (.t 13))⟩,⟨(some 2),none,(.mv (.t 73))⟩])
 (.reg
 [⟨(some 74),none,(.mv (.t 12))⟩,⟨(some 1),none,(.mv (.t 74))⟩])))
 .skip)))))))))))))
def ts_scan_last : List (Nat × Tr) := []
set_option maxRecDepth 100000 in
set_option maxHeartbeats 4000000 in
theorem ok_scan_last : irOf Try.prog fn_scan_last [] ts_scan_last = some (75,[(.t 6)],ir_scan_last) := by kernel_rfl
def ir_locate_check : C :=
 (.seq
 (.reg
 [⟨(some 4),none,(.mv (.c .nilIface))⟩])
 (.seq
 (.seq
 (.reg
 [⟨(some 5),none,(.mv (.t 0))⟩,⟨(some 6),none,(.eqn .ptr false (.t 5))⟩,⟨(some 7),none,(.mv (.t 6))⟩,⟨(some 8),(some (7,false)),(.mv (.t 0))⟩,⟨(some 9),(some (7,false)),(.call fn_P_transfer_Table_Store [(.t 8)])⟩,⟨(some 10),(some (7,false)),(.eqn .ptr false (.t 9))⟩,⟨(some 11),none,(.pick (.t 7) (.c (.bool true)) (.t 10))⟩])
 (.cond
 (.t 11)
 (.seq
 (.reg
 [⟨(some 12),none,(.mki ty_api_Errno (.c (.int .i64 5)))⟩,⟨(some 4),none,(.mv (.t 12))⟩])
 .ret)
 .skip))
 (.seq
 (.seq
 (.reg
 [⟨(some 13),none,(.mv (.t 0))⟩,⟨(some 14),none,(.call fn_P_transfer_Table_Back [(.t 13)])⟩])
 (.cond
 (.t 14)
 (.seq
 (.reg
 [⟨(some 15),none,(.mki ty_api_Errno (.c (.int .i64 7)))⟩,⟨(some 4),none,(.mv (.t 15))⟩])
 .ret)
 .skip))
 (.seq
 (.seq
 (.reg
 [⟨(some 16),none,(.mv (.t 1))⟩,⟨(some 17),none,(.cmp .lss .i64 (.t 16) (.c (.int .i64 0)))⟩,⟨(some 18),none,(.mv (.t 17))⟩,⟨(some 19),(some (18,false)),(.mv (.t 1))⟩,⟨(some 20),(some (18,false)),(.mv (.t 0))⟩,⟨(some 21),(some (18,false)),(.call fn_P_transfer_Table_Store [(.t 20)])⟩,⟨(some 22),(some (18,false)),(.call fn_P_intern_Store_Len [(.t 21)])⟩,⟨(some 23),(some (18,false)),(.cmp .gtr .i64 (.t 19) (.t 22))⟩,⟨(some 24),none,(.pick (.t 18) (.c (.bool true)) (.t 23))⟩])
 (.cond
 (.t 24)
 (.seq
 (.reg
 [⟨(some 25),none,(.mki ty_api_Errno (.c (.int .i64 1)))⟩,⟨(some 4),none,(.mv (.t 25))⟩])
 .ret)
 .skip))
 (.seq
 (.reg
 [⟨(some 4),none,(.mv (.c .nilIface))⟩])
 .ret)))))
def ts_locate_check : List (Nat × Tr) := []
set_option maxRecDepth 100000 in
set_option maxHeartbeats 4000000 in
theorem ok_locate_check : irOf Try.prog fn_locate_check [] ts_locate_check = some (26,[(.t 4)],ir_locate_check) := by kernel_rfl
def ir_locate_above : C :=
 (.seq
 (.reg
 [⟨(some 8),none,(.mv (.c (.bool false)))⟩])
 (.seq
 (.reg
 [⟨(some 12),none,(.mv (.t 0))⟩,⟨(some 13),none,(.mv (.t 1))⟩,⟨(some 14),none,(.mv (.t 2))⟩,⟨(some 15),none,(.call fn_P_transfer_Table_Hits [(.t 12),(.t 13),(.t 14)])⟩,⟨(some 11),none,(.mv (.t 15))⟩,⟨(some 16),none,(.ext (.t 11) 0)⟩,⟨(some 17),none,(.ext (.t 11) 1)⟩,⟨(some 9),none,(.mv (.t 16))⟩,⟨(some 10),none,(.mv (.t 17))⟩])
 (.seq
 (.reg
 [⟨(some 18),none,(.mv (.t 9))⟩,⟨(some 19),none,(.mv (.t 3))⟩,⟨(some 20),none,(.cmp .gtr .i64 (.t 18) (.t 19))⟩,⟨(some 21),none,(.mv (.t 20))⟩,⟨(some 22),(some (21,false)),(.mv (.t 10))⟩,⟨(some 23),(some (21,false)),(.mki ty_api_Errno (.c (.int .i64 2)))⟩,⟨(some 24),(some (21,false)),(.call fn_errors_Is [(.t 22),(.t 23)])⟩,⟨(some 25),none,(.pick (.t 21) (.c (.bool true)) (.t 24))⟩,⟨(some 8),none,(.mv (.t 25))⟩])
 .ret)))
def ts_locate_above : List (Nat × Tr) := []
set_option maxRecDepth 100000 in
set_option maxHeartbeats 4000000 in
theorem ok_locate_above : irOf Try.prog fn_locate_above [] ts_locate_above = some (26,[(.t 8)],ir_locate_above) := by kernel_rfl
def ir_locate_nth : C :=
 (.seq
 (.reg
 [⟨(some 8),none,(.mv (.c (.int .i64 0)))⟩])
 (.seq
 (.reg
 [⟨(some 9),none,(.mv (.c (.int .i64 0)))⟩])
 (.blk
 0
 (.loop
 (.blk
 1
 (.seq
 (.reg
 [⟨(some 16),none,(.mv (.t 0))⟩,⟨(some 17),none,(.call fn_P_transfer_Table_Store [(.t 16)])⟩,⟨(some 18),none,(.mv (.t 1))⟩,⟨(some 19),none,(.call fn_P_intern_Store_Rule [(.t 17),(.t 18)])⟩,⟨(some 15),none,(.mv (.t 19))⟩,⟨(some 20),none,(.ext (.t 15) 0)⟩,⟨(some 21),none,(.ext (.t 15) 1)⟩,⟨(some 10),none,(.alc 10 ty_api_Rule [(.int .i64 0),(.int .u8 0),(.int .i64 0),(.int .i64 0),(.int .i64 0)])⟩,⟨none,none,(.st 5 (.t 10) (.t 20))⟩,⟨(some 11),none,(.mv (.t 21))⟩])
 (.seq
 (.seq
 (.reg
 [⟨(some 22),none,(.mv (.t 11))⟩,⟨(some 23),none,(.eqn .ifc true (.t 22))⟩,⟨(some 24),none,(.mv (.t 23))⟩,⟨(some 25),(some (24,false)),(.fa 0 (.t 10))⟩,⟨(some 26),(some (24,false)),(.ld (.int .i64) (.t 25))⟩,⟨(some 27),(some (24,false)),(.cmp .eql .i64 (.t 26) (.c (.int .i64 1)))⟩,⟨(some 28),none,(.pick (.t 24) (.c (.bool true)) (.t 27))⟩])
 (.cond
 (.t 28)
 (.seq
 (.reg
 [⟨(some 29),none,(.mv (.t 9))⟩,⟨(some 30),none,(.ar .add .i64 (.t 29) (.c (.int .i64 1)))⟩,⟨(some 8),none,(.mv (.t 30))⟩])
 .ret)
 .skip))
 (.seq
 (.seq
 (.reg
 [⟨(some 31),none,(.fa 0 (.t 10))⟩,⟨(some 32),none,(.ld (.int .i64) (.t 31))⟩,⟨(some 33),none,(.cmp .eql .i64 (.t 32) (.c (.int .i64 3)))⟩])
 (.cond
 (.t 33)
 (.seq
 (.reg
 [⟨(some 12),none,(.mv (.c (.int .i64 0)))⟩])
 (.seq
 (.reg
 [⟨(some 35),none,(.mv (.t 0))⟩,⟨(some 36),none,(.lda 5 [(.int .i64),(.int .u8),(.int .i64),(.int .i64),(.int .i64)] (.t 10))⟩,⟨(some 37),none,(.mv (.t 2))⟩,⟨(some 38),none,(.mv (.t 3))⟩,⟨(some 39),none,(.call fn_locate_nthCopy [(.t 35),(.t 36),(.t 37),(.t 38)])⟩,⟨(some 34),none,(.mv (.t 39))⟩,⟨(some 40),none,(.ext (.t 34) 0)⟩,⟨(some 41),none,(.ext (.t 34) 1)⟩,⟨(some 42),none,(.ext (.t 34) 2)⟩,⟨(some 12),none,(.mv (.t 40))⟩,⟨(some 2),none,(.mv (.t 41))⟩,⟨(some 3),none,(.mv (.t 42))⟩])
 (.seq
 (.reg
 [⟨(some 43),none,(.mv (.t 9))⟩,⟨(some 44),none,(.mv (.t 12))⟩,⟨(some 45),none,(.mv (.t 0))⟩,⟨(some 46),none,(.fa 2 (.t 10))⟩,⟨(some 47),none,(.ld (.int .i64) (.t 46))⟩,⟨(some 48),none,(.call fn_scan_Size [(.t 45),(.t 47)])⟩,⟨(some 49),none,(.ar .mul .i64 (.t 44) (.t 48))⟩,⟨(some 50),none,(.ar .add .i64 (.t 43) (.t 49))⟩,⟨(some 9),none,(.mv (.t 50))⟩])
 (.seq
 (.reg
 [⟨(some 51),none,(.fa 2 (.t 10))⟩,⟨(some 52),none,(.ld (.int .i64) (.t 51))⟩,⟨(some 1),none,(.mv (.t 52))⟩])
 (.exit 1)))))
 .skip))
 (.seq
 (.seq
 (.reg
 [⟨(some 53),none,(.mv (.t 0))⟩,⟨(some 54),none,(.fa 2 (.t 10))⟩,⟨(some 55),none,(.ld (.int .i64) (.t 54))⟩,⟨(some 56),none,(.mv (.t 2))⟩,⟨(some 57),none,(.mv (.t 3))⟩,⟨(some 58),none,(.call fn_locate_above [(.t 53),(.t 55),(.t 56),(.t 57)])⟩])
 (.cond
 (.t 58)
 (.seq
 (.reg
 [⟨(some 59),none,(.fa 2 (.t 10))⟩,⟨(some 60),none,(.ld (.int .i64) (.t 59))⟩,⟨(some 1),none,(.mv (.t 60))⟩])
 (.exit 1))
 .skip))
 (.seq
 (.reg
 [⟨(some 62),none,(.mv (.t 0))⟩,⟨(some 63),none,(.fa 2 (.t 10))⟩,⟨(some 64),none,(.ld (.int .i64) (.t 63))⟩,⟨(some 65),none,(.mv (.t 2))⟩,⟨(some 66),none,(.call fn_P_transfer_Table_Hits [(.t 62),(.t 64),(.t 65)])⟩,⟨(some 61),none,(.mv (.t 66))⟩,⟨(some 67),none,(.ext (.t 61) 0)⟩,⟨(some 68),none,(.ext (.t 61) 1)⟩,⟨(some 13),none,(.mv (.t 67))⟩,⟨(some 14),none,(.mv (.t 68))⟩])
 (.seq
 (.reg
 [⟨(some 69),none,(.mv (.t 3))⟩,⟨(some 70),none,(.mv (.t 13))⟩,⟨(some 71),none,(.ar .sub .i64 (.t 69) (.t 70))⟩,⟨(some 3),none,(.mv (.t 71))⟩])
 (.seq
 (.reg
 [⟨(some 72),none,(.mv (.t 9))⟩,⟨(some 73),none,(.mv (.t 0))⟩,⟨(some 74),none,(.fa 2 (.t 10))⟩,⟨(some 75),none,(.ld (.int .i64) (.t 74))⟩,⟨(some 76),none,(.call fn_scan_Size [(.t 73),(.t 75)])⟩,⟨(some 77),none,(.ar .add .i64 (.t 72) (.t 76))⟩,⟨(some 9),none,(.mv (.t 77))⟩])
 (.seq
 (.reg
 [⟨(some 78),none,(.mv (.t 0))⟩,⟨(some 79),none,(.fa 2 (.t 10))⟩,⟨(some 80),none,(.ld (.int .i64) (.t 79))⟩,⟨(some 81),none,(.mv (.t 2))⟩,⟨(some 82),none,(.call fn_scan_End [(.t 78),(.t 80),(.t 81)])⟩,⟨(some 2),none,(.mv (.t 82))⟩])
 (.reg
 [⟨(some 83),none,(.fa 3 (.t 10))⟩,⟨(some 84),none,(.ld (.int .i64) (.t 83))⟩,⟨(some 1),none,(.mv (.t 84))⟩]))))))))))))))
def ts_locate_nth : List (Nat × Tr) := []
set_option maxRecDepth 100000 in
set_option maxHeartbeats 4000000 in
theorem ok_locate_nth : irOf Try.prog fn_locate_nth [] ts_locate_nth = some (85,[(.t 8)],ir_locate_nth) := by kernel_rfl
def ir_locate_nthCopy : C :=
 (.seq
 (.reg
 [⟨(some 5),none,(.box 5 ty_api_Rule (.t 1))⟩,⟨(some 8),none,(.mv (.c (.int .i64 0)))⟩,⟨(some 9),none,(.mv (.c (.int .i64 0)))⟩,⟨(some 10),none,(.mv (.c (.int .i64 0)))⟩])
 (.seq
 (.reg
 [⟨(some 11),none,(.alc 11 ty_256_int16 [(.int .i16 0),(.int .i16 0),(.int .i16 0),(.int .i16 0),(.int .i16 0),(.int .i16 0),(.int .i16 0),(.int .i16 0),(.int .i16 0),(.int .i16 0),(.int .i16 0),(.int .i16 0),(.int .i16 0),(.int .i16 0),(.int .i16 0),(.int .i16 0),(.int .i16 0),(.int .i16 0),(.int .i16 0),(.int .i16 0),(.int .i16 0),(.int .i16 0),(.int .i16 0),(.int .i16 0),(.int .i16 0),(.int .i16 0),(.int .i16 0),(.int .i16 0),(.int .i16 0),(.int .i16 0),(.int .i16 0),(.int .i16 0),(.int .i16 0),(.int .i16 0),(.int .i16 0),(.int .i16 0),(.int .i16 0),(.int .i16 0),(.int .i16 0),(.int .i16 0),(.int .i16 0),(.int .i16 0),(.int .i16 0),(.int .i16 0),(.int .i16 0),(.int .i16 0),(.int .i16 0),(.int .i16 0),(.int .i16 0),(.int .i16 0),(.int .i16 0),(.int .i16 0),(.int .i16 0),(.int .i16 0),(.int .i16 0),(.int .i16 0),(.int .i16 0),(.int .i16 0),(.int .i16 0),(.int .i16 0),(.int .i16 0),(.int .i16 0),(.int .i16 0),(.int .i16 0),(.int .i16 0),(.int .i16 0),(.int .i16 0),(.int .i16 0),(.int .i16 0),(.int .i16 0),(.int .i16 0),(.int .i16 0),(.int .i16 0),(.int .i16 0),(.int .i16 0),(.int .i16 0),(.int .i16 0),(.int .i16 0),(.int .i16 0),(.int .i16 0),(.int .i16 0),(.int .i16 0),(.int .i16 0),(.int .i16 0),(.int .i16 0),(.int .i16 0),(.int .i16 0),(.int .i16 0),(.int .i16 0),(.int .i16 0),(.int .i16 0),(.int .i16 0),(.int .i16 0),(.int .i16 0),(.int .i16 0),(.int .i16 0),(.int .i16 0),(.int .i16 0),(.int .i16 0),(.int .i16 0),(.int .i16 0),(.int .i16 0),(.int .i16 0),(.int .i16 0),(.int .i16 0),(.int .i16 0),(.int .i16 0),(.int .i16 0),(.int .i16 0),(.int .i16 0),(.int .i16 0),(.int .i16 0),(.int .i16 0),(.int .i16 0),(.int .i16 0),(.int .i16 0),(.int .i16 0),(.int .i16 0),(.int .i16 0),(.int .i16 0),(.int .i16 0),(.int .i16 0),(.int .i16 0),(.int .i16 0),(.int .i16 0),(.int .i16 0),(.int .i16 0),(.int .i16 0),(.int .i16 0),(.int .i16 0),(.int .i16 0),(.int .i16 0),(.int .i16 0),(.int .i16 0),(.int .i16 0),(.int .i16 0),(.int .i16 0),(.int .i16 0),(.int .i16 0),(.int .i16 0),(.int .i16 0),(.int .i16 0),(.int .i16 0),(.int .i16 0),(.int .i16 0),(.int .i16 0),(.int .i16 0),(.int .i16 0),(.int .i16 0),(.int .i16 0),(.int .i16 0),(.int .i16 0),(.int .i16 0),(.int .i16 0),(.int .i16 0),(.int .i16 0),(.int .i16 0),(.int .i16 0),(.int .i16 0),(.int .i16 0),(.int .i16 0),(.int .i16 0),(.int .i16 0),(.int .i16 0),(.int .i16 0),(.int .i16 0),(.int .i16 0),(.int .i16 0),(.int .i16 0),(.int .i16 0),(.int .i16 0),(.int .i16 0),(.int .i16 0),(.int .i16 0),(.int .i16 0),(.int .i16 0),(.int .i16 0),(.int .i16 0),(.int .i16 0),(.int .i16 0),(.int .i16 0),(.int .i16 0),(.int .i16 0),(.int .i16 0),(.int .i16 0),(.int .i16 0),(.int .i16 0),(.int .i16 0),(.int .i16 0),(.int .i16 0),(.int .i16 0),(.int .i16 0),(.int .i16 0),(.int .i16 0),(.int .i16 0),(.int .i16 0),(.int .i16 0),(.int .i16 0),(.int .i16 0),(.int .i16 0),(.int .i16 0),(.int .i16 0),(.int .i16 0),(.int .i16 0),(.int .i16 0),(.int .i16 0),(.int .i16 0),(.int .i16 0),(.int .i16 0),(.int .i16 0),(.int .i16 0),(.int .i16 0),(.int .i16 0),(.int .i16 0),(.int .i16 0),(.int .i16 0),(.int .i16 0),(.int .i16 0),(.int .i16 0),(.int .i16 0),(.int .i16 0),(.int .i16 0),(.int .i16 0),(.int .i16 0),(.int .i16 0),(.int .i16 0),(.int .i16 0),(.int .i16 0),(.int .i16 0),(.int .i16 0),(.int .i16 0),(.int .i16 0),(.int .i16 0),(.int .i16 0),(.int .i16 0),(.int .i16 0),(.int .i16 0),(.int .i16 0),(.int .i16 0),(.int .i16 0),(.int .i16 0),(.int .i16 0),(.int .i16 0),(.int .i16 0),(.int .i16 0),(.int .i16 0),(.int .i16 0),(.int .i16 0),(.int .i16 0),(.int .i16 0),(.int .i16 0),(.int .i16 0),(.int .i16 0),(.int .i16 0),(.int .i16 0),(.int .i16 0)])⟩])
 (.seq
 (.reg
 [⟨(some 12),none,(.alc 12 ty_257_int [(.int .i64 0),(.int .i64 0),(.int .i64 0),(.int .i64 0),(.int .i64 0),(.int .i64 0),(.int .i64 0),(.int .i64 0),(.int .i64 0),(.int .i64 0),(.int .i64 0),(.int .i64 0),(.int .i64 0),(.int .i64 0),(.int .i64 0),(.int .i64 0),(.int .i64 0),(.int .i64 0),(.int .i64 0),(.int .i64 0),(.int .i64 0),(.int .i64 0),(.int .i64 0),(.int .i64 0),(.int .i64 0),(.int .i64 0),(.int .i64 0),(.int .i64 0),(.int .i64 0),(.int .i64 0),(.int .i64 0),(.int .i64 0),(.int .i64 0),(.int .i64 0),(.int .i64 0),(.int .i64 0),(.int .i64 0),(.int .i64 0),(.int .i64 0),(.int .i64 0),(.int .i64 0),(.int .i64 0),(.int .i64 0),(.int .i64 0),(.int .i64 0),(.int .i64 0),(.int .i64 0),(.int .i64 0),(.int .i64 0),(.int .i64 0),(.int .i64 0),(.int .i64 0),(.int .i64 0),(.int .i64 0),(.int .i64 0),(.int .i64 0),(.int .i64 0),(.int .i64 0),(.int .i64 0),(.int .i64 0),(.int .i64 0),(.int .i64 0),(.int .i64 0),(.int .i64 0),(.int .i64 0),(.int .i64 0),(.int .i64 0),(.int .i64 0),(.int .i64 0),(.int .i64 0),(.int .i64 0),(.int .i64 0),(.int .i64 0),(.int .i64 0),(.int .i64 0),(.int .i64 0),(.int .i64 0),(.int .i64 0),(.int .i64 0),(.int .i64 0),(.int .i64 0),(.int .i64 0),(.int .i64 0),(.int .i64 0),(.int .i64 0),(.int .i64 0),(.int .i64 0),(.int .i64 0),(.int .i64 0),(.int .i64 0),(.int .i64 0),(.int .i64 0),(.int .i64 0),(.int .i64 0),(.int .i64 0),(.int .i64 0),(.int .i64 0),(.int .i64 0),(.int .i64 0),(.int .i64 0),(.int .i64 0),(.int .i64 0),(.int .i64 0),(.int .i64 0),(.int .i64 0),(.int .i64 0),(.int .i64 0),(.int .i64 0),(.int .i64 0),(.int .i64 0),(.int .i64 0),(.int .i64 0),(.int .i64 0),(.int .i64 0),(.int .i64 0),(.int .i64 0),(.int .i64 0),(.int .i64 0),(.int .i64 0),(.int .i64 0),(.int .i64 0),(.int .i64 0),(.int .i64 0),(.int .i64 0),(.int .i64 0),(.int .i64 0),(.int .i64 0),(.int .i64 0),(.int .i64 0),(.int .i64 0),(.int .i64 0),(.int .i64 0),(.int .i64 0),(.int .i64 0),(.int .i64 0),(.int .i64 0),(.int .i64 0),(.int .i64 0),(.int .i64 0),(.int .i64 0),(.int .i64 0),(.int .i64 0),(.int .i64 0),(.int .i64 0),(.int .i64 0),(.int .i64 0),(.int .i64 0),(.int .i64 0),(.int .i64 0),(.int .i64 0),(.int .i64 0),(.int .i64 0),(.int .i64 0),(.int .i64 0),(.int .i64 0),(.int .i64 0),(.int .i64 0),(.int .i64 0),(.int .i64 0),(.int .i64 0),(.int .i64 0),(.int .i64 0),(.int .i64 0),(.int .i64 0),(.int .i64 0),(.int .i64 0),(.int .i64 0),(.int .i64 0),(.int .i64 0),(.int .i64 0),(.int .i64 0),(.int .i64 0),(.int .i64 0),(.int .i64 0),(.int .i64 0),(.int .i64 0),(.int .i64 0),(.int .i64 0),(.int .i64 0),(.int .i64 0),(.int .i64 0),(.int .i64 0),(.int .i64 0),(.int .i64 0),(.int .i64 0),(.int .i64 0),(.int .i64 0),(.int .i64 0),(.int .i64 0),(.int .i64 0),(.int .i64 0),(.int .i64 0),(.int .i64 0),(.int .i64 0),(.int .i64 0),(.int .i64 0),(.int .i64 0),(.int .i64 0),(.int .i64 0),(.int .i64 0),(.int .i64 0),(.int .i64 0),(.int .i64 0),(.int .i64 0),(.int .i64 0),(.int .i64 0),(.int .i64 0),(.int .i64 0),(.int .i64 0),(.int .i64 0),(.int .i64 0),(.int .i64 0),(.int .i64 0),(.int .i64 0),(.int .i64 0),(.int .i64 0),(.int .i64 0),(.int .i64 0),(.int .i64 0),(.int .i64 0),(.int .i64 0),(.int .i64 0),(.int .i64 0),(.int .i64 0),(.int .i64 0),(.int .i64 0),(.int .i64 0),(.int .i64 0),(.int .i64 0),(.int .i64 0),(.int .i64 0),(.int .i64 0),(.int .i64 0),(.int .i64 0),(.int .i64 0),(.int .i64 0),(.int .i64 0),(.int .i64 0),(.int .i64 0),(.int .i64 0),(.int .i64 0),(.int .i64 0),(.int .i64 0),(.int .i64 0),(.int .i64 0),(.int .i64 0),(.int .i64 0),(.int .i64 0),(.int .i64 0),(.int .i64 0),(.int .i64 0),(.int .i64 0),(.int .i64 0),(.int .i64 0),(.int .i64 0),(.int .i64 0),(.int .i64 0)])⟩])
 (.seq
 (.seq
 (.reg
 [⟨(some 13),none,(.mv (.c (.int .i64 0)))⟩])
 (.blk
 0
 (.loop
 (.seq
 (.seq
 (.reg
 [⟨(some 21),none,(.mv (.t 13))⟩,⟨(some 22),none,(.fa 4 (.t 5))⟩,⟨(some 23),none,(.ld (.int .i64) (.t 22))⟩,⟨(some 24),none,(.cmp .lss .i64 (.t 21) (.t 23))⟩])
 (.cond
 (.t 24)
 .skip
 (.exit 0)))
 (.seq
 (.blk
 1
 (.seq
 (.seq
 (.reg
 [⟨(some 27),none,(.mv (.t 0))⟩,⟨(some 28),none,(.fa 2 (.t 5))⟩,⟨(some 29),none,(.ld (.int .i64) (.t 28))⟩,⟨(some 30),none,(.mv (.t 2))⟩,⟨(some 31),none,(.mv (.t 3))⟩,⟨(some 32),none,(.call fn_locate_above [(.t 27),(.t 29),(.t 30),(.t 31)])⟩])
 (.cond
 (.t 32)
 (.seq
 (.reg
 [⟨(some 33),none,(.mv (.t 13))⟩,⟨(some 34),none,(.mv (.t 2))⟩,⟨(some 35),none,(.mv (.t 3))⟩,⟨(some 8),none,(.mv (.t 33))⟩,⟨(some 9),none,(.mv (.t 34))⟩,⟨(some 10),none,(.mv (.t 35))⟩])
 .ret)
 .skip))
 (.seq
 (.seq
 (.reg
 [⟨(some 36),none,(.mv (.t 2))⟩,⟨(some 37),none,(.iaa 1 256 (.t 11) (.t 36))⟩,⟨(some 38),none,(.ld (.int .i16) (.t 37))⟩,⟨(some 39),none,(.cv .i64 (.t 38))⟩,⟨(some 40),none,(.ar .sub .i64 (.t 39) (.c (.int .i64 1)))⟩,⟨(some 14),none,(.mv (.t 40))⟩])
 (.seq
 (.reg
 [⟨(some 41),none,(.mv (.t 14))⟩,⟨(some 42),none,(.cmp .geq .i64 (.t 41) (.c (.int .i64 0)))⟩])
 (.cond
 (.t 42)
 (.seq
 (.drw
 [⟨(some 43),none,(.mv (.t 13))⟩,⟨(some 44),none,(.mv (.t 14))⟩,⟨(some 45),none,(.ar .sub .i64 (.t 43) (.t 44))⟩,⟨(some 46),none,(.mv (.t 13))⟩,⟨(some 47),none,(.iaa 1 257 (.t 12) (.t 46))⟩,⟨(some 48),none,(.ld (.int .i64) (.t 47))⟩,⟨(some 49),none,(.mv (.t 14))⟩,⟨(some 50),none,(.iaa 1 257 (.t 12) (.t 49))⟩,⟨(some 51),none,(.ld (.int .i64) (.t 50))⟩,⟨(some 52),none,(.ar .sub .i64 (.t 48) (.t 51))⟩,⟨(some 15),none,(.mv (.t 45))⟩,⟨(some 16),none,(.mv (.t 52))⟩]
 (.mov 0 (.mov 1 (.take 2 (.mov 3 (.take 4 (.take 5 (.mov 6 (.take 7 (.take 8 (.take 9 (.mov 10 (.mov 11 .done)))))))))))))
 (.seq
 (.seq
 (.reg
 [⟨(some 53),none,(.mv (.t 16))⟩,⟨(some 54),none,(.cmp .eql .i64 (.t 53) (.c (.int .i64 0)))⟩])
 (.cond
 (.t 54)
 (.seq
 (.reg
 [⟨(some 55),none,(.mv (.t 2))⟩,⟨(some 8),none,(.mv (.c (.int .i64 0)))⟩,⟨(some 9),none,(.mv (.t 55))⟩,⟨(some 10),none,(.mv (.c (.int .i64 0)))⟩])
 .ret)
 .skip))
 (.seq
 (.reg
 [⟨(some 56),none,(.mv (.t 13))⟩,⟨(some 57),none,(.mv (.t 3))⟩,⟨(some 58),none,(.mv (.t 16))⟩,⟨(some 59),none,(.dv false .i64 (.t 57) (.t 58))⟩,⟨(some 60),none,(.mv (.t 15))⟩,⟨(some 61),none,(.ar .mul .i64 (.t 59) (.t 60))⟩,⟨(some 62),none,(.ar .add .i64 (.t 56) (.t 61))⟩,⟨(some 13),none,(.mv (.t 62))⟩])
 (.seq
 (.reg
 [⟨(some 63),none,(.mv (.t 3))⟩,⟨(some 64),none,(.mv (.t 16))⟩,⟨(some 65),none,(.dv true .i64 (.t 63) (.t 64))⟩,⟨(some 3),none,(.mv (.t 65))⟩])
 (.seq
 (.blk
 2
 (.loop
 (.seq
 (.seq
 (.reg
 [⟨(some 66),none,(.mv (.t 0))⟩,⟨(some 67),none,(.fa 2 (.t 5))⟩,⟨(some 68),none,(.ld (.int .i64) (.t 67))⟩,⟨(some 69),none,(.mv (.t 2))⟩,⟨(some 70),none,(.mv (.t 3))⟩,⟨(some 71),none,(.call fn_locate_above [(.t 66),(.t 68),(.t 69),(.t 70)])⟩,⟨(some 72),none,(.not (.t 71))⟩])
 (.cond
 (.t 72)
 .skip
 (.exit 2)))
 (.blk
 3
 (.seq
 (.reg
 [⟨(some 74),none,(.mv (.t 0))⟩,⟨(some 75),none,(.fa 2 (.t 5))⟩,⟨(some 76),none,(.ld (.int .i64) (.t 75))⟩,⟨(some 77),none,(.mv (.t 2))⟩,⟨(some 78),none,(.call fn_P_transfer_Table_Hits [(.t 74),(.t 76),(.t 77)])⟩,⟨(some 73),none,(.mv (.t 78))⟩,⟨(some 79),none,(.ext (.t 73) 0)⟩,⟨(some 80),none,(.ext (.t 73) 1)⟩,⟨(some 17),none,(.mv (.t 79))⟩,⟨(some 18),none,(.mv (.t 80))⟩])
 (.seq
 (.reg
 [⟨(some 81),none,(.mv (.t 3))⟩,⟨(some 82),none,(.mv (.t 17))⟩,⟨(some 83),none,(.ar .sub .i64 (.t 81) (.t 82))⟩,⟨(some 3),none,(.mv (.t 83))⟩])
 (.seq
 (.reg
 [⟨(some 84),none,(.mv (.t 0))⟩,⟨(some 85),none,(.fa 2 (.t 5))⟩,⟨(some 86),none,(.ld (.int .i64) (.t 85))⟩,⟨(some 87),none,(.mv (.t 2))⟩,⟨(some 88),none,(.call fn_scan_End [(.t 84),(.t 86),(.t 87)])⟩,⟨(some 2),none,(.mv (.t 88))⟩])
 (.reg
 [⟨(some 89),none,(.mv (.t 13))⟩,⟨(some 90),none,(.ar .add .i64 (.t 89) (.c (.int .i64 1)))⟩,⟨(some 13),none,(.mv (.t 90))⟩]))))))))
 (.seq
 (.reg
 [⟨(some 91),none,(.mv (.t 13))⟩,⟨(some 92),none,(.mv (.t 2))⟩,⟨(some 93),none,(.mv (.t 3))⟩,⟨(some 8),none,(.mv (.t 91))⟩,⟨(some 9),none,(.mv (.t 92))⟩,⟨(some 10),none,(.mv (.t 93))⟩])
 .ret))))))
 .skip)))
 (.seq
 (.reg
 [⟨(some 95),none,(.mv (.t 0))⟩,⟨(some 96),none,(.fa 2 (.t 5))⟩,⟨(some 97),none,(.ld (.int .i64) (.t 96))⟩,⟨(some 98),none,(.mv (.t 2))⟩,⟨(some 99),none,(.call fn_P_transfer_Table_Hits [(.t 95),(.t 97),(.t 98)])⟩,⟨(some 94),none,(.mv (.t 99))⟩,⟨(some 100),none,(.ext (.t 94) 0)⟩,⟨(some 101),none,(.ext (.t 94) 1)⟩,⟨(some 19),none,(.mv (.t 100))⟩,⟨(some 20),none,(.mv (.t 101))⟩])
 (.seq
 (.reg
 [⟨(some 102),none,(.mv (.t 3))⟩,⟨(some 103),none,(.mv (.t 19))⟩,⟨(some 104),none,(.ar .sub .i64 (.t 102) (.t 103))⟩,⟨(some 3),none,(.mv (.t 104))⟩])
 (.seq
 (.reg
 [⟨(some 105),none,(.mv (.t 2))⟩,⟨(some 106),none,(.mv (.t 13))⟩,⟨(some 107),none,(.ar .add .i64 (.t 106) (.c (.int .i64 1)))⟩,⟨(some 108),none,(.cv .i16 (.t 107))⟩,⟨(some 109),none,(.iaa 1 256 (.t 11) (.t 105))⟩,⟨none,none,(.st 1 (.t 109) (.t 108))⟩])
 (.seq
 (.reg
 [⟨(some 110),none,(.mv (.t 13))⟩,⟨(some 111),none,(.ar .add .i64 (.t 110) (.c (.int .i64 1)))⟩,⟨(some 112),none,(.mv (.t 13))⟩,⟨(some 113),none,(.iaa 1 257 (.t 12) (.t 112))⟩,⟨(some 114),none,(.ld (.int .i64) (.t 113))⟩,⟨(some 115),none,(.mv (.t 19))⟩,⟨(some 116),none,(.ar .add .i64 (.t 114) (.t 115))⟩,⟨(some 117),none,(.iaa 1 257 (.t 12) (.t 111))⟩,⟨none,none,(.st 1 (.t 117) (.t 116))⟩])
 (.reg
 [⟨(some 118),none,(.mv (.t 0))⟩,⟨(some 119),none,(.fa 2 (.t 5))⟩,⟨(some 120),none,(.ld (.int .i64) (.t 119))⟩,⟨(some 121),none,(.mv (.t 2))⟩,⟨(some 122),none,(.call fn_scan_End [(.t 118),(.t 120),(.t 121)])⟩,⟨(some 2),none,(.mv (.t 122))⟩]))))))))
 (.reg
 [⟨(some 25),none,(.mv (.t 13))⟩,⟨(some 26),none,(.ar .add .i64 (.t 25) (.c (.int .i64 1)))⟩,⟨(some 13),none,(.mv (.t 26))⟩]))))))
 (.seq
 (.reg
 [⟨(some 123),none,(.mv (.t 2))⟩,⟨(some 8),none,(.mv (.c (.int .i64 0)))⟩,⟨(some 9),none,(.mv (.t 123))⟩,⟨(some 10),none,(.mv (.c (.int .i64 0)))⟩])
 .ret)))))
def ts_locate_nthCopy : List (Nat × Tr) := [(10,(.mov 0 (.mov 1 (.take 2 (.mov 3 (.take 4 (.take 5 (.mov 6 (.take 7 (.take 8 (.take 9 (.mov 10 (.mov 11 .done)))))))))))))]
set_option maxRecDepth 100000 in
set_option maxHeartbeats 4000000 in
theorem ok_locate_nthCopy : irOf Try.prog fn_locate_nthCopy [] ts_locate_nthCopy = some (124,[(.t 8),(.t 9),(.t 10)],ir_locate_nthCopy) := by kernel_rfl
def ir_locate_Count : C :=
 (.seq
 (.reg
 [⟨(some 8),none,(.mv (.c (.int .i64 0)))⟩,⟨(some 9),none,(.mv (.c .nilIface))⟩])
 (.seq
 (.seq
 (.reg
 [⟨(some 16),none,(.mv (.t 0))⟩,⟨(some 17),none,(.mv (.t 1))⟩,⟨(some 18),none,(.call fn_locate_check [(.t 16),(.t 17)])⟩,⟨(some 10),none,(.mv (.t 18))⟩])
 (.seq
 (.reg
 [⟨(some 19),none,(.mv (.t 10))⟩,⟨(some 20),none,(.eqn .ifc true (.t 19))⟩])
 (.cond
 (.t 20)
 (.seq
 (.reg
 [⟨(some 21),none,(.mv (.t 10))⟩,⟨(some 8),none,(.mv (.c (.int .i64 0)))⟩,⟨(some 9),none,(.mv (.t 21))⟩])
 .ret)
 .skip)))
 (.seq
 (.seq
 (.reg
 [⟨(some 22),none,(.mv (.t 2))⟩,⟨(some 23),none,(.mv (.t 3))⟩,⟨(some 24),none,(.mv (.t 0))⟩,⟨(some 25),none,(.mv (.t 1))⟩,⟨(some 26),none,(.call fn_scan_Size [(.t 24),(.t 25)])⟩,⟨(some 27),none,(.call fn_length_Range [(.t 22),(.t 23),(.t 26)])⟩,⟨(some 11),none,(.mv (.t 27))⟩])
 (.seq
 (.reg
 [⟨(some 28),none,(.mv (.t 11))⟩,⟨(some 29),none,(.eqn .ifc true (.t 28))⟩])
 (.cond
 (.t 29)
 (.seq
 (.reg
 [⟨(some 30),none,(.mv (.t 11))⟩,⟨(some 8),none,(.mv (.c (.int .i64 0)))⟩,⟨(some 9),none,(.mv (.t 30))⟩])
 .ret)
 .skip)))
 (.seq
 (.reg
 [⟨(some 31),none,(.mv (.t 0))⟩,⟨(some 32),none,(.mv (.t 0))⟩,⟨(some 33),none,(.mv (.t 1))⟩,⟨(some 34),none,(.mv (.t 2))⟩,⟨(some 35),none,(.call fn_scan_Parts [(.t 32),(.t 33),(.c (.int .i64 0)),(.t 34)])⟩,⟨(some 36),none,(.mv (.t 0))⟩,⟨(some 37),none,(.call fn_P_transfer_Table_Machine [(.t 36)])⟩,⟨(some 38),none,(.fld 0 (.int .i64) (.t 37))⟩,⟨(some 39),none,(.call fn_scan_Through [(.t 31),(.t 35),(.t 38)])⟩,⟨(some 12),none,(.mv (.t 39))⟩])
 (.seq
 (.reg
 [⟨(some 41),none,(.mv (.t 0))⟩,⟨(some 42),none,(.mv (.t 1))⟩,⟨(some 43),none,(.mv (.t 2))⟩,⟨(some 44),none,(.mv (.t 3))⟩,⟨(some 45),none,(.mv (.t 12))⟩,⟨(some 46),none,(.call fn_P_transfer_Table_Part [(.t 41),(.t 42),(.t 43),(.t 44),(.t 45)])⟩,⟨(some 40),none,(.mv (.t 46))⟩,⟨(some 47),none,(.ext (.t 40) 0)⟩,⟨(some 48),none,(.ext (.t 40) 1)⟩,⟨(some 49),none,(.ext (.t 40) 2)⟩,⟨(some 13),none,(.mv (.t 47))⟩,⟨(some 14),none,(.mv (.t 48))⟩,⟨(some 15),none,(.mv (.t 49))⟩])
 (.seq
 (.seq
 (.reg
 [⟨(some 50),none,(.mv (.t 15))⟩,⟨(some 51),none,(.eqn .ifc true (.t 50))⟩])
 (.cond
 (.t 51)
 (.seq
 (.reg
 [⟨(some 52),none,(.mv (.t 15))⟩,⟨(some 8),none,(.mv (.c (.int .i64 0)))⟩,⟨(some 9),none,(.mv (.t 52))⟩])
 .ret)
 .skip))
 (.seq
 (.reg
 [⟨(some 53),none,(.mv (.t 14))⟩,⟨(some 8),none,(.mv (.t 53))⟩,⟨(some 9),none,(.mv (.c .nilIface))⟩])
 .ret)))))))
def ts_locate_Count : List (Nat × Tr) := []
set_option maxRecDepth 100000 in
set_option maxHeartbeats 4000000 in
theorem ok_locate_Count : irOf Try.prog fn_locate_Count [] ts_locate_Count = some (54,[(.t 8),(.t 9)],ir_locate_Count) := by kernel_rfl
def ir_locate_Nth : C :=
 (.seq
 (.reg
 [⟨(some 6),none,(.mv (.c (.int .i64 0)))⟩,⟨(some 7),none,(.mv (.c .nilIface))⟩])
 (.seq
 (.seq
 (.reg
 [⟨(some 10),none,(.mv (.t 0))⟩,⟨(some 11),none,(.mv (.t 1))⟩,⟨(some 12),none,(.call fn_locate_check [(.t 10),(.t 11)])⟩,⟨(some 8),none,(.mv (.t 12))⟩])
 (.seq
 (.reg
 [⟨(some 13),none,(.mv (.t 8))⟩,⟨(some 14),none,(.eqn .ifc true (.t 13))⟩])
 (.cond
 (.t 14)
 (.seq
 (.reg
 [⟨(some 15),none,(.mv (.t 8))⟩,⟨(some 6),none,(.mv (.c (.int .i64 0)))⟩,⟨(some 7),none,(.mv (.t 15))⟩])
 .ret)
 .skip)))
 (.seq
 (.seq
 (.reg
 [⟨(some 16),none,(.mv (.t 2))⟩,⟨(some 17),none,(.call fn_length_Valid [(.t 16)])⟩,⟨(some 18),none,(.not (.t 17))⟩])
 (.cond
 (.t 18)
 (.seq
 (.reg
 [⟨(some 19),none,(.mki ty_api_Errno (.c (.int .i64 1)))⟩,⟨(some 6),none,(.mv (.c (.int .i64 0)))⟩,⟨(some 7),none,(.mv (.t 19))⟩])
 .ret)
 .skip))
 (.seq
 (.reg
 [⟨(some 20),none,(.mv (.t 0))⟩,⟨(some 21),none,(.call fn_P_transfer_Table_Machine [(.t 20)])⟩,⟨(some 22),none,(.fld 0 (.int .i64) (.t 21))⟩,⟨(some 9),none,(.mv (.t 22))⟩])
 (.seq
 (.seq
 (.reg
 [⟨(some 23),none,(.mv (.t 0))⟩,⟨(some 24),none,(.mv (.t 1))⟩,⟨(some 25),none,(.mv (.t 9))⟩,⟨(some 26),none,(.mv (.t 2))⟩,⟨(some 27),none,(.call fn_locate_above [(.t 23),(.t 24),(.t 25),(.t 26)])⟩,⟨(some 28),none,(.not (.t 27))⟩])
 (.cond
 (.t 28)
 (.seq
 (.reg
 [⟨(some 29),none,(.mki ty_api_Errno (.c (.int .i64 5)))⟩,⟨(some 6),none,(.mv (.c (.int .i64 0)))⟩,⟨(some 7),none,(.mv (.t 29))⟩])
 .ret)
 .skip))
 (.seq
 (.reg
 [⟨(some 30),none,(.mv (.t 0))⟩,⟨(some 31),none,(.mv (.t 1))⟩,⟨(some 32),none,(.mv (.t 9))⟩,⟨(some 33),none,(.mv (.t 2))⟩,⟨(some 34),none,(.call fn_locate_nth [(.t 30),(.t 31),(.t 32),(.t 33)])⟩,⟨(some 6),none,(.mv (.t 34))⟩,⟨(some 7),none,(.mv (.c .nilIface))⟩])
 .ret))))))
def ts_locate_Nth : List (Nat × Tr) := []
set_option maxRecDepth 100000 in
set_option maxHeartbeats 4000000 in
theorem ok_locate_Nth : irOf Try.prog fn_locate_Nth [] ts_locate_Nth = some (35,[(.t 6),(.t 7)],ir_locate_Nth) := by kernel_rfl
def ir_locate_Next : C :=
 (.seq
 (.reg
 [⟨(some 6),none,(.mv (.c (.int .i64 0)))⟩,⟨(some 7),none,(.mv (.c .nilIface))⟩])
 (.seq
 (.seq
 (.reg
 [⟨(some 12),none,(.mv (.t 0))⟩,⟨(some 13),none,(.mv (.t 1))⟩,⟨(some 14),none,(.call fn_locate_check [(.t 12),(.t 13)])⟩,⟨(some 8),none,(.mv (.t 14))⟩])
 (.seq
 (.reg
 [⟨(some 15),none,(.mv (.t 8))⟩,⟨(some 16),none,(.eqn .ifc true (.t 15))⟩])
 (.cond
 (.t 16)
 (.seq
 (.reg
 [⟨(some 17),none,(.mv (.t 8))⟩,⟨(some 6),none,(.mv (.c (.int .i64 0)))⟩,⟨(some 7),none,(.mv (.t 17))⟩])
 .ret)
 .skip)))
 (.seq
 (.reg
 [⟨(some 18),none,(.mv (.t 0))⟩,⟨(some 19),none,(.mv (.t 1))⟩,⟨(some 20),none,(.call fn_scan_Size [(.t 18),(.t 19)])⟩,⟨(some 9),none,(.mv (.t 20))⟩])
 (.seq
 (.seq
 (.reg
 [⟨(some 21),none,(.mv (.t 2))⟩,⟨(some 22),none,(.cmp .lss .i64 (.t 21) (.c (.int .i64 0)))⟩,⟨(some 23),none,(.mv (.t 22))⟩,⟨(some 24),(some (23,false)),(.mv (.t 2))⟩,⟨(some 25),(some (23,false)),(.mv (.t 9))⟩,⟨(some 26),(some (23,false)),(.cmp .gtr .i64 (.t 24) (.t 25))⟩,⟨(some 27),none,(.pick (.t 23) (.c (.bool true)) (.t 26))⟩])
 (.cond
 (.t 27)
 (.seq
 (.reg
 [⟨(some 28),none,(.mki ty_api_Errno (.c (.int .i64 1)))⟩,⟨(some 6),none,(.mv (.c (.int .i64 0)))⟩,⟨(some 7),none,(.mv (.t 28))⟩])
 .ret)
 .skip))
 (.seq
 (.reg
 [⟨(some 29),none,(.mv (.t 0))⟩,⟨(some 30),none,(.mv (.t 0))⟩,⟨(some 31),none,(.mv (.t 1))⟩,⟨(some 32),none,(.mv (.t 2))⟩,⟨(some 33),none,(.call fn_scan_Parts [(.t 30),(.t 31),(.c (.int .i64 0)),(.t 32)])⟩,⟨(some 34),none,(.mv (.t 0))⟩,⟨(some 35),none,(.call fn_P_transfer_Table_Machine [(.t 34)])⟩,⟨(some 36),none,(.fld 0 (.int .i64) (.t 35))⟩,⟨(some 37),none,(.call fn_scan_Through [(.t 29),(.t 33),(.t 36)])⟩,⟨(some 10),none,(.mv (.t 37))⟩])
 (.seq
 (.reg
 [⟨(some 38),none,(.mv (.t 0))⟩,⟨(some 39),none,(.mv (.t 0))⟩,⟨(some 40),none,(.mv (.t 1))⟩,⟨(some 41),none,(.mv (.t 2))⟩,⟨(some 42),none,(.mv (.t 9))⟩,⟨(some 43),none,(.mv (.t 2))⟩,⟨(some 44),none,(.ar .sub .i64 (.t 42) (.t 43))⟩,⟨(some 45),none,(.call fn_scan_Parts [(.t 39),(.t 40),(.t 41),(.t 44)])⟩,⟨(some 46),none,(.mv (.t 10))⟩,⟨(some 47),none,(.call fn_scan_First [(.t 38),(.t 45),(.t 46)])⟩,⟨(some 11),none,(.mv (.t 47))⟩])
 (.seq
 (.seq
 (.reg
 [⟨(some 48),none,(.mv (.t 11))⟩,⟨(some 49),none,(.cmp .eql .i64 (.t 48) (.c (.int .i64 0)))⟩])
 (.cond
 (.t 49)
 (.seq
 (.reg
 [⟨(some 50),none,(.mki ty_api_Errno (.c (.int .i64 5)))⟩,⟨(some 6),none,(.mv (.c (.int .i64 0)))⟩,⟨(some 7),none,(.mv (.t 50))⟩])
 .ret)
 .skip))
 (.seq
 (.reg
 [⟨(some 51),none,(.mv (.t 2))⟩,⟨(some 52),none,(.mv (.t 11))⟩,⟨(some 53),none,(.ar .add .i64 (.t 51) (.t 52))⟩,⟨(some 6),none,(.mv (.t 53))⟩,⟨(some 7),none,(.mv (.c .nilIface))⟩])
 .ret))))))))
def ts_locate_Next : List (Nat × Tr) := []
set_option maxRecDepth 100000 in
set_option maxHeartbeats 4000000 in
theorem ok_locate_Next : irOf Try.prog fn_locate_Next [] ts_locate_Next = some (54,[(.t 6),(.t 7)],ir_locate_Next) := by kernel_rfl
def ir_locate_Prev : C :=
 (.seq
 (.reg
 [⟨(some 6),none,(.mv (.c (.int .i64 0)))⟩,⟨(some 7),none,(.mv (.c .nilIface))⟩])
 (.seq
 (.seq
 (.reg
 [⟨(some 10),none,(.mv (.t 0))⟩,⟨(some 11),none,(.mv (.t 1))⟩,⟨(some 12),none,(.call fn_locate_check [(.t 10),(.t 11)])⟩,⟨(some 8),none,(.mv (.t 12))⟩])
 (.seq
 (.reg
 [⟨(some 13),none,(.mv (.t 8))⟩,⟨(some 14),none,(.eqn .ifc true (.t 13))⟩])
 (.cond
 (.t 14)
 (.seq
 (.reg
 [⟨(some 15),none,(.mv (.t 8))⟩,⟨(some 6),none,(.mv (.c (.int .i64 0)))⟩,⟨(some 7),none,(.mv (.t 15))⟩])
 .ret)
 .skip)))
 (.seq
 (.seq
 (.reg
 [⟨(some 16),none,(.mv (.t 2))⟩,⟨(some 17),none,(.cmp .lss .i64 (.t 16) (.c (.int .i64 0)))⟩,⟨(some 18),none,(.mv (.t 17))⟩,⟨(some 19),(some (18,false)),(.mv (.t 2))⟩,⟨(some 20),(some (18,false)),(.mv (.t 0))⟩,⟨(some 21),(some (18,false)),(.mv (.t 1))⟩,⟨(some 22),(some (18,false)),(.call fn_scan_Size [(.t 20),(.t 21)])⟩,⟨(some 23),(some (18,false)),(.cmp .gtr .i64 (.t 19) (.t 22))⟩,⟨(some 24),none,(.pick (.t 18) (.c (.bool true)) (.t 23))⟩])
 (.cond
 (.t 24)
 (.seq
 (.reg
 [⟨(some 25),none,(.mki ty_api_Errno (.c (.int .i64 1)))⟩,⟨(some 6),none,(.mv (.c (.int .i64 0)))⟩,⟨(some 7),none,(.mv (.t 25))⟩])
 .ret)
 .skip))
 (.seq
 (.reg
 [⟨(some 26),none,(.mv (.t 0))⟩,⟨(some 27),none,(.mv (.t 0))⟩,⟨(some 28),none,(.mv (.t 1))⟩,⟨(some 29),none,(.mv (.t 2))⟩,⟨(some 30),none,(.call fn_scan_Parts [(.t 27),(.t 28),(.c (.int .i64 0)),(.t 29)])⟩,⟨(some 31),none,(.mv (.t 0))⟩,⟨(some 32),none,(.call fn_P_transfer_Table_Machine [(.t 31)])⟩,⟨(some 33),none,(.fld 0 (.int .i64) (.t 32))⟩,⟨(some 34),none,(.call fn_scan_Last [(.t 26),(.t 30),(.t 33)])⟩,⟨(some 9),none,(.mv (.t 34))⟩])
 (.seq
 (.seq
 (.reg
 [⟨(some 35),none,(.mv (.t 9))⟩,⟨(some 36),none,(.cmp .eql .i64 (.t 35) (.c (.int .i64 0)))⟩])
 (.cond
 (.t 36)
 (.seq
 (.reg
 [⟨(some 37),none,(.mki ty_api_Errno (.c (.int .i64 5)))⟩,⟨(some 6),none,(.mv (.c (.int .i64 0)))⟩,⟨(some 7),none,(.mv (.t 37))⟩])
 .ret)
 .skip))
 (.seq
 (.reg
 [⟨(some 38),none,(.mv (.t 9))⟩,⟨(some 6),none,(.mv (.t 38))⟩,⟨(some 7),none,(.mv (.c .nilIface))⟩])
 .ret))))))
def ts_locate_Prev : List (Nat × Tr) := []
set_option maxRecDepth 100000 in
set_option maxHeartbeats 4000000 in
theorem ok_locate_Prev : irOf Try.prog fn_locate_Prev [] ts_locate_Prev = some (39,[(.t 6),(.t 7)],ir_locate_Prev) := by kernel_rfl
def ir_balance_Text : C :=
 (.seq
 (.reg
 [⟨(some 4),none,(.mv (.c (.int .i64 0)))⟩,⟨(some 5),none,(.mv (.c .nilIface))⟩])
 (.seq
 (.seq
 (.reg
 [⟨(some 6),none,(.mv (.t 0))⟩,⟨(some 7),none,(.eqn .ptr false (.t 6))⟩])
 (.cond
 (.t 7)
 (.seq
 (.reg
 [⟨(some 8),none,(.mki ty_api_Errno (.c (.int .i64 5)))⟩,⟨(some 4),none,(.mv (.c (.int .i64 0)))⟩,⟨(some 5),none,(.mv (.t 8))⟩])
 .ret)
 .skip))
 (.seq
 (.seq
 (.reg
 [⟨(some 9),none,(.mv (.t 1))⟩,⟨(some 10),none,(.lens (.t 9))⟩,⟨(some 11),none,(.cmp .gtr .i64 (.t 10) (.c (.int .i64 65536)))⟩])
 (.cond
 (.t 11)
 (.seq
 (.reg
 [⟨(some 12),none,(.mki ty_api_Errno (.c (.int .i64 9)))⟩,⟨(some 4),none,(.mv (.c (.int .i64 0)))⟩,⟨(some 5),none,(.mv (.t 12))⟩])
 .ret)
 .skip))
 (.seq
 (.seq
 (.reg
 [⟨(some 13),none,(.mv (.t 1))⟩,⟨(some 14),none,(.lens (.t 13))⟩,⟨(some 15),none,(.cmp .eql .i64 (.t 14) (.c (.int .i64 0)))⟩])
 (.cond
 (.t 15)
 (.seq
 (.reg
 [⟨(some 4),none,(.mv (.c (.int .i64 0)))⟩,⟨(some 5),none,(.mv (.c .nilIface))⟩])
 .ret)
 .skip))
 (.seq
 (.reg
 [⟨(some 16),none,(.mv (.t 0))⟩,⟨(some 17),none,(.mv (.t 1))⟩,⟨(some 18),none,(.call fn_balance_text [(.t 16),(.t 17)])⟩,⟨(some 19),none,(.ext (.t 18) 0)⟩,⟨(some 20),none,(.ext (.t 18) 1)⟩,⟨(some 4),none,(.mv (.t 19))⟩,⟨(some 5),none,(.mv (.t 20))⟩])
 .ret)))))
def ts_balance_Text : List (Nat × Tr) := []
set_option maxRecDepth 100000 in
set_option maxHeartbeats 4000000 in
theorem ok_balance_Text : irOf Try.prog fn_balance_Text [] ts_balance_Text = some (21,[(.t 4),(.t 5)],ir_balance_Text) := by kernel_rfl
def ir_balance_text : C :=
 (.seq
 (.reg
 [⟨(some 4),none,(.mv (.c (.int .i64 0)))⟩,⟨(some 5),none,(.mv (.c .nilIface))⟩])
 (.seq
 (.seq
 (.reg
 [⟨(some 9),none,(.mv (.t 1))⟩,⟨(some 10),none,(.lens (.t 9))⟩,⟨(some 11),none,(.cmp .eql .i64 (.t 10) (.c (.int .i64 1)))⟩])
 (.cond
 (.t 11)
 (.seq
 (.reg
 [⟨(some 12),none,(.mv (.t 0))⟩,⟨(some 13),none,(.mv (.t 1))⟩,⟨(some 14),none,(.ia 1 (.t 13) (.c (.int .i64 0)))⟩,⟨(some 15),none,(.ld (.int .u8) (.t 14))⟩,⟨(some 16),none,(.call fn_P_intern_Store_Letter [(.t 12),(.t 15)])⟩,⟨(some 17),none,(.ext (.t 16) 0)⟩,⟨(some 18),none,(.ext (.t 16) 1)⟩,⟨(some 4),none,(.mv (.t 17))⟩,⟨(some 5),none,(.mv (.t 18))⟩])
 .ret)
 .skip))
 (.seq
 (.reg
 [⟨(some 20),none,(.mv (.t 0))⟩,⟨(some 21),none,(.mv (.t 1))⟩,⟨(some 22),none,(.mv (.t 1))⟩,⟨(some 23),none,(.lens (.t 22))⟩,⟨(some 24),none,(.dv false .i64 (.t 23) (.c (.int .i64 2)))⟩,⟨(some 25),none,(.slc 1 (.t 21) none (some (.t 24)))⟩,⟨(some 26),none,(.call fn_balance_text [(.t 20),(.t 25)])⟩,⟨(some 19),none,(.mv (.t 26))⟩,⟨(some 27),none,(.ext (.t 19) 0)⟩,⟨(some 28),none,(.ext (.t 19) 1)⟩,⟨(some 6),none,(.mv (.t 27))⟩,⟨(some 7),none,(.mv (.t 28))⟩])
 (.seq
 (.seq
 (.reg
 [⟨(some 29),none,(.mv (.t 7))⟩,⟨(some 30),none,(.eqn .ifc true (.t 29))⟩])
 (.cond
 (.t 30)
 (.seq
 (.reg
 [⟨(some 31),none,(.mv (.t 7))⟩,⟨(some 4),none,(.mv (.c (.int .i64 0)))⟩,⟨(some 5),none,(.mv (.t 31))⟩])
 .ret)
 .skip))
 (.seq
 (.reg
 [⟨(some 33),none,(.mv (.t 0))⟩,⟨(some 34),none,(.mv (.t 1))⟩,⟨(some 35),none,(.mv (.t 1))⟩,⟨(some 36),none,(.lens (.t 35))⟩,⟨(some 37),none,(.dv false .i64 (.t 36) (.c (.int .i64 2)))⟩,⟨(some 38),none,(.slc 1 (.t 34) (some (.t 37)) none)⟩,⟨(some 39),none,(.call fn_balance_text [(.t 33),(.t 38)])⟩,⟨(some 32),none,(.mv (.t 39))⟩,⟨(some 40),none,(.ext (.t 32) 0)⟩,⟨(some 41),none,(.ext (.t 32) 1)⟩,⟨(some 8),none,(.mv (.t 40))⟩,⟨(some 7),none,(.mv (.t 41))⟩])
 (.seq
 (.seq
 (.reg
 [⟨(some 42),none,(.mv (.t 7))⟩,⟨(some 43),none,(.eqn .ifc true (.t 42))⟩])
 (.cond
 (.t 43)
 (.seq
 (.reg
 [⟨(some 44),none,(.mv (.t 7))⟩,⟨(some 4),none,(.mv (.c (.int .i64 0)))⟩,⟨(some 5),none,(.mv (.t 44))⟩])
 .ret)
 .skip))
 (.seq
 (.reg
 [⟨(some 45),none,(.mv (.t 0))⟩,⟨(some 46),none,(.mv (.t 6))⟩,⟨(some 47),none,(.mv (.t 8))⟩,⟨(some 48),none,(.call fn_P_intern_Store_Pair [(.t 45),(.t 46),(.t 47)])⟩,⟨(some 49),none,(.ext (.t 48) 0)⟩,⟨(some 50),none,(.ext (.t 48) 1)⟩,⟨(some 4),none,(.mv (.t 49))⟩,⟨(some 5),none,(.mv (.t 50))⟩])
 .ret)))))))
def ts_balance_text : List (Nat × Tr) := []
set_option maxRecDepth 100000 in
set_option maxHeartbeats 4000000 in
theorem ok_balance_text : irOf Try.prog fn_balance_text [] ts_balance_text = some (51,[(.t 4),(.t 5)],ir_balance_text) := by kernel_rfl
def ir_literal_Of : C :=
 (.seq
 (.reg
 [⟨(some 2),none,(.alc 2 ty_api_Machine [(.int .i64 0),(.slice none 0 0),(.slice none 0 0),(.slice none 0 0)])⟩,⟨(some 3),none,(.mv (.c (.slice none 0 0)))⟩,⟨(some 4),none,(.mv (.c .nilIface))⟩])
 (.seq
 (.seq
 (.reg
 [⟨(some 12),none,(.mv (.t 0))⟩,⟨(some 13),none,(.lens (.t 12))⟩,⟨(some 14),none,(.cmp .eql .i64 (.t 13) (.c (.int .i64 0)))⟩])
 (.cond
 (.t 14)
 (.seq
 (.reg
 [⟨(some 15),none,(.bld [(.int .i64 0),(.slice none 0 0),(.slice none 0 0),(.slice none 0 0)] [])⟩,⟨(some 16),none,(.mki ty_api_Errno (.c (.int .i64 4)))⟩,⟨none,none,(.st 4 (.t 2) (.t 15))⟩,⟨(some 3),none,(.mv (.c (.slice none 0 0)))⟩,⟨(some 4),none,(.mv (.t 16))⟩])
 .ret)
 .skip))
 (.seq
 (.seq
 (.reg
 [⟨(some 17),none,(.mv (.t 0))⟩,⟨(some 18),none,(.lens (.t 17))⟩,⟨(some 19),none,(.mv (.c (.int .i64 0)))⟩])
 (.blk
 0
 (.loop
 (.seq
 (.reg
 [⟨(some 20),none,(.cmp .lss .i64 (.t 19) (.t 18))⟩])
 (.seq
 (.cond
 (.t 20)
 .skip
 (.exit 0))
 (.seq
 (.blk
 1
 (.seq
 (.reg
 [⟨(some 21),none,(.ia 1 (.t 17) (.t 19))⟩,⟨(some 22),none,(.ld .slc (.t 21))⟩,⟨(some 6),none,(.mv (.t 22))⟩])
 (.seq
 (.reg
 [⟨(some 23),none,(.mv (.t 6))⟩,⟨(some 24),none,(.lens (.t 23))⟩,⟨(some 25),none,(.cmp .eql .i64 (.t 24) (.c (.int .i64 0)))⟩])
 (.cond
 (.t 25)
 (.seq
 (.reg
 [⟨(some 26),none,(.bld [(.int .i64 0),(.slice none 0 0),(.slice none 0 0),(.slice none 0 0)] [])⟩,⟨(some 27),none,(.mki ty_api_Errno (.c (.int .i64 4)))⟩,⟨none,none,(.st 4 (.t 2) (.t 26))⟩,⟨(some 3),none,(.mv (.c (.slice none 0 0)))⟩,⟨(some 4),none,(.mv (.t 27))⟩])
 .ret)
 .skip))))
 (.reg
 [⟨(some 28),none,(.ar .add .i64 (.t 19) (.c (.int .i64 1)))⟩,⟨(some 19),none,(.mv (.t 28))⟩])))))))
 (.seq
 (.reg
 [⟨(some 29),none,(.mkm 29 (.agg [(.int .i64),(.int .u8)]) none)⟩,⟨(some 30),none,(.bsl 30 ty_int 1 1 [(.int .i64 0)] [(0,(1,(.c (.int .i64 0))))])⟩,⟨(some 31),none,(.bld [(.map none),(.slice none 0 0),(.bool false),(.bool false),(.bool false),(.bool false),(.bool false),(.bool false),(.bool false),(.bool false),(.bool false),(.bool false),(.bool false),(.bool false),(.bool false),(.bool false),(.bool false),(.bool false),(.bool false),(.bool false),(.bool false),(.bool false),(.bool false),(.bool false),(.bool false),(.bool false),(.bool false),(.bool false),(.bool false),(.bool false),(.bool false),(.bool false),(.bool false),(.bool false),(.bool false),(.bool false),(.bool false),(.bool false),(.bool false),(.bool false),(.bool false),(.bool false),(.bool false),(.bool false),(.bool false),(.bool false),(.bool false),(.bool false),(.bool false),(.bool false),(.bool false),(.bool false),(.bool false),(.bool false),(.bool false),(.bool false),(.bool false),(.bool false),(.bool false),(.bool false),(.bool false),(.bool false),(.bool false),(.bool false),(.bool false),(.bool false),(.bool false),(.bool false),(.bool false),(.bool false),(.bool false),(.bool false),(.bool false),(.bool false),(.bool false),(.bool false),(.bool false),(.bool false),(.bool false),(.bool false),(.bool false),(.bool false),(.bool false),(.bool false),(.bool false),(.bool false),(.bool false),(.bool false),(.bool false),(.bool false),(.bool false),(.bool false),(.bool false),(.bool false),(.bool false),(.bool false),(.bool false),(.bool false),(.bool false),(.bool false),(.bool false),(.bool false),(.bool false),(.bool false),(.bool false),(.bool false),(.bool false),(.bool false),(.bool false),(.bool false),(.bool false),(.bool false),(.bool false),(.bool false),(.bool false),(.bool false),(.bool false),(.bool false),(.bool false),(.bool false),(.bool false),(.bool false),(.bool false),(.bool false),(.bool false),(.bool false),(.bool false),(.bool false),(.bool false),(.bool false),(.bool false),(.bool false),(.bool false),(.bool false),(.bool false),(.bool false),(.bool false),(.bool false),(.bool false),(.bool false),(.bool false),(.bool false),(.bool false),(.bool false),(.bool false),(.bool false),(.bool false),(.bool false),(.bool false),(.bool false),(.bool false),(.bool false),(.bool false),(.bool false),(.bool false),(.bool false),(.bool false),(.bool false),(.bool false),(.bool false),(.bool false),(.bool false),(.bool false),(.bool false),(.bool false),(.bool false),(.bool false),(.bool false),(.bool false),(.bool false),(.bool false),(.bool false),(.bool false),(.bool false),(.bool false),(.bool false),(.bool false),(.bool false),(.bool false),(.bool false),(.bool false),(.bool false),(.bool false),(.bool false),(.bool false),(.bool false),(.bool false),(.bool false),(.bool false),(.bool false),(.bool false),(.bool false),(.bool false),(.bool false),(.bool false),(.bool false),(.bool false),(.bool false),(.bool false),(.bool false),(.bool false),(.bool false),(.bool false),(.bool false),(.bool false),(.bool false),(.bool false),(.bool false),(.bool false),(.bool false),(.bool false),(.bool false),(.bool false),(.bool false),(.bool false),(.bool false),(.bool false),(.bool false),(.bool false),(.bool false),(.bool false),(.bool false),(.bool false),(.bool false),(.bool false),(.bool false),(.bool false),(.bool false),(.bool false),(.bool false),(.bool false),(.bool false),(.bool false),(.bool false),(.bool false),(.bool false),(.bool false),(.bool false),(.bool false),(.bool false),(.bool false),(.bool false),(.bool false),(.bool false),(.bool false),(.bool false),(.bool false),(.bool false),(.bool false),(.bool false),(.bool false),(.bool false),(.bool false),(.bool false),(.bool false),(.bool false),(.bool false),(.bool false)] [(0,(1,(.t 29))),(1,(1,(.t 30)))])⟩,⟨(some 32),none,(.box 32 ty_literal_trie (.t 31))⟩,⟨(some 7),none,(.mv (.t 32))⟩])
 (.seq
 (.seq
 (.reg
 [⟨(some 33),none,(.mv (.t 0))⟩,⟨(some 34),none,(.lens (.t 33))⟩,⟨(some 35),none,(.mv (.c (.int .i64 0)))⟩])
 (.blk
 2
 (.loop
 (.seq
 (.reg
 [⟨(some 36),none,(.cmp .lss .i64 (.t 35) (.t 34))⟩])
 (.seq
 (.cond
 (.t 36)
 .skip
 (.exit 2))
 (.seq
 (.blk
 3
 (.seq
 (.reg
 [⟨(some 37),none,(.ia 1 (.t 33) (.t 35))⟩,⟨(some 38),none,(.ld .slc (.t 37))⟩,⟨(some 9),none,(.mv (.t 38))⟩])
 (.seq
 (.reg
 [⟨(some 39),none,(.mv (.t 7))⟩,⟨(some 40),none,(.mv (.t 9))⟩,⟨(some 41),none,(.call fn_P_literal_trie_add [(.t 39),(.t 40)])⟩,⟨(some 42),none,(.not (.t 41))⟩])
 (.cond
 (.t 42)
 (.seq
 (.reg
 [⟨(some 43),none,(.bld [(.int .i64 0),(.slice none 0 0),(.slice none 0 0),(.slice none 0 0)] [])⟩,⟨(some 44),none,(.mki ty_api_Errno (.c (.int .i64 9)))⟩,⟨none,none,(.st 4 (.t 2) (.t 43))⟩,⟨(some 3),none,(.mv (.c (.slice none 0 0)))⟩,⟨(some 4),none,(.mv (.t 44))⟩])
 .ret)
 .skip))))
 (.reg
 [⟨(some 45),none,(.ar .add .i64 (.t 35) (.c (.int .i64 1)))⟩,⟨(some 35),none,(.mv (.t 45))⟩])))))))
 (.seq
 (.reg
 [⟨(some 47),none,(.mv (.t 7))⟩,⟨(some 48),none,(.call fn_P_literal_trie_machine [(.t 47)])⟩,⟨(some 46),none,(.mv (.t 48))⟩,⟨(some 49),none,(.ext (.t 46) 0)⟩,⟨(some 50),none,(.ext (.t 46) 1)⟩,⟨(some 10),none,(.alc 10 ty_api_Machine [(.int .i64 0),(.slice none 0 0),(.slice none 0 0),(.slice none 0 0)])⟩,⟨none,none,(.st 4 (.t 10) (.t 49))⟩,⟨(some 11),none,(.mv (.t 50))⟩])
 (.seq
 (.reg
 [⟨(some 51),none,(.lda 4 [(.int .i64),.slc,.slc,.slc] (.t 10))⟩,⟨(some 52),none,(.mv (.t 11))⟩,⟨none,none,(.st 4 (.t 2) (.t 51))⟩,⟨(some 3),none,(.mv (.t 52))⟩,⟨(some 4),none,(.mv (.c .nilIface))⟩])
 .ret)))))))
def ts_literal_Of : List (Nat × Tr) := []
set_option maxRecDepth 100000 in
set_option maxHeartbeats 4000000 in
theorem ok_literal_Of : irOf Try.prog fn_literal_Of [] ts_literal_Of = some (53,[(.c 2 4),(.t 3),(.t 4)],ir_literal_Of) := by kernel_rfl
def ir_P_literal_trie_add : C :=
 (.seq
 (.reg
 [⟨(some 4),none,(.mv (.c (.bool false)))⟩])
 (.seq
 (.reg
 [⟨(some 5),none,(.mv (.c (.int .i64 0)))⟩])
 (.seq
 (.seq
 (.reg
 [⟨(some 10),none,(.mv (.t 1))⟩,⟨(some 11),none,(.lens (.t 10))⟩,⟨(some 12),none,(.mv (.c (.int .i64 0)))⟩])
 (.blk
 0
 (.loop
 (.seq
 (.reg
 [⟨(some 13),none,(.cmp .lss .i64 (.t 12) (.t 11))⟩])
 (.seq
 (.cond
 (.t 13)
 .skip
 (.exit 0))
 (.seq
 (.blk
 1
 (.seq
 (.reg
 [⟨(some 14),none,(.ia 1 (.t 10) (.t 12))⟩,⟨(some 15),none,(.ld (.int .u8) (.t 14))⟩,⟨(some 7),none,(.mv (.t 15))⟩])
 (.seq
 (.reg
 [⟨(some 16),none,(.mv (.t 0))⟩,⟨(some 17),none,(.mv (.t 7))⟩,⟨(some 18),none,(.nil (.t 16))⟩,⟨(some 19),none,(.fa 2 (.t 18))⟩,⟨(some 20),none,(.iaa 1 256 (.t 19) (.t 17))⟩,⟨none,none,(.st 1 (.t 20) (.c (.bool true)))⟩])
 (.seq
 (.reg
 [⟨(some 22),none,(.mv (.t 0))⟩,⟨(some 23),none,(.nil (.t 22))⟩,⟨(some 24),none,(.fa 0 (.t 23))⟩,⟨(some 25),none,(.ld .map (.t 24))⟩,⟨(some 26),none,(.mv (.t 5))⟩,⟨(some 27),none,(.mv (.t 7))⟩,⟨(some 28),none,(.bld [(.int .i64 0),(.int .u8 0)] [(0,(1,(.t 26))),(1,(1,(.t 27)))])⟩,⟨(some 29),none,(.lku (.agg [(.int .i64),(.int .u8)]) true (.int .i64 0) (.t 25) (.t 28))⟩,⟨(some 21),none,(.mv (.t 29))⟩,⟨(some 30),none,(.ext (.t 21) 0)⟩,⟨(some 31),none,(.ext (.t 21) 1)⟩,⟨(some 8),none,(.mv (.t 30))⟩,⟨(some 9),none,(.mv (.t 31))⟩])
 (.seq
 (.seq
 (.reg
 [⟨(some 32),none,(.mv (.t 9))⟩,⟨(some 33),none,(.not (.t 32))⟩])
 (.cond
 (.t 33)
 (.seq
 (.reg
 [⟨(some 34),none,(.mv (.t 0))⟩,⟨(some 35),none,(.nil (.t 34))⟩,⟨(some 36),none,(.fa 1 (.t 35))⟩,⟨(some 37),none,(.ld .slc (.t 36))⟩,⟨(some 38),none,(.lens (.t 37))⟩,⟨(some 8),none,(.mv (.t 38))⟩])
 (.seq
 (.seq
 (.reg
 [⟨(some 39),none,(.mv (.t 8))⟩,⟨(some 40),none,(.cmp .eql .i64 (.t 39) (.c (.int .i64 256)))⟩])
 (.cond
 (.t 40)
 (.seq
 (.reg
 [⟨(some 4),none,(.mv (.c (.bool false)))⟩])
 .ret)
 .skip))
 (.seq
 (.reg
 [⟨(some 41),none,(.mv (.t 0))⟩,⟨(some 42),none,(.nil (.t 41))⟩,⟨(some 43),none,(.fa 0 (.t 42))⟩,⟨(some 44),none,(.ld .map (.t 43))⟩,⟨(some 45),none,(.mv (.t 5))⟩,⟨(some 46),none,(.mv (.t 7))⟩,⟨(some 47),none,(.bld [(.int .i64 0),(.int .u8 0)] [(0,(1,(.t 45))),(1,(1,(.t 46)))])⟩,⟨(some 48),none,(.mv (.t 8))⟩,⟨none,none,(.mup (.agg [(.int .i64),(.int .u8)]) (.t 44) (.t 47) (.t 48))⟩])
 (.reg
 [⟨(some 49),none,(.mv (.t 0))⟩,⟨(some 50),none,(.mv (.t 0))⟩,⟨(some 51),none,(.nil (.t 50))⟩,⟨(some 52),none,(.fa 1 (.t 51))⟩,⟨(some 53),none,(.ld .slc (.t 52))⟩,⟨(some 54),none,(.bsl 54 ty_int 1 1 [(.int .i64 0)] [(0,(1,(.c (.int .i64 0))))])⟩,⟨(some 55),none,(.app 55 ty_int 1 8 (.t 53) (.t 54))⟩,⟨(some 56),none,(.nil (.t 49))⟩,⟨(some 57),none,(.fa 1 (.t 56))⟩,⟨none,none,(.st 1 (.t 57) (.t 55))⟩]))))
 .skip))
 (.reg
 [⟨(some 58),none,(.mv (.t 8))⟩,⟨(some 5),none,(.mv (.t 58))⟩]))))))
 (.reg
 [⟨(some 59),none,(.ar .add .i64 (.t 12) (.c (.int .i64 1)))⟩,⟨(some 12),none,(.mv (.t 59))⟩])))))))
 (.seq
 (.reg
 [⟨(some 60),none,(.mv (.t 0))⟩,⟨(some 61),none,(.nil (.t 60))⟩,⟨(some 62),none,(.fa 1 (.t 61))⟩,⟨(some 63),none,(.ld .slc (.t 62))⟩,⟨(some 64),none,(.mv (.t 5))⟩,⟨(some 65),none,(.ia 1 (.t 63) (.t 64))⟩,⟨(some 66),none,(.ld (.int .i64) (.t 65))⟩,⟨(some 67),none,(.ar .add .i64 (.t 66) (.c (.int .i64 1)))⟩,⟨(some 68),none,(.ia 1 (.t 63) (.t 64))⟩,⟨none,none,(.st 1 (.t 68) (.t 67))⟩])
 (.seq
 (.reg
 [⟨(some 4),none,(.mv (.c (.bool true)))⟩])
 .ret)))))
def ts_P_literal_trie_add : List (Nat × Tr) := []
set_option maxRecDepth 100000 in
set_option maxHeartbeats 4000000 in
theorem ok_P_literal_trie_add : irOf Try.prog fn_P_literal_trie_add [] ts_P_literal_trie_add = some (69,[(.t 4)],ir_P_literal_trie_add) := by kernel_rfl
def ir_P_literal_trie_machine : C :=
 (.seq
 (.reg
 [⟨(some 2),none,(.alc 2 ty_api_Machine [(.int .i64 0),(.slice none 0 0),(.slice none 0 0),(.slice none 0 0)])⟩,⟨(some 3),none,(.mv (.c (.slice none 0 0)))⟩])
 (.seq
 (.reg
 [⟨(some 20),none,(.mks 20 ty_int 1 8 [(.int .i64 0)] (.c (.int .i64 256)) (.c (.int .i64 256)))⟩,⟨(some 21),none,(.bld [(.int .i64 0),(.slice none 0 0),(.slice none 0 0),(.slice none 0 0)] [(1,(1,(.t 20)))])⟩,⟨(some 4),none,(.alc 4 ty_api_Machine [(.int .i64 0),(.slice none 0 0),(.slice none 0 0),(.slice none 0 0)])⟩,⟨none,none,(.st 4 (.t 4) (.t 21))⟩])
 (.seq
 (.reg
 [⟨(some 5),none,(.mv (.c (.slice none 0 0)))⟩])
 (.seq
 (.seq
 (.reg
 [⟨(some 22),none,(.mv (.t 0))⟩,⟨(some 23),none,(.nil (.t 22))⟩,⟨(some 24),none,(.fa 2 (.t 23))⟩,⟨(some 25),none,(.lda 256 [.bool,.bool,.bool,.bool,.bool,.bool,.bool,.bool,.bool,.bool,.bool,.bool,.bool,.bool,.bool,.bool,.bool,.bool,.bool,.bool,.bool,.bool,.bool,.bool,.bool,.bool,.bool,.bool,.bool,.bool,.bool,.bool,.bool,.bool,.bool,.bool,.bool,.bool,.bool,.bool,.bool,.bool,.bool,.bool,.bool,.bool,.bool,.bool,.bool,.bool,.bool,.bool,.bool,.bool,.bool,.bool,.bool,.bool,.bool,.bool,.bool,.bool,.bool,.bool,.bool,.bool,.bool,.bool,.bool,.bool,.bool,.bool,.bool,.bool,.bool,.bool,.bool,.bool,.bool,.bool,.bool,.bool,.bool,.bool,.bool,.bool,.bool,.bool,.bool,.bool,.bool,.bool,.bool,.bool,.bool,.bool,.bool,.bool,.bool,.bool,.bool,.bool,.bool,.bool,.bool,.bool,.bool,.bool,.bool,.bool,.bool,.bool,.bool,.bool,.bool,.bool,.bool,.bool,.bool,.bool,.bool,.bool,.bool,.bool,.bool,.bool,.bool,.bool,.bool,.bool,.bool,.bool,.bool,.bool,.bool,.bool,.bool,.bool,.bool,.bool,.bool,.bool,.bool,.bool,.bool,.bool,.bool,.bool,.bool,.bool,.bool,.bool,.bool,.bool,.bool,.bool,.bool,.bool,.bool,.bool,.bool,.bool,.bool,.bool,.bool,.bool,.bool,.bool,.bool,.bool,.bool,.bool,.bool,.bool,.bool,.bool,.bool,.bool,.bool,.bool,.bool,.bool,.bool,.bool,.bool,.bool,.bool,.bool,.bool,.bool,.bool,.bool,.bool,.bool,.bool,.bool,.bool,.bool,.bool,.bool,.bool,.bool,.bool,.bool,.bool,.bool,.bool,.bool,.bool,.bool,.bool,.bool,.bool,.bool,.bool,.bool,.bool,.bool,.bool,.bool,.bool,.bool,.bool,.bool,.bool,.bool,.bool,.bool,.bool,.bool,.bool,.bool,.bool,.bool,.bool,.bool,.bool,.bool,.bool,.bool,.bool,.bool,.bool,.bool,.bool,.bool,.bool,.bool,.bool,.bool,.bool,.bool,.bool,.bool,.bool,.bool] (.t 24))⟩,⟨(some 26),none,(.mv (.c (.int .i64 0)))⟩])
 (.blk
 0
 (.loop
 (.seq
 (.reg
 [⟨(some 27),none,(.cmp .lss .i64 (.t 26) (.c (.int .i64 256)))⟩])
 (.seq
 (.cond
 (.t 27)
 .skip
 (.exit 0))
 (.seq
 (.blk
 1
 (.seq
 (.reg
 [⟨(some 28),none,(.mv (.t 26))⟩,⟨(some 29),none,(.idx 256 (.t 25) (.t 26))⟩,⟨(some 6),none,(.mv (.t 28))⟩,⟨(some 7),none,(.mv (.t 29))⟩])
 (.seq
 (.reg
 [⟨(some 30),none,(.mv (.t 7))⟩])
 (.cond
 (.t 30)
 (.seq
 (.reg
 [⟨(some 31),none,(.mv (.t 5))⟩,⟨(some 32),none,(.mv (.t 6))⟩,⟨(some 33),none,(.cv .u8 (.t 32))⟩,⟨(some 34),none,(.bsl 34 ty_uint8 1 1 [(.int .u8 0)] [(0,(1,(.t 33)))])⟩,⟨(some 35),none,(.app 35 ty_uint8 1 1 (.t 31) (.t 34))⟩,⟨(some 5),none,(.mv (.t 35))⟩])
 (.reg
 [⟨(some 36),none,(.fa 1 (.t 4))⟩,⟨(some 37),none,(.ld .slc (.t 36))⟩,⟨(some 38),none,(.mv (.t 6))⟩,⟨(some 39),none,(.mv (.t 5))⟩,⟨(some 40),none,(.lens (.t 39))⟩,⟨(some 41),none,(.ia 1 (.t 37) (.t 38))⟩,⟨none,none,(.st 1 (.t 41) (.t 40))⟩]))
 .skip))))
 (.reg
 [⟨(some 42),none,(.ar .add .i64 (.t 26) (.c (.int .i64 1)))⟩,⟨(some 26),none,(.mv (.t 42))⟩])))))))
 (.seq
 (.reg
 [⟨(some 43),none,(.mv (.t 0))⟩,⟨(some 44),none,(.nil (.t 43))⟩,⟨(some 45),none,(.fa 1 (.t 44))⟩,⟨(some 46),none,(.ld .slc (.t 45))⟩,⟨(some 47),none,(.lens (.t 46))⟩,⟨(some 8),none,(.mv (.t 47))⟩])
 (.seq
 (.reg
 [⟨(some 48),none,(.mv (.t 8))⟩,⟨(some 49),none,(.mks 49 ty_int 1 8 [(.int .i64 0)] (.c (.int .i64 1)) (.t 48))⟩,⟨(some 9),none,(.mv (.t 49))⟩])
 (.seq
 (.reg
 [⟨(some 50),none,(.mv (.t 8))⟩,⟨(some 51),none,(.mks 51 ty_int 1 8 [(.int .i64 0)] (.c (.int .i64 1)) (.t 50))⟩,⟨(some 10),none,(.mv (.t 51))⟩])
 (.seq
 (.reg
 [⟨(some 52),none,(.mv (.t 8))⟩,⟨(some 53),none,(.mks 53 ty_int 1 8 [(.int .i64 0)] (.c (.int .i64 0)) (.t 52))⟩,⟨(some 11),none,(.mv (.t 53))⟩])
 (.seq
 (.seq
 (.reg
 [⟨(some 12),none,(.mv (.c (.int .i64 0)))⟩])
 (.blk
 2
 (.loop
 (.seq
 (.seq
 (.reg
 [⟨(some 54),none,(.mv (.t 12))⟩,⟨(some 55),none,(.mv (.t 9))⟩,⟨(some 56),none,(.lens (.t 55))⟩,⟨(some 57),none,(.cmp .lss .i64 (.t 54) (.t 56))⟩])
 (.cond
 (.t 57)
 .skip
 (.exit 2)))
 (.seq
 (.blk
 3
 (.seq
 (.reg
 [⟨(some 60),none,(.mv (.t 9))⟩,⟨(some 61),none,(.mv (.t 12))⟩,⟨(some 62),none,(.ia 1 (.t 60) (.t 61))⟩,⟨(some 63),none,(.ld (.int .i64) (.t 62))⟩,⟨(some 13),none,(.mv (.t 63))⟩])
 (.seq
 (.reg
 [⟨(some 64),none,(.mv (.t 5))⟩,⟨(some 65),none,(.lens (.t 64))⟩,⟨(some 66),none,(.ar .add .i64 (.t 65) (.c (.int .i64 1)))⟩,⟨(some 67),none,(.mks 67 ty_int 1 8 [(.int .i64 0)] (.t 66) (.t 66))⟩,⟨(some 14),none,(.mv (.t 67))⟩])
 (.cut
 (.seq
 (.reg
 [⟨(some 68),none,(.mv (.t 12))⟩,⟨(some 69),none,(.cmp .gtr .i64 (.t 68) (.c (.int .i64 0)))⟩])
 (.cond
 (.t 69)
 (.drw
 [⟨(some 70),none,(.mv (.t 14))⟩,⟨(some 71),none,(.fa 2 (.t 4))⟩,⟨(some 72),none,(.ld .slc (.t 71))⟩,⟨(some 73),none,(.mv (.t 10))⟩,⟨(some 74),none,(.mv (.t 12))⟩,⟨(some 75),none,(.ia 1 (.t 73) (.t 74))⟩,⟨(some 76),none,(.ld (.int .i64) (.t 75))⟩,⟨(some 77),none,(.ia 1 (.t 72) (.t 76))⟩,⟨(some 78),none,(.ld .slc (.t 77))⟩,⟨(some 79),none,(.cpy (.t 70) (.t 78))⟩]
 (.mov 0 (.take 1 (.take 2 (.mov 3 (.mov 4 (.take 5 (.take 6 (.take 7 (.take 8 (.bar 9 .done)))))))))))
 .skip))
 (.seq
 (.seq
 (.reg
 [⟨(some 80),none,(.mv (.t 5))⟩,⟨(some 81),none,(.lens (.t 80))⟩,⟨(some 82),none,(.mv (.c (.int .i64 0)))⟩])
 (.blk
 4
 (.loop
 (.seq
 (.reg
 [⟨(some 83),none,(.cmp .lss .i64 (.t 82) (.t 81))⟩])
 (.seq
 (.cond
 (.t 83)
 .skip
 (.exit 4))
 (.seq
 (.blk
 5
 (.seq
 (.reg
 [⟨(some 84),none,(.mv (.t 82))⟩,⟨(some 85),none,(.ia 1 (.t 80) (.t 82))⟩,⟨(some 86),none,(.ld (.int .u8) (.t 85))⟩,⟨(some 15),none,(.mv (.t 84))⟩,⟨(some 16),none,(.mv (.t 86))⟩])
 (.seq
 (.reg
 [⟨(some 88),none,(.mv (.t 0))⟩,⟨(some 89),none,(.nil (.t 88))⟩,⟨(some 90),none,(.fa 0 (.t 89))⟩,⟨(some 91),none,(.ld .map (.t 90))⟩,⟨(some 92),none,(.mv (.t 13))⟩,⟨(some 93),none,(.mv (.t 16))⟩,⟨(some 94),none,(.bld [(.int .i64 0),(.int .u8 0)] [(0,(1,(.t 92))),(1,(1,(.t 93)))])⟩,⟨(some 95),none,(.lku (.agg [(.int .i64),(.int .u8)]) true (.int .i64 0) (.t 91) (.t 94))⟩,⟨(some 87),none,(.mv (.t 95))⟩,⟨(some 96),none,(.ext (.t 87) 0)⟩,⟨(some 97),none,(.ext (.t 87) 1)⟩,⟨(some 17),none,(.mv (.t 96))⟩,⟨(some 18),none,(.mv (.t 97))⟩])
 (.seq
 (.reg
 [⟨(some 98),none,(.mv (.t 18))⟩])
 (.cond
 (.t 98)
 (.seq
 (.reg
 [⟨(some 99),none,(.mv (.t 9))⟩,⟨(some 100),none,(.mv (.t 17))⟩,⟨(some 101),none,(.bsl 101 ty_int 1 1 [(.int .i64 0)] [(0,(1,(.t 100)))])⟩,⟨(some 102),none,(.app 102 ty_int 1 8 (.t 99) (.t 101))⟩,⟨(some 9),none,(.mv (.t 102))⟩])
 (.seq
 (.reg
 [⟨(some 103),none,(.mv (.t 10))⟩,⟨(some 104),none,(.mv (.t 14))⟩,⟨(some 105),none,(.mv (.t 15))⟩,⟨(some 106),none,(.ar .add .i64 (.t 105) (.c (.int .i64 1)))⟩,⟨(some 107),none,(.ia 1 (.t 104) (.t 106))⟩,⟨(some 108),none,(.ld (.int .i64) (.t 107))⟩,⟨(some 109),none,(.bsl 109 ty_int 1 1 [(.int .i64 0)] [(0,(1,(.t 108)))])⟩,⟨(some 110),none,(.app 110 ty_int 1 8 (.t 103) (.t 109))⟩,⟨(some 10),none,(.mv (.t 110))⟩])
 (.reg
 [⟨(some 111),none,(.mv (.t 14))⟩,⟨(some 112),none,(.mv (.t 15))⟩,⟨(some 113),none,(.ar .add .i64 (.t 112) (.c (.int .i64 1)))⟩,⟨(some 114),none,(.mv (.t 9))⟩,⟨(some 115),none,(.lens (.t 114))⟩,⟨(some 116),none,(.ar .sub .i64 (.t 115) (.c (.int .i64 1)))⟩,⟨(some 117),none,(.ia 1 (.t 111) (.t 113))⟩,⟨none,none,(.st 1 (.t 117) (.t 116))⟩])))
 .skip)))))
 (.reg
 [⟨(some 118),none,(.ar .add .i64 (.t 82) (.c (.int .i64 1)))⟩,⟨(some 82),none,(.mv (.t 118))⟩])))))))
 (.seq
 (.reg
 [⟨(some 119),none,(.fa 2 (.t 4))⟩,⟨(some 120),none,(.ld .slc (.t 119))⟩,⟨(some 121),none,(.mv (.t 14))⟩,⟨(some 122),none,(.bsl 122 ty_Sl_int 1 1 [(.slice none 0 0)] [(0,(1,(.t 121)))])⟩,⟨(some 123),none,(.app 123 ty_Sl_int 1 24 (.t 120) (.t 122))⟩,⟨(some 124),none,(.fa 2 (.t 4))⟩,⟨none,none,(.st 1 (.t 124) (.t 123))⟩])
 (.seq
 (.reg
 [⟨(some 125),none,(.mv (.t 0))⟩,⟨(some 126),none,(.nil (.t 125))⟩,⟨(some 127),none,(.fa 1 (.t 126))⟩,⟨(some 128),none,(.ld .slc (.t 127))⟩,⟨(some 129),none,(.mv (.t 13))⟩,⟨(some 130),none,(.ia 1 (.t 128) (.t 129))⟩,⟨(some 131),none,(.ld (.int .i64) (.t 130))⟩,⟨(some 19),none,(.mv (.t 131))⟩])
 (.cut
 (.seq
 (.reg
 [⟨(some 132),none,(.mv (.t 12))⟩,⟨(some 133),none,(.cmp .gtr .i64 (.t 132) (.c (.int .i64 0)))⟩])
 (.cond
 (.t 133)
 (.reg
 [⟨(some 134),none,(.mv (.t 19))⟩,⟨(some 135),none,(.mv (.t 11))⟩,⟨(some 136),none,(.mv (.t 10))⟩,⟨(some 137),none,(.mv (.t 12))⟩,⟨(some 138),none,(.ia 1 (.t 136) (.t 137))⟩,⟨(some 139),none,(.ld (.int .i64) (.t 138))⟩,⟨(some 140),none,(.ia 1 (.t 135) (.t 139))⟩,⟨(some 141),none,(.ld (.int .i64) (.t 140))⟩,⟨(some 142),none,(.ar .add .i64 (.t 134) (.t 141))⟩,⟨(some 19),none,(.mv (.t 142))⟩])
 .skip))
 (.seq
 (.reg
 [⟨(some 143),none,(.mv (.t 11))⟩,⟨(some 144),none,(.mv (.t 19))⟩,⟨(some 145),none,(.bsl 145 ty_int 1 1 [(.int .i64 0)] [(0,(1,(.t 144)))])⟩,⟨(some 146),none,(.app 146 ty_int 1 8 (.t 143) (.t 145))⟩,⟨(some 11),none,(.mv (.t 146))⟩])
 (.reg
 [⟨(some 147),none,(.fa 3 (.t 4))⟩,⟨(some 148),none,(.ld .slc (.t 147))⟩,⟨(some 149),none,(.mv (.t 19))⟩,⟨(some 150),none,(.cmp .gtr .i64 (.t 149) (.c (.int .i64 0)))⟩,⟨(some 151),none,(.bsl 151 ty_bool 1 1 [(.bool false)] [(0,(1,(.t 150)))])⟩,⟨(some 152),none,(.app 152 ty_bool 1 1 (.t 148) (.t 151))⟩,⟨(some 153),none,(.fa 3 (.t 4))⟩,⟨none,none,(.st 1 (.t 153) (.t 152))⟩]))))))))))
 (.reg
 [⟨(some 58),none,(.mv (.t 12))⟩,⟨(some 59),none,(.ar .add .i64 (.t 58) (.c (.int .i64 1)))⟩,⟨(some 12),none,(.mv (.t 59))⟩]))))))
 (.seq
 (.reg
 [⟨(some 154),none,(.lda 4 [(.int .i64),.slc,.slc,.slc] (.t 4))⟩,⟨(some 155),none,(.mv (.t 11))⟩,⟨none,none,(.st 4 (.t 2) (.t 154))⟩,⟨(some 3),none,(.mv (.t 155))⟩])
 .ret))))))))))
def ts_P_literal_trie_machine : List (Nat × Tr) := [(20,(.mov 0 (.take 1 (.take 2 (.mov 3 (.mov 4 (.take 5 (.take 6 (.take 7 (.take 8 (.bar 9 .done)))))))))))]
set_option maxRecDepth 100000 in
set_option maxHeartbeats 4000000 in
theorem ok_P_literal_trie_machine : irOf Try.prog fn_P_literal_trie_machine [1000080,1000143] ts_P_literal_trie_machine = some (156,[(.c 2 4),(.t 3)],ir_P_literal_trie_machine) := by kernel_rfl
def ir_evergreentop_finds : C :=
 (.seq
 (.reg
 [⟨(some 0),none,(.mv (.c (.bool false)))⟩])
 (.seq
 (.reg
 [⟨(some 10),none,(.call fn_intern_New [(.c (.int .i64 100))])⟩,⟨(some 1),none,(.mv (.t 10))⟩])
 (.seq
 (.reg
 [⟨(some 12),none,(.mv (.t 1))⟩,⟨(some 13),none,(.bsl 13 ty_uint8 1 3 [(.int .u8 0),(.int .u8 0),(.int .u8 0)] [(0,(1,(.c (.int .u8 97)))),(1,(1,(.c (.int .u8 97)))),(2,(1,(.c (.int .u8 97))))])⟩,⟨(some 14),none,(.cvm (.t 13))⟩,⟨(some 15),none,(.call fn_balance_Text [(.t 12),(.t 14)])⟩,⟨(some 11),none,(.mv (.t 15))⟩,⟨(some 16),none,(.ext (.t 11) 0)⟩,⟨(some 17),none,(.ext (.t 11) 1)⟩,⟨(some 2),none,(.mv (.t 16))⟩,⟨(some 3),none,(.mv (.t 17))⟩])
 (.seq
 (.reg
 [⟨(some 19),none,(.bsl 19 ty_uint8 1 2 [(.int .u8 0),(.int .u8 0)] [(0,(1,(.c (.int .u8 97)))),(1,(1,(.c (.int .u8 97))))])⟩,⟨(some 20),none,(.cvm (.t 19))⟩,⟨(some 21),none,(.bsl 21 ty_Sl_uint8 1 1 [(.slice none 0 0)] [(0,(1,(.t 20)))])⟩,⟨(some 22),none,(.call fn_literal_Of [(.t 21)])⟩,⟨(some 18),none,(.mv (.t 22))⟩,⟨(some 23),none,(.ext (.t 18) 0)⟩,⟨(some 24),none,(.ext (.t 18) 1)⟩,⟨(some 25),none,(.ext (.t 18) 2)⟩,⟨(some 4),none,(.alc 4 ty_api_Machine [(.int .i64 0),(.slice none 0 0),(.slice none 0 0),(.slice none 0 0)])⟩,⟨none,none,(.st 4 (.t 4) (.t 23))⟩,⟨(some 5),none,(.mv (.t 24))⟩,⟨(some 6),none,(.mv (.t 25))⟩])
 (.seq
 (.seq
 (.reg
 [⟨(some 26),none,(.mv (.t 3))⟩,⟨(some 27),none,(.eqn .ifc true (.t 26))⟩,⟨(some 28),none,(.mv (.t 27))⟩,⟨(some 29),(some (28,false)),(.mv (.t 6))⟩,⟨(some 30),(some (28,false)),(.eqn .ifc true (.t 29))⟩,⟨(some 31),none,(.pick (.t 28) (.c (.bool true)) (.t 30))⟩])
 (.cond
 (.t 31)
 (.seq
 (.reg
 [⟨(some 0),none,(.mv (.c (.bool false)))⟩])
 .ret)
 .skip))
 (.seq
 (.reg
 [⟨(some 33),none,(.mv (.t 1))⟩,⟨(some 34),none,(.lda 4 [(.int .i64),.slc,.slc,.slc] (.t 4))⟩,⟨(some 35),none,(.mv (.t 5))⟩,⟨(some 36),none,(.call fn_transfer_New [(.t 33),(.t 34),(.t 35),(.c (.bool false))])⟩,⟨(some 32),none,(.mv (.t 36))⟩,⟨(some 37),none,(.ext (.t 32) 0)⟩,⟨(some 38),none,(.ext (.t 32) 1)⟩,⟨(some 7),none,(.mv (.t 37))⟩,⟨(some 8),none,(.mv (.t 38))⟩])
 (.seq
 (.seq
 (.reg
 [⟨(some 39),none,(.mv (.t 8))⟩,⟨(some 40),none,(.eqn .ifc true (.t 39))⟩])
 (.cond
 (.t 40)
 (.seq
 (.reg
 [⟨(some 0),none,(.mv (.c (.bool false)))⟩])
 .ret)
 .skip))
 (.seq
 (.reg
 [⟨(some 42),none,(.mv (.t 7))⟩,⟨(some 43),none,(.mv (.t 2))⟩,⟨(some 44),none,(.call fn_locate_Count [(.t 42),(.t 43),(.c (.int .i64 0)),(.c (.int .i64 3))])⟩,⟨(some 41),none,(.mv (.t 44))⟩,⟨(some 45),none,(.ext (.t 41) 0)⟩,⟨(some 46),none,(.ext (.t 41) 1)⟩,⟨(some 9),none,(.mv (.t 45))⟩,⟨(some 8),none,(.mv (.t 46))⟩])
 (.seq
 (.reg
 [⟨(some 47),none,(.mv (.t 8))⟩,⟨(some 48),none,(.eqn .ifc false (.t 47))⟩,⟨(some 49),none,(.mv (.t 48))⟩,⟨(some 50),(some (49,true)),(.mv (.t 9))⟩,⟨(some 51),(some (49,true)),(.cmp .eql .i64 (.t 50) (.c (.int .i64 2)))⟩,⟨(some 52),none,(.pick (.t 49) (.t 51) (.c (.bool false)))⟩,⟨(some 0),none,(.mv (.t 52))⟩])
 .ret)))))))))
def ts_evergreentop_finds : List (Nat × Tr) := []
set_option maxRecDepth 100000 in
set_option maxHeartbeats 4000000 in
theorem ok_evergreentop_finds : irOf Try.prog fn_evergreentop_finds [] ts_evergreentop_finds = some (53,[(.t 0)],ir_evergreentop_finds) := by kernel_rfl
def ir_evergreentop_greatly : C :=
 (.seq
 (.reg
 [⟨(some 4),none,(.mv (.c (.bool false)))⟩])
 (.seq
 (.reg
 [⟨(some 5),none,(.mv (.t 0))⟩,⟨(some 6),none,(.lens (.t 5))⟩,⟨(some 7),none,(.cmp .gtr .i64 (.t 6) (.c (.int .i64 0)))⟩,⟨(some 8),none,(.mv (.t 7))⟩,⟨(some 9),(some (8,true)),(.mv (.t 0))⟩,⟨(some 10),(some (8,true)),(.lens (.t 9))⟩,⟨(some 11),(some (8,true)),(.cmp .leq .i64 (.t 10) (.c (.int .i64 40)))⟩,⟨(some 12),none,(.pick (.t 8) (.t 11) (.c (.bool false)))⟩,⟨(some 13),none,(.mv (.t 12))⟩,⟨(some 14),(some (13,true)),(.mv (.t 1))⟩,⟨(some 15),(some (13,true)),(.cmp .geq .i64 (.t 14) (.c (.int .i64 1)))⟩,⟨(some 16),none,(.pick (.t 13) (.t 15) (.c (.bool false)))⟩,⟨(some 17),none,(.mv (.t 16))⟩,⟨(some 18),(some (17,true)),(.mv (.t 1))⟩,⟨(some 19),(some (17,true)),(.cmp .leq .i64 (.t 18) (.c (.int .i64 1125899906842624)))⟩,⟨(some 20),none,(.pick (.t 17) (.t 19) (.c (.bool false)))⟩,⟨(some 4),none,(.mv (.t 20))⟩])
 .ret))
def ts_evergreentop_greatly : List (Nat × Tr) := []
set_option maxRecDepth 100000 in
set_option maxHeartbeats 4000000 in
theorem ok_evergreentop_greatly : irOf Try.prog fn_evergreentop_greatly [] ts_evergreentop_greatly = some (21,[(.t 4)],ir_evergreentop_greatly) := by kernel_rfl
def ir_evergreentop_WholeNth : C :=
 (.seq
 (.reg
 [⟨(some 4),none,(.box 4 ty_2_int (.t 1))⟩,⟨(some 6),none,(.mv (.c (.bool false)))⟩])
 (.seq
 (.drw
 [⟨(some 29),none,(.iaa 1 2 (.t 4) (.c (.int .i64 0)))⟩,⟨(some 30),none,(.ld (.int .i64) (.t 29))⟩,⟨(some 31),none,(.iaa 1 2 (.t 4) (.c (.int .i64 1)))⟩,⟨(some 32),none,(.ld (.int .i64) (.t 31))⟩,⟨(some 7),none,(.mv (.t 30))⟩,⟨(some 8),none,(.mv (.t 32))⟩]
 (.take 0 (.take 1 (.take 2 (.take 3 (.mov 4 (.mov 5 .done)))))))
 (.seq
 (.seq
 (.reg
 [⟨(some 33),none,(.call fn_evergreentop_finds [])⟩,⟨(some 34),none,(.not (.t 33))⟩])
 (.cond
 (.t 34)
 (.seq
 (.reg
 [⟨(some 6),none,(.mv (.c (.bool false)))⟩])
 .ret)
 .skip))
 (.seq
 (.seq
 (.reg
 [⟨(some 35),none,(.mv (.t 0))⟩,⟨(some 36),none,(.mv (.t 7))⟩,⟨(some 37),none,(.call fn_evergreentop_greatly [(.t 35),(.t 36)])⟩,⟨(some 38),none,(.not (.t 37))⟩,⟨(some 39),none,(.mv (.t 38))⟩,⟨(some 40),(some (39,false)),(.mv (.t 7))⟩,⟨(some 41),(some (39,false)),(.cmp .gtr .i64 (.t 40) (.c (.int .i64 1099511627776)))⟩,⟨(some 42),none,(.pick (.t 39) (.c (.bool true)) (.t 41))⟩,⟨(some 43),none,(.mv (.t 42))⟩,⟨(some 44),(some (43,false)),(.mv (.t 2))⟩,⟨(some 45),(some (43,false)),(.lens (.t 44))⟩,⟨(some 46),(some (43,false)),(.cmp .gtr .i64 (.t 45) (.c (.int .i64 4)))⟩,⟨(some 47),none,(.pick (.t 43) (.c (.bool true)) (.t 46))⟩])
 (.cond
 (.t 47)
 (.seq
 (.reg
 [⟨(some 6),none,(.mv (.c (.bool true)))⟩])
 .ret)
 .skip))
 (.seq
 (.reg
 [⟨(some 49),none,(.mv (.t 2))⟩,⟨(some 50),none,(.call fn_literal_Of [(.t 49)])⟩,⟨(some 48),none,(.mv (.t 50))⟩,⟨(some 51),none,(.ext (.t 48) 0)⟩,⟨(some 52),none,(.ext (.t 48) 1)⟩,⟨(some 53),none,(.ext (.t 48) 2)⟩,⟨(some 9),none,(.alc 9 ty_api_Machine [(.int .i64 0),(.slice none 0 0),(.slice none 0 0),(.slice none 0 0)])⟩,⟨none,none,(.st 4 (.t 9) (.t 51))⟩,⟨(some 10),none,(.mv (.t 52))⟩,⟨(some 11),none,(.mv (.t 53))⟩])
 (.seq
 (.seq
 (.reg
 [⟨(some 54),none,(.mv (.t 11))⟩,⟨(some 55),none,(.eqn .ifc true (.t 54))⟩])
 (.cond
 (.t 55)
 (.seq
 (.reg
 [⟨(some 6),none,(.mv (.c (.bool true)))⟩])
 .ret)
 .skip))
 (.seq
 (.reg
 [⟨(some 56),none,(.call fn_intern_New [(.c (.int .i64 1048576))])⟩,⟨(some 12),none,(.mv (.t 56))⟩])
 (.seq
 (.reg
 [⟨(some 58),none,(.mv (.t 12))⟩,⟨(some 59),none,(.mv (.t 0))⟩,⟨(some 60),none,(.call fn_balance_Text [(.t 58),(.t 59)])⟩,⟨(some 57),none,(.mv (.t 60))⟩,⟨(some 61),none,(.ext (.t 57) 0)⟩,⟨(some 62),none,(.ext (.t 57) 1)⟩,⟨(some 13),none,(.mv (.t 61))⟩,⟨(some 14),none,(.mv (.t 62))⟩])
 (.seq
 (.reg
 [⟨(some 64),none,(.mv (.t 12))⟩,⟨(some 65),none,(.mv (.t 13))⟩,⟨(some 66),none,(.mv (.t 7))⟩,⟨(some 67),none,(.call fn_P_intern_Store_Power [(.t 64),(.t 65),(.t 66)])⟩,⟨(some 63),none,(.mv (.t 67))⟩,⟨(some 68),none,(.ext (.t 63) 0)⟩,⟨(some 69),none,(.ext (.t 63) 1)⟩,⟨(some 15),none,(.mv (.t 68))⟩,⟨(some 16),none,(.mv (.t 69))⟩])
 (.seq
 (.reg
 [⟨(some 71),none,(.mv (.t 12))⟩,⟨(some 72),none,(.lda 4 [(.int .i64),.slc,.slc,.slc] (.t 9))⟩,⟨(some 73),none,(.mv (.t 10))⟩,⟨(some 74),none,(.call fn_transfer_New [(.t 71),(.t 72),(.t 73),(.c (.bool false))])⟩,⟨(some 70),none,(.mv (.t 74))⟩,⟨(some 75),none,(.ext (.t 70) 0)⟩,⟨(some 76),none,(.ext (.t 70) 1)⟩,⟨(some 17),none,(.mv (.t 75))⟩,⟨(some 18),none,(.mv (.t 76))⟩])
 (.seq
 (.seq
 (.reg
 [⟨(some 77),none,(.mv (.t 14))⟩,⟨(some 78),none,(.eqn .ifc true (.t 77))⟩,⟨(some 79),none,(.mv (.t 78))⟩,⟨(some 80),(some (79,false)),(.mv (.t 16))⟩,⟨(some 81),(some (79,false)),(.eqn .ifc true (.t 80))⟩,⟨(some 82),none,(.pick (.t 79) (.c (.bool true)) (.t 81))⟩,⟨(some 83),none,(.mv (.t 82))⟩,⟨(some 84),(some (83,false)),(.mv (.t 18))⟩,⟨(some 85),(some (83,false)),(.eqn .ifc true (.t 84))⟩,⟨(some 86),none,(.pick (.t 83) (.c (.bool true)) (.t 85))⟩])
 (.cond
 (.t 86)
 (.seq
 (.reg
 [⟨(some 6),none,(.mv (.c (.bool false)))⟩])
 .ret)
 .skip))
 (.seq
 (.reg
 [⟨(some 87),none,(.mv (.t 7))⟩,⟨(some 88),none,(.mv (.t 0))⟩,⟨(some 89),none,(.lens (.t 88))⟩,⟨(some 90),none,(.ar .mul .i64 (.t 87) (.t 89))⟩,⟨(some 19),none,(.mv (.t 90))⟩])
 (.seq
 (.reg
 [⟨(some 92),none,(.mv (.t 17))⟩,⟨(some 93),none,(.mv (.t 15))⟩,⟨(some 94),none,(.mv (.t 19))⟩,⟨(some 95),none,(.call fn_locate_Count [(.t 92),(.t 93),(.c (.int .i64 0)),(.t 94)])⟩,⟨(some 91),none,(.mv (.t 95))⟩,⟨(some 96),none,(.ext (.t 91) 0)⟩,⟨(some 97),none,(.ext (.t 91) 1)⟩,⟨(some 20),none,(.mv (.t 96))⟩,⟨(some 11),none,(.mv (.t 97))⟩])
 (.seq
 (.seq
 (.reg
 [⟨(some 98),none,(.mv (.t 11))⟩,⟨(some 99),none,(.eqn .ifc true (.t 98))⟩])
 (.cond
 (.t 99)
 (.seq
 (.reg
 [⟨(some 6),none,(.mv (.c (.bool false)))⟩])
 .ret)
 .skip))
 (.seq
 (.seq
 (.reg
 [⟨(some 100),none,(.mv (.t 8))⟩,⟨(some 101),none,(.cmp .lss .i64 (.t 100) (.c (.int .i64 0)))⟩,⟨(some 102),none,(.mv (.t 101))⟩,⟨(some 103),(some (102,false)),(.mv (.t 8))⟩,⟨(some 104),(some (102,false)),(.mv (.t 20))⟩,⟨(some 105),(some (102,false)),(.cmp .geq .i64 (.t 103) (.t 104))⟩,⟨(some 106),none,(.pick (.t 102) (.c (.bool true)) (.t 105))⟩])
 (.cond
 (.t 106)
 (.seq
 (.reg
 [⟨(some 108),none,(.mv (.t 17))⟩,⟨(some 109),none,(.mv (.t 15))⟩,⟨(some 110),none,(.mv (.t 8))⟩,⟨(some 111),none,(.call fn_locate_Nth [(.t 108),(.t 109),(.t 110)])⟩,⟨(some 107),none,(.mv (.t 111))⟩,⟨(some 112),none,(.ext (.t 107) 0)⟩,⟨(some 113),none,(.ext (.t 107) 1)⟩,⟨(some 21),none,(.mv (.t 112))⟩,⟨(some 22),none,(.mv (.t 113))⟩])
 (.seq
 (.reg
 [⟨(some 114),none,(.mv (.t 22))⟩,⟨(some 115),none,(.eqn .ifc true (.t 114))⟩,⟨(some 6),none,(.mv (.t 115))⟩])
 .ret))
 .skip))
 (.seq
 (.reg
 [⟨(some 117),none,(.mv (.t 17))⟩,⟨(some 118),none,(.mv (.t 15))⟩,⟨(some 119),none,(.mv (.t 8))⟩,⟨(some 120),none,(.call fn_locate_Nth [(.t 117),(.t 118),(.t 119)])⟩,⟨(some 116),none,(.mv (.t 120))⟩,⟨(some 121),none,(.ext (.t 116) 0)⟩,⟨(some 122),none,(.ext (.t 116) 1)⟩,⟨(some 23),none,(.mv (.t 121))⟩,⟨(some 11),none,(.mv (.t 122))⟩])
 (.seq
 (.seq
 (.reg
 [⟨(some 123),none,(.mv (.t 11))⟩,⟨(some 124),none,(.eqn .ifc true (.t 123))⟩,⟨(some 125),none,(.mv (.t 124))⟩,⟨(some 126),(some (125,false)),(.mv (.t 23))⟩,⟨(some 127),(some (125,false)),(.cmp .lss .i64 (.t 126) (.c (.int .i64 1)))⟩,⟨(some 128),none,(.pick (.t 125) (.c (.bool true)) (.t 127))⟩,⟨(some 129),none,(.mv (.t 128))⟩,⟨(some 130),(some (129,false)),(.mv (.t 23))⟩,⟨(some 131),(some (129,false)),(.mv (.t 19))⟩,⟨(some 132),(some (129,false)),(.cmp .gtr .i64 (.t 130) (.t 131))⟩,⟨(some 133),none,(.pick (.t 129) (.c (.bool true)) (.t 132))⟩])
 (.cond
 (.t 133)
 (.seq
 (.reg
 [⟨(some 6),none,(.mv (.c (.bool false)))⟩])
 .ret)
 .skip))
 (.seq
 (.reg
 [⟨(some 135),none,(.mv (.t 17))⟩,⟨(some 136),none,(.mv (.t 15))⟩,⟨(some 137),none,(.mv (.t 23))⟩,⟨(some 138),none,(.call fn_locate_Count [(.t 135),(.t 136),(.c (.int .i64 0)),(.t 137)])⟩,⟨(some 134),none,(.mv (.t 138))⟩,⟨(some 139),none,(.ext (.t 134) 0)⟩,⟨(some 140),none,(.ext (.t 134) 1)⟩,⟨(some 24),none,(.mv (.t 139))⟩,⟨(some 14),none,(.mv (.t 140))⟩])
 (.seq
 (.reg
 [⟨(some 142),none,(.mv (.t 17))⟩,⟨(some 143),none,(.mv (.t 15))⟩,⟨(some 144),none,(.mv (.t 23))⟩,⟨(some 145),none,(.ar .sub .i64 (.t 144) (.c (.int .i64 1)))⟩,⟨(some 146),none,(.call fn_locate_Count [(.t 142),(.t 143),(.c (.int .i64 0)),(.t 145)])⟩,⟨(some 141),none,(.mv (.t 146))⟩,⟨(some 147),none,(.ext (.t 141) 0)⟩,⟨(some 148),none,(.ext (.t 141) 1)⟩,⟨(some 25),none,(.mv (.t 147))⟩,⟨(some 16),none,(.mv (.t 148))⟩])
 (.seq
 (.reg
 [⟨(some 150),none,(.mv (.t 17))⟩,⟨(some 151),none,(.mv (.t 15))⟩,⟨(some 152),none,(.mv (.t 23))⟩,⟨(some 153),none,(.ar .sub .i64 (.t 152) (.c (.int .i64 1)))⟩,⟨(some 154),none,(.call fn_locate_Next [(.t 150),(.t 151),(.t 153)])⟩,⟨(some 149),none,(.mv (.t 154))⟩,⟨(some 155),none,(.ext (.t 149) 0)⟩,⟨(some 156),none,(.ext (.t 149) 1)⟩,⟨(some 26),none,(.mv (.t 155))⟩,⟨(some 18),none,(.mv (.t 156))⟩])
 (.seq
 (.reg
 [⟨(some 158),none,(.mv (.t 17))⟩,⟨(some 159),none,(.mv (.t 15))⟩,⟨(some 160),none,(.mv (.t 23))⟩,⟨(some 161),none,(.call fn_locate_Prev [(.t 158),(.t 159),(.t 160)])⟩,⟨(some 157),none,(.mv (.t 161))⟩,⟨(some 162),none,(.ext (.t 157) 0)⟩,⟨(some 163),none,(.ext (.t 157) 1)⟩,⟨(some 27),none,(.mv (.t 162))⟩,⟨(some 28),none,(.mv (.t 163))⟩])
 (.seq
 (.reg
 [⟨(some 164),none,(.mv (.t 14))⟩,⟨(some 165),none,(.eqn .ifc false (.t 164))⟩,⟨(some 166),none,(.mv (.t 165))⟩,⟨(some 167),(some (166,true)),(.mv (.t 16))⟩,⟨(some 168),(some (166,true)),(.eqn .ifc false (.t 167))⟩,⟨(some 169),none,(.pick (.t 166) (.t 168) (.c (.bool false)))⟩,⟨(some 170),none,(.mv (.t 169))⟩,⟨(some 171),(some (170,true)),(.mv (.t 18))⟩,⟨(some 172),(some (170,true)),(.eqn .ifc false (.t 171))⟩,⟨(some 173),none,(.pick (.t 170) (.t 172) (.c (.bool false)))⟩,⟨(some 174),none,(.mv (.t 173))⟩,⟨(some 175),(some (174,true)),(.mv (.t 28))⟩,⟨(some 176),(some (174,true)),(.eqn .ifc false (.t 175))⟩,⟨(some 177),none,(.pick (.t 174) (.t 176) (.c (.bool false)))⟩,⟨(some 178),none,(.mv (.t 177))⟩,⟨(some 179),(some (178,true)),(.mv (.t 25))⟩,⟨(some 180),(some (178,true)),(.mv (.t 8))⟩,⟨(some 181),(some (178,true)),(.cmp .leq .i64 (.t 179) (.t 180))⟩,⟨(some 182),none,(.pick (.t 178) (.t 181) (.c (.bool false)))⟩,⟨(some 183),none,(.mv (.t 182))⟩,⟨(some 184),(some (183,true)),(.mv (.t 8))⟩,⟨(some 185),(some (183,true)),(.mv (.t 24))⟩,⟨(some 186),(some (183,true)),(.cmp .lss .i64 (.t 184) (.t 185))⟩,⟨(some 187),none,(.pick (.t 183) (.t 186) (.c (.bool false)))⟩,⟨(some 188),none,(.mv (.t 187))⟩,⟨(some 189),(some (188,true)),(.mv (.t 26))⟩,⟨(some 190),(some (188,true)),(.mv (.t 23))⟩,⟨(some 191),(some (188,true)),(.cmp .eql .i64 (.t 189) (.t 190))⟩,⟨(some 192),none,(.pick (.t 188) (.t 191) (.c (.bool false)))⟩,⟨(some 193),none,(.mv (.t 192))⟩,⟨(some 194),(some (193,true)),(.mv (.t 27))⟩,⟨(some 195),(some (193,true)),(.mv (.t 23))⟩,⟨(some 196),(some (193,true)),(.cmp .eql .i64 (.t 194) (.t 195))⟩,⟨(some 197),none,(.pick (.t 193) (.t 196) (.c (.bool false)))⟩,⟨(some 6),none,(.mv (.t 197))⟩])
 .ret))))))))))))))))))))))
def ts_evergreentop_WholeNth : List (Nat × Tr) := [(1,(.take 0 (.take 1 (.take 2 (.take 3 (.mov 4 (.mov 5 .done)))))))]
set_option maxRecDepth 100000 in
set_option maxHeartbeats 4000000 in
theorem ok_evergreentop_WholeNth : irOf Try.prog fn_evergreentop_WholeNth [] ts_evergreentop_WholeNth = some (198,[(.t 6)],ir_evergreentop_WholeNth) := by kernel_rfl
end Go.Proofs.Ytjmlialibdobpaa
