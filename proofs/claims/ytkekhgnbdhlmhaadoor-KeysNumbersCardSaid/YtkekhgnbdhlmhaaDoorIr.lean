/- The small forms of functions of the program, with the equations that say so: written by a program (irtool.py). No condition. -/
import Derived.Test.YtkekhgnbdhlmhaaDoorWalk
import Derived.Test.YtkekhgnbdhlmhaaDoorProg
namespace Go.Proofs.YtkekhgnbdhlmhaaDoor
open Go.EG
abbrev fn_evergreenlaw20_KeysFits : Nat := 3
abbrev fn_evergreenlaw20_KeysAfter : Nat := 4
abbrev fn_evergreenlaw20_KeysLeast : Nat := 5
abbrev fn_evergreenlaw20_KeysNumbers : Nat := 6
abbrev fn_evergreenlaw20_awake : Nat := 7
abbrev fn_keys_Fits : Nat := 8
abbrev fn_evergreenref20_Fits : Nat := 9
abbrev fn_keys_After : Nat := 10
abbrev fn_evergreenref20_After : Nat := 11
abbrev fn_keys_Number : Nat := 12
abbrev fn_evergreenref20_Number : Nat := 13
abbrev fn_keys_number : Nat := 14
abbrev fn_keys_after : Nat := 15
abbrev fn_keys_fitting : Nat := 16
abbrev fn_math_bits_TrailingZeros64 : Nat := 17
def ir_math_bits_TrailingZeros64 : C :=
 (.seq
 (.reg
 [⟨(some 2), none, (.mv (.c (.int .i64 0)))⟩])
 (.seq
 (.seq
 (.reg
 [⟨(some 3), none, (.mv (.t 0))⟩, ⟨(some 4), none, (.cmp .eql .u64 (.t 3) (.c (.int .u64 0)))⟩])
 (.cond
 (.t 4)
 (.seq
 (.reg
 [⟨(some 2), none, (.mv (.c (.int .i64 64)))⟩])
 .ret)
 .skip))
 (.seq
 (.reg
 [⟨(some 5), none, (.mv (.t 0))⟩, ⟨(some 6), none, (.mv (.t 0))⟩, ⟨(some 7), none, (.neg .u64 (.t 6))⟩, ⟨(some 8), none, (.bit .and .u64 (.t 5) (.t 7))⟩, ⟨(some 9), none, (.ar .mul .u64 (.t 8) (.c (.int .u64 285870213051353865)))⟩, ⟨(some 10), none, (.sh false .u64 (.t 9) (.c (.int .u64 58)))⟩, ⟨(some 11), none, (.iaa 1 64 (.g 0) (.t 10))⟩, ⟨(some 12), none, (.ld (.int .u8) (.t 11))⟩, ⟨(some 13), none, (.cv .i64 (.t 12))⟩, ⟨(some 2), none, (.mv (.t 13))⟩])
 .ret)))
def ts_math_bits_TrailingZeros64 : List (Nat × Tr) := []
set_option maxRecDepth 100000 in
set_option maxHeartbeats 4000000 in
theorem ok_math_bits_TrailingZeros64 : irOf Tryd.prog fn_math_bits_TrailingZeros64 [] ts_math_bits_TrailingZeros64 = some (14, [(.t 2)], ir_math_bits_TrailingZeros64) := by kernel_rfl
def ir_keys_Number : C :=
 (.seq
 (.reg
 [⟨(some 2), none, (.mv (.c (.int .i64 0)))⟩, ⟨(some 3), none, (.mv (.c (.int .u64 0)))⟩, ⟨(some 4), none, (.mv (.c (.bool false)))⟩])
 (.seq
 (.reg
 [⟨(some 8), none, (.mv (.t 0))⟩, ⟨(some 9), none, (.call fn_keys_number [(.t 8)])⟩, ⟨(some 7), none, (.mv (.t 9))⟩, ⟨(some 10), none, (.ext (.t 7) 0)⟩, ⟨(some 11), none, (.ext (.t 7) 1)⟩, ⟨(some 5), none, (.mv (.t 10))⟩, ⟨(some 6), none, (.mv (.t 11))⟩])
 (.seq
 (.blk
 0
 (.seq
 (.reg
 [⟨(some 13), none, (.mv (.t 6))⟩, ⟨(some 14), none, (.not (.t 13))⟩, ⟨(some 12), none, (.mv (.t 14))⟩])
 (.cond
 (.t 12)
 (.seq
 (.reg
 [⟨(some 2), none, (.mv (.c (.int .i64 0)))⟩, ⟨(some 3), none, (.mv (.c (.int .u64 0)))⟩, ⟨(some 4), none, (.mv (.c (.bool false)))⟩])
 .ret)
 (.seq
 (.reg
 [⟨(some 16), none, (.mv (.t 5))⟩, ⟨(some 17), none, (.cmp .eql .i64 (.t 16) (.c (.int .i64 122)))⟩, ⟨(some 15), none, (.mv (.t 17))⟩])
 (.cond
 (.t 15)
 (.seq
 (.reg
 [⟨(some 2), none, (.mv (.c (.int .i64 0)))⟩, ⟨(some 3), none, (.mv (.c (.int .u64 0)))⟩, ⟨(some 4), none, (.mv (.c (.bool true)))⟩])
 .ret)
 .skip)))))
 (.seq
 (.reg
 [⟨(some 18), none, (.mv (.t 5))⟩, ⟨(some 19), none, (.dv false .i64 (.t 18) (.c (.int .i64 2)))⟩, ⟨(some 20), none, (.mv (.t 5))⟩, ⟨(some 21), none, (.dv true .i64 (.t 20) (.c (.int .i64 2)))⟩, ⟨(some 22), none, (.cv .u64 (.t 21))⟩, ⟨(some 2), none, (.mv (.t 19))⟩, ⟨(some 3), none, (.mv (.t 22))⟩, ⟨(some 4), none, (.mv (.c (.bool false)))⟩])
 .ret))))
def ts_keys_Number : List (Nat × Tr) := []
set_option maxRecDepth 100000 in
set_option maxHeartbeats 4000000 in
theorem ok_keys_Number : irOf Tryd.prog fn_keys_Number [] ts_keys_Number = some (23, [(.t 2), (.t 3), (.t 4)], ir_keys_Number) := by kernel_rfl
def ir_keys_Fits : C :=
 (.seq
 (.reg
 [⟨(some 6), none, (.mv (.c (.bool false)))⟩])
 (.seq
 (.reg
 [⟨(some 12), none, (.mv (.t 2))⟩, ⟨(some 13), none, (.call fn_keys_number [(.t 12)])⟩, ⟨(some 11), none, (.mv (.t 13))⟩, ⟨(some 14), none, (.ext (.t 11) 0)⟩, ⟨(some 15), none, (.ext (.t 11) 1)⟩, ⟨(some 7), none, (.mv (.t 14))⟩, ⟨(some 8), none, (.mv (.t 15))⟩])
 (.seq
 (.seq
 (.reg
 [⟨(some 16), none, (.mv (.t 8))⟩, ⟨(some 17), none, (.not (.t 16))⟩])
 (.cond
 (.t 17)
 (.seq
 (.reg
 [⟨(some 6), none, (.mv (.c (.bool false)))⟩])
 .ret)
 .skip))
 (.seq
 (.seq
 (.reg
 [⟨(some 18), none, (.mv (.t 7))⟩, ⟨(some 19), none, (.cmp .eql .i64 (.t 18) (.c (.int .i64 122)))⟩])
 (.cond
 (.t 19)
 (.seq
 (.reg
 [⟨(some 20), none, (.mv (.t 0))⟩, ⟨(some 21), none, (.mv (.t 1))⟩, ⟨(some 22), none, (.cmp .eql .u64 (.t 20) (.t 21))⟩, ⟨(some 6), none, (.mv (.t 22))⟩])
 .ret)
 .skip))
 (.seq
 (.reg
 [⟨(some 23), none, (.mv (.t 7))⟩, ⟨(some 24), none, (.dv false .i64 (.t 23) (.c (.int .i64 2)))⟩, ⟨(some 25), none, (.mv (.t 7))⟩, ⟨(some 26), none, (.dv true .i64 (.t 25) (.c (.int .i64 2)))⟩, ⟨(some 27), none, (.cv .u64 (.t 26))⟩, ⟨(some 9), none, (.mv (.t 24))⟩, ⟨(some 10), none, (.mv (.t 27))⟩])
 (.seq
 (.reg
 [⟨(some 28), none, (.mv (.t 0))⟩, ⟨(some 29), none, (.mv (.t 9))⟩, ⟨(some 30), none, (.sh false .u64 (.t 28) (.t 29))⟩, ⟨(some 31), none, (.bit .and .u64 (.t 30) (.c (.int .u64 1)))⟩, ⟨(some 32), none, (.mv (.t 10))⟩, ⟨(some 33), none, (.cmp .eql .u64 (.t 31) (.t 32))⟩, ⟨(some 34), none, (.mv (.t 33))⟩, ⟨(some 35), (some (34, true)), (.mv (.t 1))⟩, ⟨(some 36), (some (34, true)), (.mv (.t 9))⟩, ⟨(some 37), (some (34, true)), (.sh false .u64 (.t 35) (.t 36))⟩, ⟨(some 38), (some (34, true)), (.bit .and .u64 (.t 37) (.c (.int .u64 1)))⟩, ⟨(some 39), (some (34, true)), (.mv (.t 10))⟩, ⟨(some 40), (some (34, true)), (.ar .sub .u64 (.c (.int .u64 1)) (.t 39))⟩, ⟨(some 41), (some (34, true)), (.cmp .eql .u64 (.t 38) (.t 40))⟩, ⟨(some 42), none, (.pick (.t 34) (.t 41) (.c (.bool false)))⟩, ⟨(some 6), none, (.mv (.t 42))⟩])
 .ret))))))
def ts_keys_Fits : List (Nat × Tr) := []
set_option maxRecDepth 100000 in
set_option maxHeartbeats 4000000 in
theorem ok_keys_Fits : irOf Tryd.prog fn_keys_Fits [] ts_keys_Fits = some (43, [(.t 6)], ir_keys_Fits) := by kernel_rfl
def ir_keys_number : C :=
 (.seq
 (.reg
 [⟨(some 2), none, (.mv (.c (.int .i64 0)))⟩, ⟨(some 3), none, (.mv (.c (.bool false)))⟩])
 (.seq
 (.seq
 (.reg
 [⟨(some 4), none, (.mv (.t 0))⟩, ⟨(some 5), none, (.cmp .lss .i64 (.t 4) (.c (.int .i64 2)))⟩, ⟨(some 6), none, (.mv (.t 5))⟩, ⟨(some 7), (some (6, false)), (.mv (.t 0))⟩, ⟨(some 8), (some (6, false)), (.dv true .i64 (.t 7) (.c (.int .i64 2)))⟩, ⟨(some 9), (some (6, false)), (.cmp .neq .i64 (.t 8) (.c (.int .i64 0)))⟩, ⟨(some 10), none, (.pick (.t 6) (.c (.bool true)) (.t 9))⟩])
 (.cond
 (.t 10)
 (.seq
 (.reg
 [⟨(some 2), none, (.mv (.c (.int .i64 0)))⟩, ⟨(some 3), none, (.mv (.c (.bool false)))⟩])
 .ret)
 .skip))
 (.seq
 (.reg
 [⟨(some 11), none, (.mv (.t 0))⟩, ⟨(some 12), none, (.dv false .i64 (.t 11) (.c (.int .i64 2)))⟩, ⟨(some 13), none, (.ar .sub .i64 (.t 12) (.c (.int .i64 1)))⟩, ⟨(some 14), none, (.dv true .i64 (.t 13) (.c (.int .i64 123)))⟩, ⟨(some 2), none, (.mv (.t 14))⟩, ⟨(some 3), none, (.mv (.c (.bool true)))⟩])
 .ret)))
def ts_keys_number : List (Nat × Tr) := []
set_option maxRecDepth 100000 in
set_option maxHeartbeats 4000000 in
theorem ok_keys_number : irOf Tryd.prog fn_keys_number [] ts_keys_number = some (15, [(.t 2), (.t 3)], ir_keys_number) := by kernel_rfl
def ir_keys_After : C :=
 (.seq
 (.reg
 [⟨(some 6), none, (.mv (.c (.int .i64 0)))⟩])
 (.seq
 (.seq
 (.reg
 [⟨(some 7), none, (.mv (.t 0))⟩, ⟨(some 8), none, (.cmp .gtr .i64 (.t 7) (.c (.int .i64 1048576)))⟩])
 (.cond
 (.t 8)
 (.seq
 (.reg
 [⟨(some 6), none, (.mv (.c (.int .i64 0)))⟩])
 .ret)
 .skip))
 (.seq
 (.reg
 [⟨(some 9), none, (.mv (.t 0))⟩, ⟨(some 10), none, (.mm true .i64 (.t 9) (.c (.int .i64 0)))⟩, ⟨(some 11), none, (.mv (.t 1))⟩, ⟨(some 12), none, (.mv (.t 2))⟩, ⟨(some 13), none, (.call fn_keys_after [(.t 10), (.t 11), (.t 12)])⟩, ⟨(some 6), none, (.mv (.t 13))⟩])
 .ret)))
def ts_keys_After : List (Nat × Tr) := []
set_option maxRecDepth 100000 in
set_option maxHeartbeats 4000000 in
theorem ok_keys_After : irOf Tryd.prog fn_keys_After [] ts_keys_After = some (14, [(.t 6)], ir_keys_After) := by kernel_rfl
def ir_keys_after : C :=
 (.seq
 (.reg
 [⟨(some 6), none, (.mv (.c (.int .i64 0)))⟩])
 (.seq
 (.reg
 [⟨(some 11), none, (.mv (.t 0))⟩, ⟨(some 12), none, (.dv false .i64 (.t 11) (.c (.int .i64 2)))⟩, ⟨(some 13), none, (.ar .add .i64 (.t 12) (.c (.int .i64 1)))⟩, ⟨(some 7), none, (.mv (.t 13))⟩])
 (.seq
 (.reg
 [⟨(some 14), none, (.mv (.t 7))⟩, ⟨(some 15), none, (.ar .sub .i64 (.t 14) (.c (.int .i64 1)))⟩, ⟨(some 16), none, (.dv true .i64 (.t 15) (.c (.int .i64 123)))⟩, ⟨(some 8), none, (.mv (.t 16))⟩])
 (.seq
 (.seq
 (.reg
 [⟨(some 17), none, (.mv (.t 8))⟩, ⟨(some 18), none, (.mv (.t 1))⟩, ⟨(some 19), none, (.mv (.t 2))⟩, ⟨(some 20), none, (.call fn_keys_fitting [(.t 17), (.t 18), (.t 19)])⟩, ⟨(some 9), none, (.mv (.t 20))⟩])
 (.seq
 (.reg
 [⟨(some 21), none, (.mv (.t 9))⟩, ⟨(some 22), none, (.cmp .geq .i64 (.t 21) (.c (.int .i64 0)))⟩])
 (.cond
 (.t 22)
 (.seq
 (.reg
 [⟨(some 23), none, (.mv (.t 7))⟩, ⟨(some 24), none, (.mv (.t 9))⟩, ⟨(some 25), none, (.ar .add .i64 (.t 23) (.t 24))⟩, ⟨(some 26), none, (.mv (.t 8))⟩, ⟨(some 27), none, (.ar .sub .i64 (.t 25) (.t 26))⟩, ⟨(some 28), none, (.ar .mul .i64 (.c (.int .i64 2)) (.t 27))⟩, ⟨(some 6), none, (.mv (.t 28))⟩])
 .ret)
 .skip)))
 (.seq
 (.seq
 (.reg
 [⟨(some 29), none, (.mv (.t 1))⟩, ⟨(some 30), none, (.mv (.t 2))⟩, ⟨(some 31), none, (.call fn_keys_fitting [(.c (.int .i64 0)), (.t 29), (.t 30)])⟩, ⟨(some 10), none, (.mv (.t 31))⟩])
 (.seq
 (.reg
 [⟨(some 32), none, (.mv (.t 10))⟩, ⟨(some 33), none, (.cmp .geq .i64 (.t 32) (.c (.int .i64 0)))⟩])
 (.cond
 (.t 33)
 (.seq
 (.reg
 [⟨(some 34), none, (.mv (.t 7))⟩, ⟨(some 35), none, (.mv (.t 10))⟩, ⟨(some 36), none, (.ar .add .i64 (.t 34) (.t 35))⟩, ⟨(some 37), none, (.mv (.t 8))⟩, ⟨(some 38), none, (.ar .sub .i64 (.t 36) (.t 37))⟩, ⟨(some 39), none, (.ar .add .i64 (.t 38) (.c (.int .i64 123)))⟩, ⟨(some 40), none, (.ar .mul .i64 (.c (.int .i64 2)) (.t 39))⟩, ⟨(some 6), none, (.mv (.t 40))⟩])
 .ret)
 .skip)))
 (.seq
 (.reg
 [⟨(some 6), none, (.mv (.c (.int .i64 0)))⟩])
 .ret))))))
def ts_keys_after : List (Nat × Tr) := []
set_option maxRecDepth 100000 in
set_option maxHeartbeats 4000000 in
theorem ok_keys_after : irOf Tryd.prog fn_keys_after [] ts_keys_after = some (41, [(.t 6)], ir_keys_after) := by kernel_rfl
def ir_keys_fitting : C :=
 (.seq
 (.reg
 [⟨(some 6), none, (.mv (.c (.int .i64 0)))⟩])
 (.seq
 (.seq
 (.reg
 [⟨(some 9), none, (.mv (.t 1))⟩, ⟨(some 10), none, (.mv (.t 2))⟩, ⟨(some 11), none, (.cmp .eql .u64 (.t 9) (.t 10))⟩])
 (.cond
 (.t 11)
 (.seq
 (.reg
 [⟨(some 6), none, (.mv (.c (.int .i64 122)))⟩])
 .ret)
 .skip))
 (.seq
 (.seq
 (.reg
 [⟨(some 12), none, (.mv (.t 0))⟩, ⟨(some 13), none, (.cmp .eql .i64 (.t 12) (.c (.int .i64 122)))⟩])
 (.cond
 (.t 13)
 (.seq
 (.reg
 [⟨(some 6), none, (.mv (.c (.int .i64 (-1))))⟩])
 .ret)
 .skip))
 (.seq
 (.reg
 [⟨(some 14), none, (.mv (.t 1))⟩, ⟨(some 15), none, (.mv (.t 2))⟩, ⟨(some 16), none, (.bit .xor .u64 (.t 14) (.t 15))⟩, ⟨(some 17), none, (.bit .and .u64 (.t 16) (.c (.int .u64 2305843009213693951)))⟩, ⟨(some 18), none, (.mv (.t 0))⟩, ⟨(some 19), none, (.dv false .i64 (.t 18) (.c (.int .i64 2)))⟩, ⟨(some 20), none, (.sh false .u64 (.t 17) (.t 19))⟩, ⟨(some 21), none, (.mv (.t 0))⟩, ⟨(some 22), none, (.dv false .i64 (.t 21) (.c (.int .i64 2)))⟩, ⟨(some 23), none, (.sh true .u64 (.t 20) (.t 22))⟩, ⟨(some 7), none, (.mv (.t 23))⟩])
 (.seq
 (.seq
 (.reg
 [⟨(some 24), none, (.mv (.t 0))⟩, ⟨(some 25), none, (.dv true .i64 (.t 24) (.c (.int .i64 2)))⟩, ⟨(some 26), none, (.cmp .eql .i64 (.t 25) (.c (.int .i64 1)))⟩, ⟨(some 27), none, (.mv (.t 26))⟩, ⟨(some 28), (some (27, true)), (.mv (.t 1))⟩, ⟨(some 29), (some (27, true)), (.mv (.t 0))⟩, ⟨(some 30), (some (27, true)), (.dv false .i64 (.t 29) (.c (.int .i64 2)))⟩, ⟨(some 31), (some (27, true)), (.sh false .u64 (.t 28) (.t 30))⟩, ⟨(some 32), (some (27, true)), (.bit .and .u64 (.t 31) (.c (.int .u64 1)))⟩, ⟨(some 33), (some (27, true)), (.cmp .eql .u64 (.t 32) (.c (.int .u64 0)))⟩, ⟨(some 34), none, (.pick (.t 27) (.t 33) (.c (.bool false)))⟩])
 (.cond
 (.t 34)
 (.reg
 [⟨(some 35), none, (.mv (.t 7))⟩, ⟨(some 36), none, (.mv (.t 0))⟩, ⟨(some 37), none, (.dv false .i64 (.t 36) (.c (.int .i64 2)))⟩, ⟨(some 38), none, (.sh true .u64 (.c (.int .u64 1)) (.t 37))⟩, ⟨(some 39), none, (.bit .andNot .u64 (.t 35) (.t 38))⟩, ⟨(some 7), none, (.mv (.t 39))⟩])
 .skip))
 (.seq
 (.seq
 (.reg
 [⟨(some 40), none, (.mv (.t 7))⟩, ⟨(some 41), none, (.cmp .eql .u64 (.t 40) (.c (.int .u64 0)))⟩])
 (.cond
 (.t 41)
 (.seq
 (.reg
 [⟨(some 6), none, (.mv (.c (.int .i64 (-1))))⟩])
 .ret)
 .skip))
 (.seq
 (.reg
 [⟨(some 42), none, (.mv (.t 7))⟩, ⟨(some 43), none, (.call fn_math_bits_TrailingZeros64 [(.t 42)])⟩, ⟨(some 8), none, (.mv (.t 43))⟩])
 (.seq
 (.reg
 [⟨(some 44), none, (.mv (.t 8))⟩, ⟨(some 45), none, (.ar .mul .i64 (.c (.int .i64 2)) (.t 44))⟩, ⟨(some 46), none, (.mv (.t 1))⟩, ⟨(some 47), none, (.mv (.t 8))⟩, ⟨(some 48), none, (.sh false .u64 (.t 46) (.t 47))⟩, ⟨(some 49), none, (.bit .and .u64 (.t 48) (.c (.int .u64 1)))⟩, ⟨(some 50), none, (.cv .i64 (.t 49))⟩, ⟨(some 51), none, (.ar .add .i64 (.t 45) (.t 50))⟩, ⟨(some 6), none, (.mv (.t 51))⟩])
 .ret))))))))
def ts_keys_fitting : List (Nat × Tr) := []
set_option maxRecDepth 100000 in
set_option maxHeartbeats 4000000 in
theorem ok_keys_fitting : irOf Tryd.prog fn_keys_fitting [] ts_keys_fitting = some (52, [(.t 6)], ir_keys_fitting) := by kernel_rfl
def ir_evergreenref20_Number : C :=
 (.seq
 (.reg
 [⟨(some 2), none, (.mv (.c (.int .i64 0)))⟩, ⟨(some 3), none, (.mv (.c (.int .u64 0)))⟩, ⟨(some 4), none, (.mv (.c (.bool false)))⟩])
 (.seq
 (.seq
 (.reg
 [⟨(some 6), none, (.mv (.t 0))⟩, ⟨(some 7), none, (.cmp .lss .i64 (.t 6) (.c (.int .i64 2)))⟩, ⟨(some 8), none, (.mv (.t 7))⟩, ⟨(some 9), (some (8, false)), (.mv (.t 0))⟩, ⟨(some 10), (some (8, false)), (.dv true .i64 (.t 9) (.c (.int .i64 2)))⟩, ⟨(some 11), (some (8, false)), (.cmp .neq .i64 (.t 10) (.c (.int .i64 0)))⟩, ⟨(some 12), none, (.pick (.t 8) (.c (.bool true)) (.t 11))⟩])
 (.cond
 (.t 12)
 (.seq
 (.reg
 [⟨(some 2), none, (.mv (.c (.int .i64 (-1))))⟩, ⟨(some 3), none, (.mv (.c (.int .u64 0)))⟩, ⟨(some 4), none, (.mv (.c (.bool false)))⟩])
 .ret)
 .skip))
 (.seq
 (.reg
 [⟨(some 13), none, (.mv (.t 0))⟩, ⟨(some 14), none, (.dv false .i64 (.t 13) (.c (.int .i64 2)))⟩, ⟨(some 15), none, (.ar .sub .i64 (.t 14) (.c (.int .i64 1)))⟩, ⟨(some 16), none, (.dv true .i64 (.t 15) (.c (.int .i64 123)))⟩, ⟨(some 5), none, (.mv (.t 16))⟩])
 (.seq
 (.seq
 (.reg
 [⟨(some 17), none, (.mv (.t 5))⟩, ⟨(some 18), none, (.cmp .eql .i64 (.t 17) (.c (.int .i64 122)))⟩])
 (.cond
 (.t 18)
 (.seq
 (.reg
 [⟨(some 2), none, (.mv (.c (.int .i64 0)))⟩, ⟨(some 3), none, (.mv (.c (.int .u64 0)))⟩, ⟨(some 4), none, (.mv (.c (.bool true)))⟩])
 .ret)
 .skip))
 (.seq
 (.reg
 [⟨(some 19), none, (.mv (.t 5))⟩, ⟨(some 20), none, (.dv false .i64 (.t 19) (.c (.int .i64 2)))⟩, ⟨(some 21), none, (.mv (.t 5))⟩, ⟨(some 22), none, (.dv true .i64 (.t 21) (.c (.int .i64 2)))⟩, ⟨(some 23), none, (.cv .u64 (.t 22))⟩, ⟨(some 2), none, (.mv (.t 20))⟩, ⟨(some 3), none, (.mv (.t 23))⟩, ⟨(some 4), none, (.mv (.c (.bool false)))⟩])
 .ret)))))
def ts_evergreenref20_Number : List (Nat × Tr) := []
set_option maxRecDepth 100000 in
set_option maxHeartbeats 4000000 in
theorem ok_evergreenref20_Number : irOf Tryd.prog fn_evergreenref20_Number [] ts_evergreenref20_Number = some (24, [(.t 2), (.t 3), (.t 4)], ir_evergreenref20_Number) := by kernel_rfl
def ir_evergreenref20_Fits : C :=
 (.seq
 (.reg
 [⟨(some 6), none, (.mv (.c (.bool false)))⟩])
 (.seq
 (.reg
 [⟨(some 11), none, (.mv (.t 2))⟩, ⟨(some 12), none, (.call fn_evergreenref20_Number [(.t 11)])⟩, ⟨(some 10), none, (.mv (.t 12))⟩, ⟨(some 13), none, (.ext (.t 10) 0)⟩, ⟨(some 14), none, (.ext (.t 10) 1)⟩, ⟨(some 15), none, (.ext (.t 10) 2)⟩, ⟨(some 7), none, (.mv (.t 13))⟩, ⟨(some 8), none, (.mv (.t 14))⟩, ⟨(some 9), none, (.mv (.t 15))⟩])
 (.seq
 (.seq
 (.reg
 [⟨(some 16), none, (.mv (.t 7))⟩, ⟨(some 17), none, (.cmp .lss .i64 (.t 16) (.c (.int .i64 0)))⟩])
 (.cond
 (.t 17)
 (.seq
 (.reg
 [⟨(some 6), none, (.mv (.c (.bool false)))⟩])
 .ret)
 .skip))
 (.seq
 (.seq
 (.reg
 [⟨(some 18), none, (.mv (.t 9))⟩])
 (.cond
 (.t 18)
 (.seq
 (.reg
 [⟨(some 19), none, (.mv (.t 0))⟩, ⟨(some 20), none, (.mv (.t 1))⟩, ⟨(some 21), none, (.cmp .eql .u64 (.t 19) (.t 20))⟩, ⟨(some 6), none, (.mv (.t 21))⟩])
 .ret)
 .skip))
 (.seq
 (.reg
 [⟨(some 22), none, (.mv (.t 0))⟩, ⟨(some 23), none, (.mv (.t 7))⟩, ⟨(some 24), none, (.sh false .u64 (.t 22) (.t 23))⟩, ⟨(some 25), none, (.bit .and .u64 (.t 24) (.c (.int .u64 1)))⟩, ⟨(some 26), none, (.mv (.t 8))⟩, ⟨(some 27), none, (.cmp .eql .u64 (.t 25) (.t 26))⟩, ⟨(some 28), none, (.mv (.t 27))⟩, ⟨(some 29), (some (28, true)), (.mv (.t 1))⟩, ⟨(some 30), (some (28, true)), (.mv (.t 7))⟩, ⟨(some 31), (some (28, true)), (.sh false .u64 (.t 29) (.t 30))⟩, ⟨(some 32), (some (28, true)), (.bit .and .u64 (.t 31) (.c (.int .u64 1)))⟩, ⟨(some 33), (some (28, true)), (.mv (.t 8))⟩, ⟨(some 34), (some (28, true)), (.ar .sub .u64 (.c (.int .u64 1)) (.t 33))⟩, ⟨(some 35), (some (28, true)), (.cmp .eql .u64 (.t 32) (.t 34))⟩, ⟨(some 36), none, (.pick (.t 28) (.t 35) (.c (.bool false)))⟩, ⟨(some 6), none, (.mv (.t 36))⟩])
 .ret)))))
def ts_evergreenref20_Fits : List (Nat × Tr) := []
set_option maxRecDepth 100000 in
set_option maxHeartbeats 4000000 in
theorem ok_evergreenref20_Fits : irOf Tryd.prog fn_evergreenref20_Fits [] ts_evergreenref20_Fits = some (37, [(.t 6)], ir_evergreenref20_Fits) := by kernel_rfl
def ir_evergreenref20_After : C :=
 (.seq
 (.reg
 [⟨(some 6), none, (.mv (.c (.int .i64 0)))⟩])
 (.seq
 (.seq
 (.reg
 [⟨(some 7), none, (.mv (.c (.int .i64 1)))⟩])
 (.blk
 0
 (.loop
 (.seq
 (.seq
 (.reg
 [⟨(some 8), none, (.mv (.t 7))⟩, ⟨(some 9), none, (.cmp .leq .i64 (.t 8) (.c (.int .i64 246)))⟩])
 (.cond
 (.t 9)
 .skip
 (.exit 0)))
 (.seq
 (.blk
 1
 (.seq
 (.reg
 [⟨(some 12), none, (.mv (.t 1))⟩, ⟨(some 13), none, (.mv (.t 2))⟩, ⟨(some 14), none, (.mv (.t 0))⟩, ⟨(some 15), none, (.mv (.t 7))⟩, ⟨(some 16), none, (.ar .add .i64 (.t 14) (.t 15))⟩, ⟨(some 17), none, (.call fn_evergreenref20_Fits [(.t 12), (.t 13), (.t 16)])⟩])
 (.cond
 (.t 17)
 (.seq
 (.reg
 [⟨(some 18), none, (.mv (.t 0))⟩, ⟨(some 19), none, (.mv (.t 7))⟩, ⟨(some 20), none, (.ar .add .i64 (.t 18) (.t 19))⟩, ⟨(some 6), none, (.mv (.t 20))⟩])
 .ret)
 .skip)))
 (.reg
 [⟨(some 10), none, (.mv (.t 7))⟩, ⟨(some 11), none, (.ar .add .i64 (.t 10) (.c (.int .i64 1)))⟩, ⟨(some 7), none, (.mv (.t 11))⟩]))))))
 (.seq
 (.reg
 [⟨(some 6), none, (.mv (.c (.int .i64 0)))⟩])
 .ret)))
def ts_evergreenref20_After : List (Nat × Tr) := []
set_option maxRecDepth 100000 in
set_option maxHeartbeats 4000000 in
theorem ok_evergreenref20_After : irOf Tryd.prog fn_evergreenref20_After [] ts_evergreenref20_After = some (21, [(.t 6)], ir_evergreenref20_After) := by kernel_rfl
def ir_evergreenlaw20_awake : C :=
 (.seq
 (.reg
 [⟨(some 0), none, (.mv (.c (.bool false)))⟩])
 (.seq
 (.reg
 [⟨(some 1), none, (.call fn_keys_After [(.c (.int .i64 0)), (.c (.int .u64 1)), (.c (.int .u64 2))])⟩, ⟨(some 2), none, (.cmp .eql .i64 (.t 1) (.c (.int .i64 4)))⟩, ⟨(some 3), none, (.mv (.t 2))⟩, ⟨(some 4), (some (3, true)), (.call fn_keys_Fits [(.c (.int .u64 2)), (.c (.int .u64 1)), (.c (.int .i64 2))])⟩, ⟨(some 5), none, (.pick (.t 3) (.t 4) (.c (.bool false)))⟩, ⟨(some 0), none, (.mv (.t 5))⟩])
 .ret))
def ts_evergreenlaw20_awake : List (Nat × Tr) := []
set_option maxRecDepth 100000 in
set_option maxHeartbeats 4000000 in
theorem ok_evergreenlaw20_awake : irOf Tryd.prog fn_evergreenlaw20_awake [] ts_evergreenlaw20_awake = some (6, [(.t 0)], ir_evergreenlaw20_awake) := by kernel_rfl
def ir_evergreenlaw20_KeysFits : C :=
 (.seq
 (.reg
 [⟨(some 6), none, (.mv (.c (.bool false)))⟩])
 (.seq
 (.reg
 [⟨(some 7), none, (.call fn_evergreenlaw20_awake [])⟩, ⟨(some 8), none, (.mv (.t 7))⟩, ⟨(some 9), (some (8, true)), (.mv (.t 0))⟩, ⟨(some 10), (some (8, true)), (.mv (.t 1))⟩, ⟨(some 11), (some (8, true)), (.mv (.t 2))⟩, ⟨(some 12), (some (8, true)), (.call fn_keys_Fits [(.t 9), (.t 10), (.t 11)])⟩, ⟨(some 13), (some (8, true)), (.mv (.t 0))⟩, ⟨(some 14), (some (8, true)), (.mv (.t 1))⟩, ⟨(some 15), (some (8, true)), (.mv (.t 2))⟩, ⟨(some 16), (some (8, true)), (.call fn_evergreenref20_Fits [(.t 13), (.t 14), (.t 15)])⟩, ⟨(some 17), (some (8, true)), (.eqb false (.t 12) (.t 16))⟩, ⟨(some 18), none, (.pick (.t 8) (.t 17) (.c (.bool false)))⟩, ⟨(some 6), none, (.mv (.t 18))⟩])
 .ret))
def ts_evergreenlaw20_KeysFits : List (Nat × Tr) := []
set_option maxRecDepth 100000 in
set_option maxHeartbeats 4000000 in
theorem ok_evergreenlaw20_KeysFits : irOf Tryd.prog fn_evergreenlaw20_KeysFits [] ts_evergreenlaw20_KeysFits = some (19, [(.t 6)], ir_evergreenlaw20_KeysFits) := by kernel_rfl
def ir_evergreenlaw20_KeysAfter : C :=
 (.seq
 (.reg
 [⟨(some 6), none, (.mv (.c (.bool false)))⟩])
 (.seq
 (.reg
 [⟨(some 8), none, (.mv (.t 0))⟩, ⟨(some 9), none, (.mv (.t 1))⟩, ⟨(some 10), none, (.mv (.t 2))⟩, ⟨(some 11), none, (.call fn_keys_After [(.t 8), (.t 9), (.t 10)])⟩, ⟨(some 7), none, (.mv (.t 11))⟩])
 (.seq
 (.seq
 (.reg
 [⟨(some 12), none, (.mv (.t 0))⟩, ⟨(some 13), none, (.cmp .gtr .i64 (.t 12) (.c (.int .i64 1048576)))⟩])
 (.cond
 (.t 13)
 (.seq
 (.reg
 [⟨(some 14), none, (.call fn_evergreenlaw20_awake [])⟩, ⟨(some 15), none, (.mv (.t 14))⟩, ⟨(some 16), (some (15, true)), (.mv (.t 7))⟩, ⟨(some 17), (some (15, true)), (.cmp .eql .i64 (.t 16) (.c (.int .i64 0)))⟩, ⟨(some 18), none, (.pick (.t 15) (.t 17) (.c (.bool false)))⟩, ⟨(some 6), none, (.mv (.t 18))⟩])
 .ret)
 .skip))
 (.seq
 (.reg
 [⟨(some 19), none, (.call fn_evergreenlaw20_awake [])⟩, ⟨(some 20), none, (.mv (.t 19))⟩, ⟨(some 21), (some (20, true)), (.mv (.t 7))⟩, ⟨(some 22), (some (20, true)), (.mv (.t 0))⟩, ⟨(some 23), (some (20, true)), (.mm true .i64 (.t 22) (.c (.int .i64 0)))⟩, ⟨(some 24), (some (20, true)), (.mv (.t 1))⟩, ⟨(some 25), (some (20, true)), (.mv (.t 2))⟩, ⟨(some 26), (some (20, true)), (.call fn_evergreenref20_After [(.t 23), (.t 24), (.t 25)])⟩, ⟨(some 27), (some (20, true)), (.cmp .eql .i64 (.t 21) (.t 26))⟩, ⟨(some 28), none, (.pick (.t 20) (.t 27) (.c (.bool false)))⟩, ⟨(some 6), none, (.mv (.t 28))⟩])
 .ret))))
def ts_evergreenlaw20_KeysAfter : List (Nat × Tr) := []
set_option maxRecDepth 100000 in
set_option maxHeartbeats 4000000 in
theorem ok_evergreenlaw20_KeysAfter : irOf Tryd.prog fn_evergreenlaw20_KeysAfter [] ts_evergreenlaw20_KeysAfter = some (29, [(.t 6)], ir_evergreenlaw20_KeysAfter) := by kernel_rfl
def ir_evergreenlaw20_KeysLeast : C :=
 (.seq
 (.reg
 [⟨(some 6), none, (.mv (.c (.bool false)))⟩])
 (.seq
 (.reg
 [⟨(some 9), none, (.mv (.t 1))⟩, ⟨(some 10), none, (.bit .and .u64 (.t 9) (.c (.int .u64 2305843009213693951)))⟩, ⟨(some 11), none, (.mv (.t 2))⟩, ⟨(some 12), none, (.bit .and .u64 (.t 11) (.c (.int .u64 2305843009213693951)))⟩, ⟨(some 1), none, (.mv (.t 10))⟩, ⟨(some 2), none, (.mv (.t 12))⟩])
 (.seq
 (.reg
 [⟨(some 13), none, (.mv (.t 0))⟩, ⟨(some 14), none, (.cv .i64 (.t 13))⟩, ⟨(some 15), none, (.mv (.t 1))⟩, ⟨(some 16), none, (.mv (.t 2))⟩, ⟨(some 17), none, (.call fn_keys_After [(.t 14), (.t 15), (.t 16)])⟩, ⟨(some 7), none, (.mv (.t 17))⟩])
 (.seq
 (.seq
 (.reg
 [⟨(some 18), none, (.call fn_evergreenlaw20_awake [])⟩, ⟨(some 19), none, (.not (.t 18))⟩, ⟨(some 20), none, (.mv (.t 19))⟩, ⟨(some 21), (some (20, false)), (.mv (.t 7))⟩, ⟨(some 22), (some (20, false)), (.mv (.t 0))⟩, ⟨(some 23), (some (20, false)), (.cv .i64 (.t 22))⟩, ⟨(some 24), (some (20, false)), (.cmp .leq .i64 (.t 21) (.t 23))⟩, ⟨(some 25), none, (.pick (.t 20) (.c (.bool true)) (.t 24))⟩, ⟨(some 26), none, (.mv (.t 25))⟩, ⟨(some 27), (some (26, false)), (.mv (.t 7))⟩, ⟨(some 28), (some (26, false)), (.mv (.t 0))⟩, ⟨(some 29), (some (26, false)), (.cv .i64 (.t 28))⟩, ⟨(some 30), (some (26, false)), (.ar .add .i64 (.t 29) (.c (.int .i64 246)))⟩, ⟨(some 31), (some (26, false)), (.cmp .gtr .i64 (.t 27) (.t 30))⟩, ⟨(some 32), none, (.pick (.t 26) (.c (.bool true)) (.t 31))⟩, ⟨(some 33), none, (.mv (.t 32))⟩, ⟨(some 34), (some (33, false)), (.mv (.t 1))⟩, ⟨(some 35), (some (33, false)), (.mv (.t 2))⟩, ⟨(some 36), (some (33, false)), (.mv (.t 7))⟩, ⟨(some 37), (some (33, false)), (.call fn_keys_Fits [(.t 34), (.t 35), (.t 36)])⟩, ⟨(some 38), (some (33, false)), (.not (.t 37))⟩, ⟨(some 39), none, (.pick (.t 33) (.c (.bool true)) (.t 38))⟩])
 (.cond
 (.t 39)
 (.seq
 (.reg
 [⟨(some 6), none, (.mv (.c (.bool false)))⟩])
 .ret)
 .skip))
 (.seq
 (.seq
 (.reg
 [⟨(some 40), none, (.mv (.t 0))⟩, ⟨(some 41), none, (.cv .i64 (.t 40))⟩, ⟨(some 42), none, (.ar .add .i64 (.t 41) (.c (.int .i64 1)))⟩, ⟨(some 8), none, (.mv (.t 42))⟩])
 (.blk
 0
 (.loop
 (.seq
 (.seq
 (.reg
 [⟨(some 43), none, (.mv (.t 8))⟩, ⟨(some 44), none, (.mv (.t 7))⟩, ⟨(some 45), none, (.cmp .lss .i64 (.t 43) (.t 44))⟩])
 (.cond
 (.t 45)
 .skip
 (.exit 0)))
 (.seq
 (.blk
 1
 (.seq
 (.reg
 [⟨(some 48), none, (.mv (.t 1))⟩, ⟨(some 49), none, (.mv (.t 2))⟩, ⟨(some 50), none, (.mv (.t 8))⟩, ⟨(some 51), none, (.call fn_keys_Fits [(.t 48), (.t 49), (.t 50)])⟩])
 (.cond
 (.t 51)
 (.seq
 (.reg
 [⟨(some 6), none, (.mv (.c (.bool false)))⟩])
 .ret)
 .skip)))
 (.reg
 [⟨(some 46), none, (.mv (.t 8))⟩, ⟨(some 47), none, (.ar .add .i64 (.t 46) (.c (.int .i64 1)))⟩, ⟨(some 8), none, (.mv (.t 47))⟩]))))))
 (.seq
 (.reg
 [⟨(some 52), none, (.mv (.t 1))⟩, ⟨(some 53), none, (.mv (.t 2))⟩, ⟨(some 54), none, (.cmp .eql .u64 (.t 52) (.t 53))⟩, ⟨(some 55), none, (.mv (.t 54))⟩, ⟨(some 56), (some (55, false)), (.mv (.t 1))⟩, ⟨(some 57), (some (55, false)), (.mv (.t 2))⟩, ⟨(some 58), (some (55, false)), (.mv (.t 7))⟩, ⟨(some 59), (some (55, false)), (.call fn_keys_Fits [(.t 56), (.t 57), (.t 58)])⟩, ⟨(some 60), (some (55, false)), (.mv (.t 2))⟩, ⟨(some 61), (some (55, false)), (.mv (.t 1))⟩, ⟨(some 62), (some (55, false)), (.mv (.t 7))⟩, ⟨(some 63), (some (55, false)), (.call fn_keys_Fits [(.t 60), (.t 61), (.t 62)])⟩, ⟨(some 64), (some (55, false)), (.eqb true (.t 59) (.t 63))⟩, ⟨(some 65), none, (.pick (.t 55) (.c (.bool true)) (.t 64))⟩, ⟨(some 6), none, (.mv (.t 65))⟩])
 .ret))))))
def ts_evergreenlaw20_KeysLeast : List (Nat × Tr) := []
set_option maxRecDepth 100000 in
set_option maxHeartbeats 4000000 in
theorem ok_evergreenlaw20_KeysLeast : irOf Tryd.prog fn_evergreenlaw20_KeysLeast [] ts_evergreenlaw20_KeysLeast = some (66, [(.t 6)], ir_evergreenlaw20_KeysLeast) := by kernel_rfl
def ir_evergreenlaw20_KeysNumbers : C :=
 (.seq
 (.reg
 [⟨(some 2), none, (.mv (.c (.bool false)))⟩])
 (.seq
 (.reg
 [⟨(some 10), none, (.mv (.t 0))⟩, ⟨(some 11), none, (.call fn_keys_Number [(.t 10)])⟩, ⟨(some 9), none, (.mv (.t 11))⟩, ⟨(some 12), none, (.ext (.t 9) 0)⟩, ⟨(some 13), none, (.ext (.t 9) 1)⟩, ⟨(some 14), none, (.ext (.t 9) 2)⟩, ⟨(some 3), none, (.mv (.t 12))⟩, ⟨(some 4), none, (.mv (.t 13))⟩, ⟨(some 5), none, (.mv (.t 14))⟩])
 (.seq
 (.reg
 [⟨(some 16), none, (.mv (.t 0))⟩, ⟨(some 17), none, (.call fn_evergreenref20_Number [(.t 16)])⟩, ⟨(some 15), none, (.mv (.t 17))⟩, ⟨(some 18), none, (.ext (.t 15) 0)⟩, ⟨(some 19), none, (.ext (.t 15) 1)⟩, ⟨(some 20), none, (.ext (.t 15) 2)⟩, ⟨(some 6), none, (.mv (.t 18))⟩, ⟨(some 7), none, (.mv (.t 19))⟩, ⟨(some 8), none, (.mv (.t 20))⟩])
 (.seq
 (.seq
 (.reg
 [⟨(some 21), none, (.mv (.t 6))⟩, ⟨(some 22), none, (.cmp .lss .i64 (.t 21) (.c (.int .i64 0)))⟩])
 (.cond
 (.t 22)
 (.reg
 [⟨(some 6), none, (.mv (.c (.int .i64 0)))⟩])
 .skip))
 (.seq
 (.reg
 [⟨(some 23), none, (.call fn_evergreenlaw20_awake [])⟩, ⟨(some 24), none, (.mv (.t 23))⟩, ⟨(some 25), (some (24, true)), (.mv (.t 3))⟩, ⟨(some 26), (some (24, true)), (.mv (.t 6))⟩, ⟨(some 27), (some (24, true)), (.cmp .eql .i64 (.t 25) (.t 26))⟩, ⟨(some 28), none, (.pick (.t 24) (.t 27) (.c (.bool false)))⟩, ⟨(some 29), none, (.mv (.t 28))⟩, ⟨(some 30), (some (29, true)), (.mv (.t 4))⟩, ⟨(some 31), (some (29, true)), (.mv (.t 7))⟩, ⟨(some 32), (some (29, true)), (.cmp .eql .u64 (.t 30) (.t 31))⟩, ⟨(some 33), none, (.pick (.t 29) (.t 32) (.c (.bool false)))⟩, ⟨(some 34), none, (.mv (.t 33))⟩, ⟨(some 35), (some (34, true)), (.mv (.t 5))⟩, ⟨(some 36), (some (34, true)), (.mv (.t 8))⟩, ⟨(some 37), (some (34, true)), (.eqb false (.t 35) (.t 36))⟩, ⟨(some 38), none, (.pick (.t 34) (.t 37) (.c (.bool false)))⟩, ⟨(some 2), none, (.mv (.t 38))⟩])
 .ret)))))
def ts_evergreenlaw20_KeysNumbers : List (Nat × Tr) := []
set_option maxRecDepth 100000 in
set_option maxHeartbeats 4000000 in
theorem ok_evergreenlaw20_KeysNumbers : irOf Tryd.prog fn_evergreenlaw20_KeysNumbers [] ts_evergreenlaw20_KeysNumbers = some (39, [(.t 2)], ir_evergreenlaw20_KeysNumbers) := by kernel_rfl
end Go.Proofs.YtkekhgnbdhlmhaaDoor
