/- The small forms of functions of the program, with the equations that say so: written by a program (irtool.py). No condition. -/
import Derived.Test.YtkekhgnbdhlmhaaWalk
import Derived.Test.YtkekhgnbdhlmhaaProg
namespace Go.Proofs.Ytkekhgnbdhlmhaa
open Go.EG
abbrev fn_evergreenlaw21_LevelsRuns : Nat := 3
abbrev fn_evergreenlaw21_LevelsStretches : Nat := 4
abbrev fn_evergreenlaw21_LevelsPairs : Nat := 5
abbrev fn_evergreenlaw21_LevelsRounds : Nat := 6
abbrev fn_evergreenlaw21_LevelsTies : Nat := 7
abbrev fn_evergreenlaw21_LevelsAgain : Nat := 8
abbrev fn_evergreenlaw21_LevelsApart : Nat := 9
abbrev fn_evergreenlaw21_LevelsSeams : Nat := 10
abbrev fn_evergreenlaw21_awake : Nat := 11
abbrev fn_levels_Runs : Nat := 12
abbrev fn_evergreenref21_Runs : Nat := 13
abbrev fn_evergreenbase_IDs : Nat := 14
abbrev fn_levels_Stretches : Nat := 15
abbrev fn_evergreenref21_Stretches : Nat := 16
abbrev fn_evergreenbase_Ints : Nat := 17
abbrev fn_levels_Pairs : Nat := 18
abbrev fn_evergreenref21_Pairs : Nat := 19
abbrev fn_keys_Number : Nat := 20
abbrev fn_keys_Fits : Nat := 21
abbrev fn_evergreenref20_Number : Nat := 22
abbrev fn_evergreenref20_Fits : Nat := 23
abbrev fn_keys_number : Nat := 24
abbrev ty_int : Nat := 3
abbrev ty_api_ID : Nat := 26
abbrev ty_api_Group : Nat := 28
abbrev ty_api_Span : Nat := 35
abbrev ty_uint64 : Nat := 42
def ir_levels_Runs : C :=
 (.seq
 (.reg
 [⟨(some 2), none, (.mv (.c (.slice none 0 0)))⟩])
 (.seq
 (.reg
 [⟨(some 3), none, (.mv (.c (.slice none 0 0)))⟩])
 (.seq
 (.seq
 (.reg
 [⟨(some 6), none, (.mv (.t 0))⟩, ⟨(some 7), none, (.lens (.t 6))⟩, ⟨(some 8), none, (.mv (.c (.int .i64 0)))⟩])
 (.blk
 0
 (.loop
 (.seq
 (.reg
 [⟨(some 9), none, (.cmp .lss .i64 (.t 8) (.t 7))⟩])
 (.seq
 (.cond
 (.t 9)
 .skip
 (.exit 0))
 (.seq
 (.blk
 1
 (.seq
 (.reg
 [⟨(some 10), none, (.mv (.t 8))⟩, ⟨(some 11), none, (.ia 1 (.t 6) (.t 8))⟩, ⟨(some 12), none, (.ld (.int .i64) (.t 11))⟩, ⟨(some 4), none, (.mv (.t 10))⟩, ⟨(some 5), none, (.mv (.t 12))⟩])
 (.seq
 (.seq
 (.reg
 [⟨(some 13), none, (.mv (.t 4))⟩, ⟨(some 14), none, (.cmp .eql .i64 (.t 13) (.c (.int .i64 0)))⟩, ⟨(some 15), none, (.mv (.t 14))⟩, ⟨(some 16), (some (15, false)), (.mv (.t 0))⟩, ⟨(some 17), (some (15, false)), (.mv (.t 4))⟩, ⟨(some 18), (some (15, false)), (.ar .sub .i64 (.t 17) (.c (.int .i64 1)))⟩, ⟨(some 19), (some (15, false)), (.ia 1 (.t 16) (.t 18))⟩, ⟨(some 20), (some (15, false)), (.ld (.int .i64) (.t 19))⟩, ⟨(some 21), (some (15, false)), (.mv (.t 5))⟩, ⟨(some 22), (some (15, false)), (.cmp .neq .i64 (.t 20) (.t 21))⟩, ⟨(some 23), none, (.pick (.t 15) (.c (.bool true)) (.t 22))⟩])
 (.cond
 (.t 23)
 (.reg
 [⟨(some 24), none, (.mv (.t 3))⟩, ⟨(some 25), none, (.mv (.t 5))⟩, ⟨(some 26), none, (.bld [(.int .i64 0), (.int .i64 0)] [(0, (1, (.t 25)))])⟩, ⟨(some 27), none, (.bsl 27 ty_api_Group 2 1 [(.int .i64 0), (.int .i64 0)] [(0, (2, (.t 26)))])⟩, ⟨(some 28), none, (.app 28 ty_api_Group 2 16 (.t 24) (.t 27))⟩, ⟨(some 3), none, (.mv (.t 28))⟩])
 .skip))
 (.reg
 [⟨(some 29), none, (.mv (.t 3))⟩, ⟨(some 30), none, (.mv (.t 3))⟩, ⟨(some 31), none, (.lens (.t 30))⟩, ⟨(some 32), none, (.ar .sub .i64 (.t 31) (.c (.int .i64 1)))⟩, ⟨(some 33), none, (.ia 2 (.t 29) (.t 32))⟩, ⟨(some 34), none, (.fa 1 (.t 33))⟩, ⟨(some 35), none, (.ld (.int .i64) (.t 34))⟩, ⟨(some 36), none, (.ar .add .i64 (.t 35) (.c (.int .i64 1)))⟩, ⟨(some 37), none, (.ia 2 (.t 29) (.t 32))⟩, ⟨(some 38), none, (.fa 1 (.t 37))⟩, ⟨none, none, (.st 1 (.t 38) (.t 36))⟩]))))
 (.reg
 [⟨(some 39), none, (.ar .add .i64 (.t 8) (.c (.int .i64 1)))⟩, ⟨(some 8), none, (.mv (.t 39))⟩])))))))
 (.seq
 (.reg
 [⟨(some 40), none, (.mv (.t 3))⟩, ⟨(some 2), none, (.mv (.t 40))⟩])
 .ret))))
def ts_levels_Runs : List (Nat × Tr) := []
set_option maxRecDepth 100000 in
set_option maxHeartbeats 4000000 in
theorem ok_levels_Runs : irOf Try.prog fn_levels_Runs [] ts_levels_Runs = some (41, [(.t 2)], ir_levels_Runs) := by kernel_rfl
def ir_levels_Stretches : C :=
 (.seq
 (.reg
 [⟨(some 2), none, (.mv (.c (.slice none 0 0)))⟩])
 (.seq
 (.reg
 [⟨(some 3), none, (.mv (.c (.slice none 0 0)))⟩])
 (.seq
 (.reg
 [⟨(some 4), none, (.mv (.c (.int .i64 0)))⟩])
 (.seq
 (.seq
 (.reg
 [⟨(some 7), none, (.mv (.t 0))⟩, ⟨(some 8), none, (.lens (.t 7))⟩, ⟨(some 9), none, (.mv (.c (.int .i64 0)))⟩])
 (.blk
 0
 (.loop
 (.seq
 (.reg
 [⟨(some 10), none, (.cmp .lss .i64 (.t 9) (.t 8))⟩])
 (.seq
 (.cond
 (.t 10)
 .skip
 (.exit 0))
 (.seq
 (.blk
 1
 (.seq
 (.reg
 [⟨(some 11), none, (.mv (.t 9))⟩, ⟨(some 5), none, (.mv (.t 11))⟩])
 (.seq
 (.seq
 (.drw
 [⟨(some 12), none, (.mv (.t 5))⟩, ⟨(some 13), none, (.ar .add .i64 (.t 12) (.c (.int .i64 1)))⟩, ⟨(some 14), none, (.mv (.t 0))⟩, ⟨(some 15), none, (.lens (.t 14))⟩, ⟨(some 16), none, (.cmp .lss .i64 (.t 13) (.t 15))⟩, ⟨(some 17), none, (.mv (.t 16))⟩, ⟨(some 18), (some (17, true)), (.mv (.t 0))⟩, ⟨(some 19), (some (17, true)), (.mv (.t 5))⟩, ⟨(some 20), (some (17, true)), (.ar .add .i64 (.t 19) (.c (.int .i64 1)))⟩, ⟨(some 21), (some (17, true)), (.ia 1 (.t 18) (.t 20))⟩, ⟨(some 22), (some (17, true)), (.ld (.int .u64) (.t 21))⟩, ⟨(some 23), (some (17, true)), (.mv (.t 0))⟩, ⟨(some 24), (some (17, true)), (.mv (.t 5))⟩, ⟨(some 25), (some (17, true)), (.ia 1 (.t 23) (.t 24))⟩, ⟨(some 26), (some (17, true)), (.ld (.int .u64) (.t 25))⟩, ⟨(some 27), (some (17, true)), (.cmp .eql .u64 (.t 22) (.t 26))⟩, ⟨(some 28), none, (.pick (.t 17) (.t 27) (.c (.bool false)))⟩]
 (.take 0 (.take 1 (.take 2 (.take 3 (.take 4 (.take 5 (.take 6 (.take 7 (.take 8 (.take 9 (.take 10 (.take 11 (.take 12 (.take 13 (.take 14 (.take 15 (.take 16 .done))))))))))))))))))
 (.cond
 (.t 28)
 (.exit 1)
 .skip))
 (.seq
 (.seq
 (.reg
 [⟨(some 29), none, (.mv (.t 5))⟩, ⟨(some 30), none, (.ar .add .i64 (.t 29) (.c (.int .i64 1)))⟩, ⟨(some 31), none, (.mv (.t 4))⟩, ⟨(some 32), none, (.ar .sub .i64 (.t 30) (.t 31))⟩, ⟨(some 6), none, (.mv (.t 32))⟩])
 (.seq
 (.reg
 [⟨(some 33), none, (.mv (.t 6))⟩, ⟨(some 34), none, (.cmp .gtr .i64 (.t 33) (.c (.int .i64 1)))⟩])
 (.cond
 (.t 34)
 (.reg
 [⟨(some 35), none, (.mv (.t 3))⟩, ⟨(some 36), none, (.mv (.t 4))⟩, ⟨(some 37), none, (.mv (.t 6))⟩, ⟨(some 38), none, (.bld [(.int .i64 0), (.int .i64 0)] [(0, (1, (.t 36))), (1, (1, (.t 37)))])⟩, ⟨(some 39), none, (.bsl 39 ty_api_Span 2 1 [(.int .i64 0), (.int .i64 0)] [(0, (2, (.t 38)))])⟩, ⟨(some 40), none, (.app 40 ty_api_Span 2 16 (.t 35) (.t 39))⟩, ⟨(some 3), none, (.mv (.t 40))⟩])
 .skip)))
 (.reg
 [⟨(some 41), none, (.mv (.t 5))⟩, ⟨(some 42), none, (.ar .add .i64 (.t 41) (.c (.int .i64 1)))⟩, ⟨(some 4), none, (.mv (.t 42))⟩])))))
 (.reg
 [⟨(some 43), none, (.ar .add .i64 (.t 9) (.c (.int .i64 1)))⟩, ⟨(some 9), none, (.mv (.t 43))⟩])))))))
 (.seq
 (.reg
 [⟨(some 44), none, (.mv (.t 3))⟩, ⟨(some 2), none, (.mv (.t 44))⟩])
 .ret)))))
def ts_levels_Stretches : List (Nat × Tr) := [(6, (.take 0 (.take 1 (.take 2 (.take 3 (.take 4 (.take 5 (.take 6 (.take 7 (.take 8 (.take 9 (.take 10 (.take 11 (.take 12 (.take 13 (.take 14 (.take 15 (.take 16 .done))))))))))))))))))]
set_option maxRecDepth 100000 in
set_option maxHeartbeats 4000000 in
theorem ok_levels_Stretches : irOf Try.prog fn_levels_Stretches [] ts_levels_Stretches = some (45, [(.t 2)], ir_levels_Stretches) := by kernel_rfl
def ir_levels_Pairs : C :=
 (.seq
 (.reg
 [⟨(some 4), none, (.mv (.c (.slice none 0 0)))⟩])
 (.seq
 (.seq
 (.reg
 [⟨(some 13), none, (.mv (.t 1))⟩, ⟨(some 14), none, (.cmp .lss .i64 (.t 13) (.c (.int .i64 2)))⟩, ⟨(some 15), none, (.mv (.t 14))⟩, ⟨(some 16), (some (15, false)), (.mv (.t 1))⟩, ⟨(some 17), (some (15, false)), (.dv true .i64 (.t 16) (.c (.int .i64 2)))⟩, ⟨(some 18), (some (15, false)), (.cmp .neq .i64 (.t 17) (.c (.int .i64 0)))⟩, ⟨(some 19), none, (.pick (.t 15) (.c (.bool true)) (.t 18))⟩])
 (.cond
 (.t 19)
 (.seq
 (.reg
 [⟨(some 4), none, (.mv (.c (.slice none 0 0)))⟩])
 .ret)
 .skip))
 (.seq
 (.reg
 [⟨(some 5), none, (.mv (.c (.slice none 0 0)))⟩])
 (.seq
 (.reg
 [⟨(some 21), none, (.mv (.t 1))⟩, ⟨(some 22), none, (.call fn_keys_Number [(.t 21)])⟩, ⟨(some 20), none, (.mv (.t 22))⟩, ⟨(some 23), none, (.ext (.t 20) 0)⟩, ⟨(some 24), none, (.ext (.t 20) 1)⟩, ⟨(some 25), none, (.ext (.t 20) 2)⟩, ⟨(some 6), none, (.mv (.t 23))⟩, ⟨(some 7), none, (.mv (.t 24))⟩, ⟨(some 8), none, (.mv (.t 25))⟩])
 (.seq
 (.seq
 (.reg
 [⟨(some 26), none, (.mv (.t 8))⟩])
 (.cond
 (.t 26)
 (.seq
 (.seq
 (.reg
 [⟨(some 27), none, (.mv (.t 0))⟩, ⟨(some 28), none, (.call fn_levels_Stretches [(.t 27)])⟩, ⟨(some 29), none, (.lens (.t 28))⟩, ⟨(some 30), none, (.mv (.c (.int .i64 0)))⟩])
 (.blk
 0
 (.loop
 (.seq
 (.reg
 [⟨(some 31), none, (.cmp .lss .i64 (.t 30) (.t 29))⟩])
 (.seq
 (.cond
 (.t 31)
 .skip
 (.exit 0))
 (.seq
 (.blk
 1
 (.seq
 (.reg
 [⟨(some 32), none, (.ia 2 (.t 28) (.t 30))⟩, ⟨(some 33), none, (.lda 2 [(.int .i64), (.int .i64)] (.t 32))⟩, ⟨(some 10), none, (.alc 10 ty_api_Span [(.int .i64 0), (.int .i64 0)])⟩, ⟨none, none, (.st 2 (.t 10) (.t 33))⟩])
 (.seq
 (.reg
 [⟨(some 11), none, (.mv (.c (.int .i64 0)))⟩])
 (.blk
 2
 (.loop
 (.seq
 (.seq
 (.reg
 [⟨(some 34), none, (.mv (.t 11))⟩, ⟨(some 35), none, (.ar .add .i64 (.t 34) (.c (.int .i64 1)))⟩, ⟨(some 36), none, (.fa 1 (.t 10))⟩, ⟨(some 37), none, (.ld (.int .i64) (.t 36))⟩, ⟨(some 38), none, (.cmp .lss .i64 (.t 35) (.t 37))⟩])
 (.cond
 (.t 38)
 .skip
 (.exit 2)))
 (.seq
 (.blk
 3
 (.reg
 [⟨(some 41), none, (.mv (.t 5))⟩, ⟨(some 42), none, (.fa 0 (.t 10))⟩, ⟨(some 43), none, (.ld (.int .i64) (.t 42))⟩, ⟨(some 44), none, (.mv (.t 11))⟩, ⟨(some 45), none, (.ar .add .i64 (.t 43) (.t 44))⟩, ⟨(some 46), none, (.bsl 46 ty_int 1 1 [(.int .i64 0)] [(0, (1, (.t 45)))])⟩, ⟨(some 47), none, (.app 47 ty_int 1 8 (.t 41) (.t 46))⟩, ⟨(some 5), none, (.mv (.t 47))⟩]))
 (.reg
 [⟨(some 39), none, (.mv (.t 11))⟩, ⟨(some 40), none, (.ar .add .i64 (.t 39) (.c (.int .i64 2)))⟩, ⟨(some 11), none, (.mv (.t 40))⟩]))))))))
 (.reg
 [⟨(some 48), none, (.ar .add .i64 (.t 30) (.c (.int .i64 1)))⟩, ⟨(some 30), none, (.mv (.t 48))⟩])))))))
 (.seq
 (.reg
 [⟨(some 49), none, (.mv (.t 5))⟩, ⟨(some 4), none, (.mv (.t 49))⟩])
 .ret))
 .skip))
 (.seq
 (.seq
 (.reg
 [⟨(some 12), none, (.mv (.c (.int .i64 0)))⟩])
 (.blk
 4
 (.loop
 (.seq
 (.seq
 (.reg
 [⟨(some 50), none, (.mv (.t 12))⟩, ⟨(some 51), none, (.ar .add .i64 (.t 50) (.c (.int .i64 1)))⟩, ⟨(some 52), none, (.mv (.t 0))⟩, ⟨(some 53), none, (.lens (.t 52))⟩, ⟨(some 54), none, (.cmp .lss .i64 (.t 51) (.t 53))⟩])
 (.cond
 (.t 54)
 .skip
 (.exit 4)))
 (.seq
 (.blk
 5
 (.seq
 (.reg
 [⟨(some 57), none, (.mv (.t 0))⟩, ⟨(some 58), none, (.mv (.t 12))⟩, ⟨(some 59), none, (.ia 1 (.t 57) (.t 58))⟩, ⟨(some 60), none, (.ld (.int .u64) (.t 59))⟩, ⟨(some 61), none, (.mv (.t 6))⟩, ⟨(some 62), none, (.sh false .u64 (.t 60) (.t 61))⟩, ⟨(some 63), none, (.bit .and .u64 (.t 62) (.c (.int .u64 1)))⟩, ⟨(some 64), none, (.mv (.t 7))⟩, ⟨(some 65), none, (.cmp .eql .u64 (.t 63) (.t 64))⟩, ⟨(some 66), none, (.mv (.t 65))⟩, ⟨(some 67), (some (66, true)), (.mv (.t 0))⟩, ⟨(some 68), (some (66, true)), (.mv (.t 12))⟩, ⟨(some 69), (some (66, true)), (.ar .add .i64 (.t 68) (.c (.int .i64 1)))⟩, ⟨(some 70), (some (66, true)), (.ia 1 (.t 67) (.t 69))⟩, ⟨(some 71), (some (66, true)), (.ld (.int .u64) (.t 70))⟩, ⟨(some 72), (some (66, true)), (.mv (.t 6))⟩, ⟨(some 73), (some (66, true)), (.sh false .u64 (.t 71) (.t 72))⟩, ⟨(some 74), (some (66, true)), (.bit .and .u64 (.t 73) (.c (.int .u64 1)))⟩, ⟨(some 75), (some (66, true)), (.mv (.t 7))⟩, ⟨(some 76), (some (66, true)), (.cmp .neq .u64 (.t 74) (.t 75))⟩, ⟨(some 77), none, (.pick (.t 66) (.t 76) (.c (.bool false)))⟩])
 (.cond
 (.t 77)
 (.reg
 [⟨(some 78), none, (.mv (.t 5))⟩, ⟨(some 79), none, (.mv (.t 12))⟩, ⟨(some 80), none, (.bsl 80 ty_int 1 1 [(.int .i64 0)] [(0, (1, (.t 79)))])⟩, ⟨(some 81), none, (.app 81 ty_int 1 8 (.t 78) (.t 80))⟩, ⟨(some 5), none, (.mv (.t 81))⟩])
 .skip)))
 (.reg
 [⟨(some 55), none, (.mv (.t 12))⟩, ⟨(some 56), none, (.ar .add .i64 (.t 55) (.c (.int .i64 1)))⟩, ⟨(some 12), none, (.mv (.t 56))⟩]))))))
 (.seq
 (.reg
 [⟨(some 82), none, (.mv (.t 5))⟩, ⟨(some 4), none, (.mv (.t 82))⟩])
 .ret)))))))
def ts_levels_Pairs : List (Nat × Tr) := []
set_option maxRecDepth 100000 in
set_option maxHeartbeats 4000000 in
theorem ok_levels_Pairs : irOf Try.prog fn_levels_Pairs [] ts_levels_Pairs = some (83, [(.t 4)], ir_levels_Pairs) := by kernel_rfl
def ir_keys_Number : C :=
 (.seq
 (.reg
 [⟨(some 2), none, (.mv (.c (.int .i64 0)))⟩, ⟨(some 3), none, (.mv (.c (.int .u64 0)))⟩, ⟨(some 4), none, (.mv (.c (.bool false)))⟩])
 (.seq
 (.reg
 [⟨(some 8), none, (.mv (.t 0))⟩, ⟨(some 9), none, (.call fn_keys_number [(.t 8)])⟩, ⟨(some 7), none, (.mv (.t 9))⟩, ⟨(some 10), none, (.ext (.t 7) 0)⟩, ⟨(some 11), none, (.ext (.t 7) 1)⟩, ⟨(some 5), none, (.mv (.t 10))⟩, ⟨(some 6), none, (.mv (.t 11))⟩])
 (.seq
 (.blk
 0
 (.seq
 (.reg
 [⟨(some 13), none, (.mv (.t 6))⟩, ⟨(some 14), none, (.not (.t 13))⟩, ⟨(some 12), none, (.mv (.t 14))⟩])
 (.cond
 (.t 12)
 (.seq
 (.reg
 [⟨(some 2), none, (.mv (.c (.int .i64 0)))⟩, ⟨(some 3), none, (.mv (.c (.int .u64 0)))⟩, ⟨(some 4), none, (.mv (.c (.bool false)))⟩])
 .ret)
 (.seq
 (.reg
 [⟨(some 16), none, (.mv (.t 5))⟩, ⟨(some 17), none, (.cmp .eql .i64 (.t 16) (.c (.int .i64 122)))⟩, ⟨(some 15), none, (.mv (.t 17))⟩])
 (.cond
 (.t 15)
 (.seq
 (.reg
 [⟨(some 2), none, (.mv (.c (.int .i64 0)))⟩, ⟨(some 3), none, (.mv (.c (.int .u64 0)))⟩, ⟨(some 4), none, (.mv (.c (.bool true)))⟩])
 .ret)
 .skip)))))
 (.seq
 (.reg
 [⟨(some 18), none, (.mv (.t 5))⟩, ⟨(some 19), none, (.dv false .i64 (.t 18) (.c (.int .i64 2)))⟩, ⟨(some 20), none, (.mv (.t 5))⟩, ⟨(some 21), none, (.dv true .i64 (.t 20) (.c (.int .i64 2)))⟩, ⟨(some 22), none, (.cv .u64 (.t 21))⟩, ⟨(some 2), none, (.mv (.t 19))⟩, ⟨(some 3), none, (.mv (.t 22))⟩, ⟨(some 4), none, (.mv (.c (.bool false)))⟩])
 .ret))))
def ts_keys_Number : List (Nat × Tr) := []
set_option maxRecDepth 100000 in
set_option maxHeartbeats 4000000 in
theorem ok_keys_Number : irOf Try.prog fn_keys_Number [] ts_keys_Number = some (23, [(.t 2), (.t 3), (.t 4)], ir_keys_Number) := by kernel_rfl
def ir_keys_Fits : C :=
 (.seq
 (.reg
 [⟨(some 6), none, (.mv (.c (.bool false)))⟩])
 (.seq
 (.reg
 [⟨(some 12), none, (.mv (.t 2))⟩, ⟨(some 13), none, (.call fn_keys_number [(.t 12)])⟩, ⟨(some 11), none, (.mv (.t 13))⟩, ⟨(some 14), none, (.ext (.t 11) 0)⟩, ⟨(some 15), none, (.ext (.t 11) 1)⟩, ⟨(some 7), none, (.mv (.t 14))⟩, ⟨(some 8), none, (.mv (.t 15))⟩])
 (.seq
 (.seq
 (.reg
 [⟨(some 16), none, (.mv (.t 8))⟩, ⟨(some 17), none, (.not (.t 16))⟩])
 (.cond
 (.t 17)
 (.seq
 (.reg
 [⟨(some 6), none, (.mv (.c (.bool false)))⟩])
 .ret)
 .skip))
 (.seq
 (.seq
 (.reg
 [⟨(some 18), none, (.mv (.t 7))⟩, ⟨(some 19), none, (.cmp .eql .i64 (.t 18) (.c (.int .i64 122)))⟩])
 (.cond
 (.t 19)
 (.seq
 (.reg
 [⟨(some 20), none, (.mv (.t 0))⟩, ⟨(some 21), none, (.mv (.t 1))⟩, ⟨(some 22), none, (.cmp .eql .u64 (.t 20) (.t 21))⟩, ⟨(some 6), none, (.mv (.t 22))⟩])
 .ret)
 .skip))
 (.seq
 (.reg
 [⟨(some 23), none, (.mv (.t 7))⟩, ⟨(some 24), none, (.dv false .i64 (.t 23) (.c (.int .i64 2)))⟩, ⟨(some 25), none, (.mv (.t 7))⟩, ⟨(some 26), none, (.dv true .i64 (.t 25) (.c (.int .i64 2)))⟩, ⟨(some 27), none, (.cv .u64 (.t 26))⟩, ⟨(some 9), none, (.mv (.t 24))⟩, ⟨(some 10), none, (.mv (.t 27))⟩])
 (.seq
 (.reg
 [⟨(some 28), none, (.mv (.t 0))⟩, ⟨(some 29), none, (.mv (.t 9))⟩, ⟨(some 30), none, (.sh false .u64 (.t 28) (.t 29))⟩, ⟨(some 31), none, (.bit .and .u64 (.t 30) (.c (.int .u64 1)))⟩, ⟨(some 32), none, (.mv (.t 10))⟩, ⟨(some 33), none, (.cmp .eql .u64 (.t 31) (.t 32))⟩, ⟨(some 34), none, (.mv (.t 33))⟩, ⟨(some 35), (some (34, true)), (.mv (.t 1))⟩, ⟨(some 36), (some (34, true)), (.mv (.t 9))⟩, ⟨(some 37), (some (34, true)), (.sh false .u64 (.t 35) (.t 36))⟩, ⟨(some 38), (some (34, true)), (.bit .and .u64 (.t 37) (.c (.int .u64 1)))⟩, ⟨(some 39), (some (34, true)), (.mv (.t 10))⟩, ⟨(some 40), (some (34, true)), (.ar .sub .u64 (.c (.int .u64 1)) (.t 39))⟩, ⟨(some 41), (some (34, true)), (.cmp .eql .u64 (.t 38) (.t 40))⟩, ⟨(some 42), none, (.pick (.t 34) (.t 41) (.c (.bool false)))⟩, ⟨(some 6), none, (.mv (.t 42))⟩])
 .ret))))))
def ts_keys_Fits : List (Nat × Tr) := []
set_option maxRecDepth 100000 in
set_option maxHeartbeats 4000000 in
theorem ok_keys_Fits : irOf Try.prog fn_keys_Fits [] ts_keys_Fits = some (43, [(.t 6)], ir_keys_Fits) := by kernel_rfl
def ir_keys_number : C :=
 (.seq
 (.reg
 [⟨(some 2), none, (.mv (.c (.int .i64 0)))⟩, ⟨(some 3), none, (.mv (.c (.bool false)))⟩])
 (.seq
 (.seq
 (.reg
 [⟨(some 4), none, (.mv (.t 0))⟩, ⟨(some 5), none, (.cmp .lss .i64 (.t 4) (.c (.int .i64 2)))⟩, ⟨(some 6), none, (.mv (.t 5))⟩, ⟨(some 7), (some (6, false)), (.mv (.t 0))⟩, ⟨(some 8), (some (6, false)), (.dv true .i64 (.t 7) (.c (.int .i64 2)))⟩, ⟨(some 9), (some (6, false)), (.cmp .neq .i64 (.t 8) (.c (.int .i64 0)))⟩, ⟨(some 10), none, (.pick (.t 6) (.c (.bool true)) (.t 9))⟩])
 (.cond
 (.t 10)
 (.seq
 (.reg
 [⟨(some 2), none, (.mv (.c (.int .i64 0)))⟩, ⟨(some 3), none, (.mv (.c (.bool false)))⟩])
 .ret)
 .skip))
 (.seq
 (.reg
 [⟨(some 11), none, (.mv (.t 0))⟩, ⟨(some 12), none, (.dv false .i64 (.t 11) (.c (.int .i64 2)))⟩, ⟨(some 13), none, (.ar .sub .i64 (.t 12) (.c (.int .i64 1)))⟩, ⟨(some 14), none, (.dv true .i64 (.t 13) (.c (.int .i64 123)))⟩, ⟨(some 2), none, (.mv (.t 14))⟩, ⟨(some 3), none, (.mv (.c (.bool true)))⟩])
 .ret)))
def ts_keys_number : List (Nat × Tr) := []
set_option maxRecDepth 100000 in
set_option maxHeartbeats 4000000 in
theorem ok_keys_number : irOf Try.prog fn_keys_number [] ts_keys_number = some (15, [(.t 2), (.t 3)], ir_keys_number) := by kernel_rfl
def ir_evergreenref21_Runs : C :=
 (.seq
 (.reg
 [⟨(some 2), none, (.mv (.c (.slice none 0 0)))⟩])
 (.seq
 (.reg
 [⟨(some 3), none, (.mv (.c (.slice none 0 0)))⟩])
 (.seq
 (.seq
 (.reg
 [⟨(some 4), none, (.mv (.c (.int .i64 0)))⟩])
 (.blk
 0
 (.loop
 (.seq
 (.seq
 (.reg
 [⟨(some 6), none, (.mv (.t 4))⟩, ⟨(some 7), none, (.mv (.t 0))⟩, ⟨(some 8), none, (.lens (.t 7))⟩, ⟨(some 9), none, (.cmp .lss .i64 (.t 6) (.t 8))⟩])
 (.cond
 (.t 9)
 .skip
 (.exit 0)))
 (.blk
 1
 (.seq
 (.reg
 [⟨(some 10), none, (.mv (.t 4))⟩, ⟨(some 5), none, (.mv (.t 10))⟩])
 (.seq
 (.blk
 2
 (.loop
 (.seq
 (.seq
 (.drw
 [⟨(some 11), none, (.mv (.t 5))⟩, ⟨(some 12), none, (.mv (.t 0))⟩, ⟨(some 13), none, (.lens (.t 12))⟩, ⟨(some 14), none, (.cmp .lss .i64 (.t 11) (.t 13))⟩, ⟨(some 15), none, (.mv (.t 14))⟩, ⟨(some 16), (some (15, true)), (.mv (.t 0))⟩, ⟨(some 17), (some (15, true)), (.mv (.t 5))⟩, ⟨(some 18), (some (15, true)), (.ia 1 (.t 16) (.t 17))⟩, ⟨(some 19), (some (15, true)), (.ld (.int .i64) (.t 18))⟩, ⟨(some 20), (some (15, true)), (.mv (.t 0))⟩, ⟨(some 21), (some (15, true)), (.mv (.t 4))⟩, ⟨(some 22), (some (15, true)), (.ia 1 (.t 20) (.t 21))⟩, ⟨(some 23), (some (15, true)), (.ld (.int .i64) (.t 22))⟩, ⟨(some 24), (some (15, true)), (.cmp .eql .i64 (.t 19) (.t 23))⟩, ⟨(some 25), none, (.pick (.t 15) (.t 24) (.c (.bool false)))⟩]
 (.take 0 (.take 1 (.take 2 (.take 3 (.take 4 (.take 5 (.take 6 (.take 7 (.take 8 (.take 9 (.take 10 (.take 11 (.take 12 (.take 13 (.take 14 .done))))))))))))))))
 (.cond
 (.t 25)
 .skip
 (.exit 2)))
 (.blk
 3
 (.reg
 [⟨(some 26), none, (.mv (.t 5))⟩, ⟨(some 27), none, (.ar .add .i64 (.t 26) (.c (.int .i64 1)))⟩, ⟨(some 5), none, (.mv (.t 27))⟩])))))
 (.seq
 (.reg
 [⟨(some 28), none, (.mv (.t 3))⟩, ⟨(some 29), none, (.mv (.t 0))⟩, ⟨(some 30), none, (.mv (.t 4))⟩, ⟨(some 31), none, (.ia 1 (.t 29) (.t 30))⟩, ⟨(some 32), none, (.ld (.int .i64) (.t 31))⟩, ⟨(some 33), none, (.mv (.t 5))⟩, ⟨(some 34), none, (.mv (.t 4))⟩, ⟨(some 35), none, (.ar .sub .i64 (.t 33) (.t 34))⟩, ⟨(some 36), none, (.bld [(.int .i64 0), (.int .i64 0)] [(0, (1, (.t 32))), (1, (1, (.t 35)))])⟩, ⟨(some 37), none, (.bsl 37 ty_api_Group 2 1 [(.int .i64 0), (.int .i64 0)] [(0, (2, (.t 36)))])⟩, ⟨(some 38), none, (.app 38 ty_api_Group 2 16 (.t 28) (.t 37))⟩, ⟨(some 3), none, (.mv (.t 38))⟩])
 (.reg
 [⟨(some 39), none, (.mv (.t 5))⟩, ⟨(some 4), none, (.mv (.t 39))⟩])))))))))
 (.seq
 (.reg
 [⟨(some 40), none, (.mv (.t 3))⟩, ⟨(some 2), none, (.mv (.t 40))⟩])
 .ret))))
def ts_evergreenref21_Runs : List (Nat × Tr) := [(5, (.take 0 (.take 1 (.take 2 (.take 3 (.take 4 (.take 5 (.take 6 (.take 7 (.take 8 (.take 9 (.take 10 (.take 11 (.take 12 (.take 13 (.take 14 .done))))))))))))))))]
set_option maxRecDepth 100000 in
set_option maxHeartbeats 4000000 in
theorem ok_evergreenref21_Runs : irOf Try.prog fn_evergreenref21_Runs [] ts_evergreenref21_Runs = some (41, [(.t 2)], ir_evergreenref21_Runs) := by kernel_rfl
def ir_evergreenref21_Stretches : C :=
 (.seq
 (.reg
 [⟨(some 2), none, (.mv (.c (.slice none 0 0)))⟩])
 (.seq
 (.reg
 [⟨(some 3), none, (.mv (.c (.slice none 0 0)))⟩])
 (.seq
 (.seq
 (.reg
 [⟨(some 4), none, (.mv (.c (.int .i64 0)))⟩])
 (.blk
 0
 (.loop
 (.seq
 (.seq
 (.reg
 [⟨(some 6), none, (.mv (.t 4))⟩, ⟨(some 7), none, (.mv (.t 0))⟩, ⟨(some 8), none, (.lens (.t 7))⟩, ⟨(some 9), none, (.cmp .lss .i64 (.t 6) (.t 8))⟩])
 (.cond
 (.t 9)
 .skip
 (.exit 0)))
 (.blk
 1
 (.seq
 (.reg
 [⟨(some 10), none, (.mv (.t 4))⟩, ⟨(some 5), none, (.mv (.t 10))⟩])
 (.seq
 (.blk
 2
 (.loop
 (.seq
 (.seq
 (.drw
 [⟨(some 11), none, (.mv (.t 5))⟩, ⟨(some 12), none, (.mv (.t 0))⟩, ⟨(some 13), none, (.lens (.t 12))⟩, ⟨(some 14), none, (.cmp .lss .i64 (.t 11) (.t 13))⟩, ⟨(some 15), none, (.mv (.t 14))⟩, ⟨(some 16), (some (15, true)), (.mv (.t 0))⟩, ⟨(some 17), (some (15, true)), (.mv (.t 5))⟩, ⟨(some 18), (some (15, true)), (.ia 1 (.t 16) (.t 17))⟩, ⟨(some 19), (some (15, true)), (.ld (.int .u64) (.t 18))⟩, ⟨(some 20), (some (15, true)), (.mv (.t 0))⟩, ⟨(some 21), (some (15, true)), (.mv (.t 4))⟩, ⟨(some 22), (some (15, true)), (.ia 1 (.t 20) (.t 21))⟩, ⟨(some 23), (some (15, true)), (.ld (.int .u64) (.t 22))⟩, ⟨(some 24), (some (15, true)), (.cmp .eql .u64 (.t 19) (.t 23))⟩, ⟨(some 25), none, (.pick (.t 15) (.t 24) (.c (.bool false)))⟩]
 (.take 0 (.take 1 (.take 2 (.take 3 (.take 4 (.take 5 (.take 6 (.take 7 (.take 8 (.take 9 (.take 10 (.take 11 (.take 12 (.take 13 (.take 14 .done))))))))))))))))
 (.cond
 (.t 25)
 .skip
 (.exit 2)))
 (.blk
 3
 (.reg
 [⟨(some 26), none, (.mv (.t 5))⟩, ⟨(some 27), none, (.ar .add .i64 (.t 26) (.c (.int .i64 1)))⟩, ⟨(some 5), none, (.mv (.t 27))⟩])))))
 (.seq
 (.seq
 (.reg
 [⟨(some 28), none, (.mv (.t 5))⟩, ⟨(some 29), none, (.mv (.t 4))⟩, ⟨(some 30), none, (.ar .sub .i64 (.t 28) (.t 29))⟩, ⟨(some 31), none, (.cmp .gtr .i64 (.t 30) (.c (.int .i64 1)))⟩])
 (.cond
 (.t 31)
 (.reg
 [⟨(some 32), none, (.mv (.t 3))⟩, ⟨(some 33), none, (.mv (.t 4))⟩, ⟨(some 34), none, (.mv (.t 5))⟩, ⟨(some 35), none, (.mv (.t 4))⟩, ⟨(some 36), none, (.ar .sub .i64 (.t 34) (.t 35))⟩, ⟨(some 37), none, (.bld [(.int .i64 0), (.int .i64 0)] [(0, (1, (.t 33))), (1, (1, (.t 36)))])⟩, ⟨(some 38), none, (.bsl 38 ty_api_Span 2 1 [(.int .i64 0), (.int .i64 0)] [(0, (2, (.t 37)))])⟩, ⟨(some 39), none, (.app 39 ty_api_Span 2 16 (.t 32) (.t 38))⟩, ⟨(some 3), none, (.mv (.t 39))⟩])
 .skip))
 (.reg
 [⟨(some 40), none, (.mv (.t 5))⟩, ⟨(some 4), none, (.mv (.t 40))⟩])))))))))
 (.seq
 (.reg
 [⟨(some 41), none, (.mv (.t 3))⟩, ⟨(some 2), none, (.mv (.t 41))⟩])
 .ret))))
def ts_evergreenref21_Stretches : List (Nat × Tr) := [(5, (.take 0 (.take 1 (.take 2 (.take 3 (.take 4 (.take 5 (.take 6 (.take 7 (.take 8 (.take 9 (.take 10 (.take 11 (.take 12 (.take 13 (.take 14 .done))))))))))))))))]
set_option maxRecDepth 100000 in
set_option maxHeartbeats 4000000 in
theorem ok_evergreenref21_Stretches : irOf Try.prog fn_evergreenref21_Stretches [] ts_evergreenref21_Stretches = some (42, [(.t 2)], ir_evergreenref21_Stretches) := by kernel_rfl
def ir_evergreenref21_Pairs : C :=
 (.seq
 (.reg
 [⟨(some 4), none, (.mv (.c (.slice none 0 0)))⟩])
 (.seq
 (.reg
 [⟨(some 14), none, (.mv (.t 1))⟩, ⟨(some 15), none, (.call fn_evergreenref20_Number [(.t 14)])⟩, ⟨(some 13), none, (.mv (.t 15))⟩, ⟨(some 16), none, (.ext (.t 13) 0)⟩, ⟨(some 17), none, (.ext (.t 13) 1)⟩, ⟨(some 18), none, (.ext (.t 13) 2)⟩, ⟨(some 5), none, (.mv (.t 16))⟩, ⟨(some 6), none, (.mv (.t 17))⟩, ⟨(some 7), none, (.mv (.t 18))⟩])
 (.seq
 (.reg
 [⟨(some 8), none, (.mv (.c (.slice none 0 0)))⟩])
 (.seq
 (.seq
 (.reg
 [⟨(some 19), none, (.mv (.t 7))⟩])
 (.cond
 (.t 19)
 (.seq
 (.reg
 [⟨(some 20), none, (.mv (.t 0))⟩, ⟨(some 21), none, (.call fn_evergreenref21_Stretches [(.t 20)])⟩, ⟨(some 9), none, (.mv (.t 21))⟩])
 (.seq
 (.seq
 (.reg
 [⟨(some 22), none, (.mv (.t 9))⟩, ⟨(some 23), none, (.lens (.t 22))⟩, ⟨(some 24), none, (.mv (.c (.int .i64 0)))⟩])
 (.blk
 0
 (.loop
 (.seq
 (.reg
 [⟨(some 25), none, (.cmp .lss .i64 (.t 24) (.t 23))⟩])
 (.seq
 (.cond
 (.t 25)
 .skip
 (.exit 0))
 (.seq
 (.blk
 1
 (.seq
 (.reg
 [⟨(some 26), none, (.mv (.t 24))⟩, ⟨(some 10), none, (.mv (.t 26))⟩])
 (.seq
 (.reg
 [⟨(some 11), none, (.mv (.c (.int .i64 0)))⟩])
 (.blk
 2
 (.loop
 (.seq
 (.seq
 (.reg
 [⟨(some 27), none, (.mv (.t 11))⟩, ⟨(some 28), none, (.ar .add .i64 (.t 27) (.c (.int .i64 1)))⟩, ⟨(some 29), none, (.mv (.t 9))⟩, ⟨(some 30), none, (.mv (.t 10))⟩, ⟨(some 31), none, (.ia 2 (.t 29) (.t 30))⟩, ⟨(some 32), none, (.fa 1 (.t 31))⟩, ⟨(some 33), none, (.ld (.int .i64) (.t 32))⟩, ⟨(some 34), none, (.cmp .lss .i64 (.t 28) (.t 33))⟩])
 (.cond
 (.t 34)
 .skip
 (.exit 2)))
 (.seq
 (.blk
 3
 (.reg
 [⟨(some 37), none, (.mv (.t 8))⟩, ⟨(some 38), none, (.mv (.t 9))⟩, ⟨(some 39), none, (.mv (.t 10))⟩, ⟨(some 40), none, (.ia 2 (.t 38) (.t 39))⟩, ⟨(some 41), none, (.fa 0 (.t 40))⟩, ⟨(some 42), none, (.ld (.int .i64) (.t 41))⟩, ⟨(some 43), none, (.mv (.t 11))⟩, ⟨(some 44), none, (.ar .add .i64 (.t 42) (.t 43))⟩, ⟨(some 45), none, (.bsl 45 ty_int 1 1 [(.int .i64 0)] [(0, (1, (.t 44)))])⟩, ⟨(some 46), none, (.app 46 ty_int 1 8 (.t 37) (.t 45))⟩, ⟨(some 8), none, (.mv (.t 46))⟩]))
 (.reg
 [⟨(some 35), none, (.mv (.t 11))⟩, ⟨(some 36), none, (.ar .add .i64 (.t 35) (.c (.int .i64 2)))⟩, ⟨(some 11), none, (.mv (.t 36))⟩]))))))))
 (.reg
 [⟨(some 47), none, (.ar .add .i64 (.t 24) (.c (.int .i64 1)))⟩, ⟨(some 24), none, (.mv (.t 47))⟩])))))))
 (.seq
 (.reg
 [⟨(some 48), none, (.mv (.t 8))⟩, ⟨(some 4), none, (.mv (.t 48))⟩])
 .ret)))
 .skip))
 (.seq
 (.seq
 (.reg
 [⟨(some 12), none, (.mv (.c (.int .i64 0)))⟩])
 (.blk
 4
 (.loop
 (.seq
 (.seq
 (.reg
 [⟨(some 49), none, (.mv (.t 12))⟩, ⟨(some 50), none, (.ar .add .i64 (.t 49) (.c (.int .i64 1)))⟩, ⟨(some 51), none, (.mv (.t 0))⟩, ⟨(some 52), none, (.lens (.t 51))⟩, ⟨(some 53), none, (.cmp .lss .i64 (.t 50) (.t 52))⟩])
 (.cond
 (.t 53)
 .skip
 (.exit 4)))
 (.seq
 (.blk
 5
 (.seq
 (.drw
 [⟨(some 56), none, (.mv (.t 0))⟩, ⟨(some 57), none, (.mv (.t 12))⟩, ⟨(some 58), none, (.ia 1 (.t 56) (.t 57))⟩, ⟨(some 59), none, (.ld (.int .u64) (.t 58))⟩, ⟨(some 60), none, (.mv (.t 0))⟩, ⟨(some 61), none, (.mv (.t 12))⟩, ⟨(some 62), none, (.ar .add .i64 (.t 61) (.c (.int .i64 1)))⟩, ⟨(some 63), none, (.ia 1 (.t 60) (.t 62))⟩, ⟨(some 64), none, (.ld (.int .u64) (.t 63))⟩, ⟨(some 65), none, (.mv (.t 1))⟩, ⟨(some 66), none, (.call fn_evergreenref20_Fits [(.t 59), (.t 64), (.t 65)])⟩]
 (.take 0 (.take 1 (.take 2 (.take 3 (.take 4 (.take 5 (.take 6 (.take 7 (.take 8 (.take 9 (.alt 10 false .done .nil))))))))))))
 (.cond
 (.t 66)
 (.reg
 [⟨(some 67), none, (.mv (.t 8))⟩, ⟨(some 68), none, (.mv (.t 12))⟩, ⟨(some 69), none, (.bsl 69 ty_int 1 1 [(.int .i64 0)] [(0, (1, (.t 68)))])⟩, ⟨(some 70), none, (.app 70 ty_int 1 8 (.t 67) (.t 69))⟩, ⟨(some 8), none, (.mv (.t 70))⟩])
 .skip)))
 (.reg
 [⟨(some 54), none, (.mv (.t 12))⟩, ⟨(some 55), none, (.ar .add .i64 (.t 54) (.c (.int .i64 1)))⟩, ⟨(some 12), none, (.mv (.t 55))⟩]))))))
 (.seq
 (.reg
 [⟨(some 71), none, (.mv (.t 8))⟩, ⟨(some 4), none, (.mv (.t 71))⟩])
 .ret))))))
def ts_evergreenref21_Pairs : List (Nat × Tr) := [(17, (.take 0 (.take 1 (.take 2 (.take 3 (.take 4 (.take 5 (.take 6 (.take 7 (.take 8 (.take 9 (.alt 10 false .done .nil))))))))))))]
set_option maxRecDepth 100000 in
set_option maxHeartbeats 4000000 in
theorem ok_evergreenref21_Pairs : irOf Try.prog fn_evergreenref21_Pairs [] ts_evergreenref21_Pairs = some (72, [(.t 4)], ir_evergreenref21_Pairs) := by kernel_rfl
def ir_evergreenref20_Number : C :=
 (.seq
 (.reg
 [⟨(some 2), none, (.mv (.c (.int .i64 0)))⟩, ⟨(some 3), none, (.mv (.c (.int .u64 0)))⟩, ⟨(some 4), none, (.mv (.c (.bool false)))⟩])
 (.seq
 (.seq
 (.reg
 [⟨(some 6), none, (.mv (.t 0))⟩, ⟨(some 7), none, (.cmp .lss .i64 (.t 6) (.c (.int .i64 2)))⟩, ⟨(some 8), none, (.mv (.t 7))⟩, ⟨(some 9), (some (8, false)), (.mv (.t 0))⟩, ⟨(some 10), (some (8, false)), (.dv true .i64 (.t 9) (.c (.int .i64 2)))⟩, ⟨(some 11), (some (8, false)), (.cmp .neq .i64 (.t 10) (.c (.int .i64 0)))⟩, ⟨(some 12), none, (.pick (.t 8) (.c (.bool true)) (.t 11))⟩])
 (.cond
 (.t 12)
 (.seq
 (.reg
 [⟨(some 2), none, (.mv (.c (.int .i64 (-1))))⟩, ⟨(some 3), none, (.mv (.c (.int .u64 0)))⟩, ⟨(some 4), none, (.mv (.c (.bool false)))⟩])
 .ret)
 .skip))
 (.seq
 (.reg
 [⟨(some 13), none, (.mv (.t 0))⟩, ⟨(some 14), none, (.dv false .i64 (.t 13) (.c (.int .i64 2)))⟩, ⟨(some 15), none, (.ar .sub .i64 (.t 14) (.c (.int .i64 1)))⟩, ⟨(some 16), none, (.dv true .i64 (.t 15) (.c (.int .i64 123)))⟩, ⟨(some 5), none, (.mv (.t 16))⟩])
 (.seq
 (.seq
 (.reg
 [⟨(some 17), none, (.mv (.t 5))⟩, ⟨(some 18), none, (.cmp .eql .i64 (.t 17) (.c (.int .i64 122)))⟩])
 (.cond
 (.t 18)
 (.seq
 (.reg
 [⟨(some 2), none, (.mv (.c (.int .i64 0)))⟩, ⟨(some 3), none, (.mv (.c (.int .u64 0)))⟩, ⟨(some 4), none, (.mv (.c (.bool true)))⟩])
 .ret)
 .skip))
 (.seq
 (.reg
 [⟨(some 19), none, (.mv (.t 5))⟩, ⟨(some 20), none, (.dv false .i64 (.t 19) (.c (.int .i64 2)))⟩, ⟨(some 21), none, (.mv (.t 5))⟩, ⟨(some 22), none, (.dv true .i64 (.t 21) (.c (.int .i64 2)))⟩, ⟨(some 23), none, (.cv .u64 (.t 22))⟩, ⟨(some 2), none, (.mv (.t 20))⟩, ⟨(some 3), none, (.mv (.t 23))⟩, ⟨(some 4), none, (.mv (.c (.bool false)))⟩])
 .ret)))))
def ts_evergreenref20_Number : List (Nat × Tr) := []
set_option maxRecDepth 100000 in
set_option maxHeartbeats 4000000 in
theorem ok_evergreenref20_Number : irOf Try.prog fn_evergreenref20_Number [] ts_evergreenref20_Number = some (24, [(.t 2), (.t 3), (.t 4)], ir_evergreenref20_Number) := by kernel_rfl
def ir_evergreenref20_Fits : C :=
 (.seq
 (.reg
 [⟨(some 6), none, (.mv (.c (.bool false)))⟩])
 (.seq
 (.reg
 [⟨(some 11), none, (.mv (.t 2))⟩, ⟨(some 12), none, (.call fn_evergreenref20_Number [(.t 11)])⟩, ⟨(some 10), none, (.mv (.t 12))⟩, ⟨(some 13), none, (.ext (.t 10) 0)⟩, ⟨(some 14), none, (.ext (.t 10) 1)⟩, ⟨(some 15), none, (.ext (.t 10) 2)⟩, ⟨(some 7), none, (.mv (.t 13))⟩, ⟨(some 8), none, (.mv (.t 14))⟩, ⟨(some 9), none, (.mv (.t 15))⟩])
 (.seq
 (.seq
 (.reg
 [⟨(some 16), none, (.mv (.t 7))⟩, ⟨(some 17), none, (.cmp .lss .i64 (.t 16) (.c (.int .i64 0)))⟩])
 (.cond
 (.t 17)
 (.seq
 (.reg
 [⟨(some 6), none, (.mv (.c (.bool false)))⟩])
 .ret)
 .skip))
 (.seq
 (.seq
 (.reg
 [⟨(some 18), none, (.mv (.t 9))⟩])
 (.cond
 (.t 18)
 (.seq
 (.reg
 [⟨(some 19), none, (.mv (.t 0))⟩, ⟨(some 20), none, (.mv (.t 1))⟩, ⟨(some 21), none, (.cmp .eql .u64 (.t 19) (.t 20))⟩, ⟨(some 6), none, (.mv (.t 21))⟩])
 .ret)
 .skip))
 (.seq
 (.reg
 [⟨(some 22), none, (.mv (.t 0))⟩, ⟨(some 23), none, (.mv (.t 7))⟩, ⟨(some 24), none, (.sh false .u64 (.t 22) (.t 23))⟩, ⟨(some 25), none, (.bit .and .u64 (.t 24) (.c (.int .u64 1)))⟩, ⟨(some 26), none, (.mv (.t 8))⟩, ⟨(some 27), none, (.cmp .eql .u64 (.t 25) (.t 26))⟩, ⟨(some 28), none, (.mv (.t 27))⟩, ⟨(some 29), (some (28, true)), (.mv (.t 1))⟩, ⟨(some 30), (some (28, true)), (.mv (.t 7))⟩, ⟨(some 31), (some (28, true)), (.sh false .u64 (.t 29) (.t 30))⟩, ⟨(some 32), (some (28, true)), (.bit .and .u64 (.t 31) (.c (.int .u64 1)))⟩, ⟨(some 33), (some (28, true)), (.mv (.t 8))⟩, ⟨(some 34), (some (28, true)), (.ar .sub .u64 (.c (.int .u64 1)) (.t 33))⟩, ⟨(some 35), (some (28, true)), (.cmp .eql .u64 (.t 32) (.t 34))⟩, ⟨(some 36), none, (.pick (.t 28) (.t 35) (.c (.bool false)))⟩, ⟨(some 6), none, (.mv (.t 36))⟩])
 .ret)))))
def ts_evergreenref20_Fits : List (Nat × Tr) := []
set_option maxRecDepth 100000 in
set_option maxHeartbeats 4000000 in
theorem ok_evergreenref20_Fits : irOf Try.prog fn_evergreenref20_Fits [] ts_evergreenref20_Fits = some (37, [(.t 6)], ir_evergreenref20_Fits) := by kernel_rfl
def ir_evergreenbase_IDs : C :=
 (.seq
 (.reg
 [⟨(some 4), none, (.mv (.c (.bool false)))⟩])
 (.seq
 (.seq
 (.reg
 [⟨(some 6), none, (.mv (.t 0))⟩, ⟨(some 7), none, (.lens (.t 6))⟩, ⟨(some 8), none, (.mv (.t 1))⟩, ⟨(some 9), none, (.lens (.t 8))⟩, ⟨(some 10), none, (.cmp .neq .i64 (.t 7) (.t 9))⟩])
 (.cond
 (.t 10)
 (.seq
 (.reg
 [⟨(some 4), none, (.mv (.c (.bool false)))⟩])
 .ret)
 .skip))
 (.seq
 (.seq
 (.reg
 [⟨(some 5), none, (.mv (.c (.int .i64 0)))⟩])
 (.blk
 0
 (.loop
 (.seq
 (.seq
 (.reg
 [⟨(some 11), none, (.mv (.t 5))⟩, ⟨(some 12), none, (.mv (.t 0))⟩, ⟨(some 13), none, (.lens (.t 12))⟩, ⟨(some 14), none, (.cmp .lss .i64 (.t 11) (.t 13))⟩])
 (.cond
 (.t 14)
 .skip
 (.exit 0)))
 (.seq
 (.blk
 1
 (.seq
 (.drw
 [⟨(some 17), none, (.mv (.t 0))⟩, ⟨(some 18), none, (.mv (.t 5))⟩, ⟨(some 19), none, (.ia 1 (.t 17) (.t 18))⟩, ⟨(some 20), none, (.ld (.int .i64) (.t 19))⟩, ⟨(some 21), none, (.mv (.t 1))⟩, ⟨(some 22), none, (.mv (.t 5))⟩, ⟨(some 23), none, (.ia 1 (.t 21) (.t 22))⟩, ⟨(some 24), none, (.ld (.int .i64) (.t 23))⟩, ⟨(some 25), none, (.cmp .neq .i64 (.t 20) (.t 24))⟩]
 (.take 0 (.take 1 (.take 2 (.take 3 (.take 4 (.take 5 (.take 6 (.take 7 (.take 8 .done))))))))))
 (.cond
 (.t 25)
 (.seq
 (.reg
 [⟨(some 4), none, (.mv (.c (.bool false)))⟩])
 .ret)
 .skip)))
 (.reg
 [⟨(some 15), none, (.mv (.t 5))⟩, ⟨(some 16), none, (.ar .add .i64 (.t 15) (.c (.int .i64 1)))⟩, ⟨(some 5), none, (.mv (.t 16))⟩]))))))
 (.seq
 (.reg
 [⟨(some 4), none, (.mv (.c (.bool true)))⟩])
 .ret))))
def ts_evergreenbase_IDs : List (Nat × Tr) := [(6, (.take 0 (.take 1 (.take 2 (.take 3 (.take 4 (.take 5 (.take 6 (.take 7 (.take 8 .done))))))))))]
set_option maxRecDepth 100000 in
set_option maxHeartbeats 4000000 in
theorem ok_evergreenbase_IDs : irOf Try.prog fn_evergreenbase_IDs [] ts_evergreenbase_IDs = some (26, [(.t 4)], ir_evergreenbase_IDs) := by kernel_rfl
def ir_evergreenbase_Ints : C :=
 (.seq
 (.reg
 [⟨(some 4), none, (.mv (.c (.bool false)))⟩])
 (.seq
 (.seq
 (.reg
 [⟨(some 6), none, (.mv (.t 0))⟩, ⟨(some 7), none, (.lens (.t 6))⟩, ⟨(some 8), none, (.mv (.t 1))⟩, ⟨(some 9), none, (.lens (.t 8))⟩, ⟨(some 10), none, (.cmp .neq .i64 (.t 7) (.t 9))⟩])
 (.cond
 (.t 10)
 (.seq
 (.reg
 [⟨(some 4), none, (.mv (.c (.bool false)))⟩])
 .ret)
 .skip))
 (.seq
 (.seq
 (.reg
 [⟨(some 5), none, (.mv (.c (.int .i64 0)))⟩])
 (.blk
 0
 (.loop
 (.seq
 (.seq
 (.reg
 [⟨(some 11), none, (.mv (.t 5))⟩, ⟨(some 12), none, (.mv (.t 0))⟩, ⟨(some 13), none, (.lens (.t 12))⟩, ⟨(some 14), none, (.cmp .lss .i64 (.t 11) (.t 13))⟩])
 (.cond
 (.t 14)
 .skip
 (.exit 0)))
 (.seq
 (.blk
 1
 (.seq
 (.drw
 [⟨(some 17), none, (.mv (.t 0))⟩, ⟨(some 18), none, (.mv (.t 5))⟩, ⟨(some 19), none, (.ia 1 (.t 17) (.t 18))⟩, ⟨(some 20), none, (.ld (.int .i64) (.t 19))⟩, ⟨(some 21), none, (.mv (.t 1))⟩, ⟨(some 22), none, (.mv (.t 5))⟩, ⟨(some 23), none, (.ia 1 (.t 21) (.t 22))⟩, ⟨(some 24), none, (.ld (.int .i64) (.t 23))⟩, ⟨(some 25), none, (.cmp .neq .i64 (.t 20) (.t 24))⟩]
 (.take 0 (.take 1 (.take 2 (.take 3 (.take 4 (.take 5 (.take 6 (.take 7 (.take 8 .done))))))))))
 (.cond
 (.t 25)
 (.seq
 (.reg
 [⟨(some 4), none, (.mv (.c (.bool false)))⟩])
 .ret)
 .skip)))
 (.reg
 [⟨(some 15), none, (.mv (.t 5))⟩, ⟨(some 16), none, (.ar .add .i64 (.t 15) (.c (.int .i64 1)))⟩, ⟨(some 5), none, (.mv (.t 16))⟩]))))))
 (.seq
 (.reg
 [⟨(some 4), none, (.mv (.c (.bool true)))⟩])
 .ret))))
def ts_evergreenbase_Ints : List (Nat × Tr) := [(6, (.take 0 (.take 1 (.take 2 (.take 3 (.take 4 (.take 5 (.take 6 (.take 7 (.take 8 .done))))))))))]
set_option maxRecDepth 100000 in
set_option maxHeartbeats 4000000 in
theorem ok_evergreenbase_Ints : irOf Try.prog fn_evergreenbase_Ints [] ts_evergreenbase_Ints = some (26, [(.t 4)], ir_evergreenbase_Ints) := by kernel_rfl
def ir_evergreenlaw21_awake : C :=
 (.seq
 (.reg
 [⟨(some 0), none, (.mv (.c (.bool false)))⟩])
 (.seq
 (.reg
 [⟨(some 2), none, (.bsl 2 ty_api_ID 1 4 [(.int .i64 0), (.int .i64 0), (.int .i64 0), (.int .i64 0)] [(0, (1, (.c (.int .i64 7)))), (1, (1, (.c (.int .i64 7)))), (2, (1, (.c (.int .i64 4)))), (3, (1, (.c (.int .i64 7))))])⟩, ⟨(some 3), none, (.call fn_levels_Runs [(.t 2)])⟩, ⟨(some 1), none, (.mv (.t 3))⟩])
 (.seq
 (.reg
 [⟨(some 4), none, (.mv (.t 1))⟩, ⟨(some 5), none, (.lens (.t 4))⟩, ⟨(some 6), none, (.cmp .eql .i64 (.t 5) (.c (.int .i64 3)))⟩, ⟨(some 7), none, (.mv (.t 6))⟩, ⟨(some 8), (some (7, true)), (.mv (.t 1))⟩, ⟨(some 9), (some (7, true)), (.ia 2 (.t 8) (.c (.int .i64 0)))⟩, ⟨(some 10), (some (7, true)), (.lda 2 [(.int .i64), (.int .i64)] (.t 9))⟩, ⟨(some 11), (some (7, true)), (.bld [(.int .i64 0), (.int .i64 0)] [(0, (1, (.c (.int .i64 7)))), (1, (1, (.c (.int .i64 2))))])⟩, ⟨(some 12), (some (7, true)), (.eqa false [(.int .i64), (.int .i64)] (.t 10) (.t 11))⟩, ⟨(some 13), none, (.pick (.t 7) (.t 12) (.c (.bool false)))⟩, ⟨(some 14), none, (.mv (.t 13))⟩, ⟨(some 15), (some (14, true)), (.bsl 15 ty_uint64 1 5 [(.int .u64 0), (.int .u64 0), (.int .u64 0), (.int .u64 0), (.int .u64 0)] [(0, (1, (.c (.int .u64 2)))), (1, (1, (.c (.int .u64 1)))), (2, (1, (.c (.int .u64 2)))), (3, (1, (.c (.int .u64 2)))), (4, (1, (.c (.int .u64 3))))])⟩, ⟨(some 16), (some (14, true)), (.call fn_levels_Pairs [(.t 15), (.c (.int .i64 2))])⟩, ⟨(some 17), (some (14, true)), (.bsl 17 ty_int 1 2 [(.int .i64 0), (.int .i64 0)] [(0, (1, (.c (.int .i64 0)))), (1, (1, (.c (.int .i64 3))))])⟩, ⟨(some 18), (some (14, true)), (.call fn_evergreenbase_Ints [(.t 16), (.t 17)])⟩, ⟨(some 19), none, (.pick (.t 14) (.t 18) (.c (.bool false)))⟩, ⟨(some 20), none, (.mv (.t 19))⟩, ⟨(some 21), (some (20, true)), (.bsl 21 ty_uint64 1 5 [(.int .u64 0), (.int .u64 0), (.int .u64 0), (.int .u64 0), (.int .u64 0)] [(0, (1, (.c (.int .u64 5)))), (1, (1, (.c (.int .u64 5)))), (2, (1, (.c (.int .u64 5)))), (3, (1, (.c (.int .u64 5)))), (4, (1, (.c (.int .u64 5))))])⟩, ⟨(some 22), (some (20, true)), (.call fn_levels_Pairs [(.t 21), (.c (.int .i64 246))])⟩, ⟨(some 23), (some (20, true)), (.bsl 23 ty_int 1 2 [(.int .i64 0), (.int .i64 0)] [(0, (1, (.c (.int .i64 0)))), (1, (1, (.c (.int .i64 2))))])⟩, ⟨(some 24), (some (20, true)), (.call fn_evergreenbase_Ints [(.t 22), (.t 23)])⟩, ⟨(some 25), none, (.pick (.t 20) (.t 24) (.c (.bool false)))⟩, ⟨(some 0), none, (.mv (.t 25))⟩])
 .ret)))
def ts_evergreenlaw21_awake : List (Nat × Tr) := []
set_option maxRecDepth 100000 in
set_option maxHeartbeats 4000000 in
theorem ok_evergreenlaw21_awake : irOf Try.prog fn_evergreenlaw21_awake [] ts_evergreenlaw21_awake = some (26, [(.t 0)], ir_evergreenlaw21_awake) := by kernel_rfl
def ir_evergreenlaw21_LevelsRuns : C :=
 (.seq
 (.reg
 [⟨(some 2), none, (.mv (.c (.bool false)))⟩])
 (.seq
 (.seq
 (.reg
 [⟨(some 7), none, (.call fn_evergreenlaw21_awake [])⟩, ⟨(some 8), none, (.not (.t 7))⟩, ⟨(some 9), none, (.mv (.t 8))⟩, ⟨(some 10), (some (9, false)), (.mv (.t 0))⟩, ⟨(some 11), (some (9, false)), (.lens (.t 10))⟩, ⟨(some 12), (some (9, false)), (.cmp .gtr .i64 (.t 11) (.c (.int .i64 400)))⟩, ⟨(some 13), none, (.pick (.t 9) (.c (.bool true)) (.t 12))⟩])
 (.cond
 (.t 13)
 (.seq
 (.reg
 [⟨(some 14), none, (.call fn_evergreenlaw21_awake [])⟩, ⟨(some 2), none, (.mv (.t 14))⟩])
 .ret)
 .skip))
 (.seq
 (.reg
 [⟨(some 15), none, (.mv (.t 0))⟩, ⟨(some 16), none, (.call fn_levels_Runs [(.t 15)])⟩, ⟨(some 17), none, (.mv (.t 0))⟩, ⟨(some 18), none, (.call fn_evergreenref21_Runs [(.t 17)])⟩, ⟨(some 3), none, (.mv (.t 16))⟩, ⟨(some 4), none, (.mv (.t 18))⟩])
 (.seq
 (.seq
 (.reg
 [⟨(some 19), none, (.mv (.t 3))⟩, ⟨(some 20), none, (.lens (.t 19))⟩, ⟨(some 21), none, (.mv (.t 4))⟩, ⟨(some 22), none, (.lens (.t 21))⟩, ⟨(some 23), none, (.cmp .neq .i64 (.t 20) (.t 22))⟩])
 (.cond
 (.t 23)
 (.seq
 (.reg
 [⟨(some 2), none, (.mv (.c (.bool false)))⟩])
 .ret)
 .skip))
 (.seq
 (.reg
 [⟨(some 5), none, (.mv (.c (.slice none 0 0)))⟩])
 (.seq
 (.seq
 (.reg
 [⟨(some 24), none, (.mv (.t 3))⟩, ⟨(some 25), none, (.lens (.t 24))⟩, ⟨(some 26), none, (.mv (.c (.int .i64 0)))⟩])
 (.blk
 0
 (.loop
 (.seq
 (.reg
 [⟨(some 27), none, (.cmp .lss .i64 (.t 26) (.t 25))⟩])
 (.seq
 (.cond
 (.t 27)
 .skip
 (.exit 0))
 (.seq
 (.blk
 1
 (.seq
 (.reg
 [⟨(some 28), none, (.mv (.t 26))⟩, ⟨(some 6), none, (.mv (.t 28))⟩])
 (.seq
 (.seq
 (.drw
 [⟨(some 29), none, (.mv (.t 3))⟩, ⟨(some 30), none, (.mv (.t 6))⟩, ⟨(some 31), none, (.ia 2 (.t 29) (.t 30))⟩, ⟨(some 32), none, (.lda 2 [(.int .i64), (.int .i64)] (.t 31))⟩, ⟨(some 33), none, (.mv (.t 4))⟩, ⟨(some 34), none, (.mv (.t 6))⟩, ⟨(some 35), none, (.ia 2 (.t 33) (.t 34))⟩, ⟨(some 36), none, (.lda 2 [(.int .i64), (.int .i64)] (.t 35))⟩, ⟨(some 37), none, (.eqa true [(.int .i64), (.int .i64)] (.t 32) (.t 36))⟩]
 (.take 0 (.take 1 (.take 2 (.take 3 (.take 4 (.take 5 (.take 6 (.take 7 (.take 8 .done))))))))))
 (.cond
 (.t 37)
 (.seq
 (.reg
 [⟨(some 2), none, (.mv (.c (.bool false)))⟩])
 .ret)
 .skip))
 (.seq
 (.reg
 [⟨(some 38), none, (.mv (.t 3))⟩, ⟨(some 39), none, (.mv (.t 6))⟩, ⟨(some 40), none, (.ia 2 (.t 38) (.t 39))⟩, ⟨(some 41), none, (.fa 1 (.t 40))⟩, ⟨(some 42), none, (.ld (.int .i64) (.t 41))⟩, ⟨(some 43), none, (.mv (.c (.int .i64 0)))⟩])
 (.blk
 2
 (.loop
 (.seq
 (.reg
 [⟨(some 44), none, (.cmp .lss .i64 (.t 43) (.t 42))⟩])
 (.seq
 (.cond
 (.t 44)
 .skip
 (.exit 2))
 (.seq
 (.blk
 3
 (.reg
 [⟨(some 45), none, (.mv (.t 5))⟩, ⟨(some 46), none, (.mv (.t 3))⟩, ⟨(some 47), none, (.mv (.t 6))⟩, ⟨(some 48), none, (.ia 2 (.t 46) (.t 47))⟩, ⟨(some 49), none, (.fa 0 (.t 48))⟩, ⟨(some 50), none, (.ld (.int .i64) (.t 49))⟩, ⟨(some 51), none, (.bsl 51 ty_api_ID 1 1 [(.int .i64 0)] [(0, (1, (.t 50)))])⟩, ⟨(some 52), none, (.app 52 ty_api_ID 1 8 (.t 45) (.t 51))⟩, ⟨(some 5), none, (.mv (.t 52))⟩]))
 (.reg
 [⟨(some 53), none, (.ar .add .i64 (.t 43) (.c (.int .i64 1)))⟩, ⟨(some 43), none, (.mv (.t 53))⟩]))))))))))
 (.reg
 [⟨(some 54), none, (.ar .add .i64 (.t 26) (.c (.int .i64 1)))⟩, ⟨(some 26), none, (.mv (.t 54))⟩])))))))
 (.seq
 (.reg
 [⟨(some 55), none, (.mv (.t 5))⟩, ⟨(some 56), none, (.mv (.t 0))⟩, ⟨(some 57), none, (.call fn_evergreenbase_IDs [(.t 55), (.t 56)])⟩, ⟨(some 2), none, (.mv (.t 57))⟩])
 .ret)))))))
def ts_evergreenlaw21_LevelsRuns : List (Nat × Tr) := [(10, (.take 0 (.take 1 (.take 2 (.take 3 (.take 4 (.take 5 (.take 6 (.take 7 (.take 8 .done))))))))))]
set_option maxRecDepth 100000 in
set_option maxHeartbeats 4000000 in
theorem ok_evergreenlaw21_LevelsRuns : irOf Try.prog fn_evergreenlaw21_LevelsRuns [] ts_evergreenlaw21_LevelsRuns = some (58, [(.t 2)], ir_evergreenlaw21_LevelsRuns) := by kernel_rfl
def ir_evergreenlaw21_LevelsStretches : C :=
 (.seq
 (.reg
 [⟨(some 2), none, (.mv (.c (.bool false)))⟩])
 (.seq
 (.seq
 (.reg
 [⟨(some 6), none, (.call fn_evergreenlaw21_awake [])⟩, ⟨(some 7), none, (.not (.t 6))⟩, ⟨(some 8), none, (.mv (.t 7))⟩, ⟨(some 9), (some (8, false)), (.mv (.t 0))⟩, ⟨(some 10), (some (8, false)), (.lens (.t 9))⟩, ⟨(some 11), (some (8, false)), (.cmp .gtr .i64 (.t 10) (.c (.int .i64 400)))⟩, ⟨(some 12), none, (.pick (.t 8) (.c (.bool true)) (.t 11))⟩])
 (.cond
 (.t 12)
 (.seq
 (.reg
 [⟨(some 13), none, (.call fn_evergreenlaw21_awake [])⟩, ⟨(some 2), none, (.mv (.t 13))⟩])
 .ret)
 .skip))
 (.seq
 (.reg
 [⟨(some 14), none, (.mv (.t 0))⟩, ⟨(some 15), none, (.call fn_levels_Stretches [(.t 14)])⟩, ⟨(some 16), none, (.mv (.t 0))⟩, ⟨(some 17), none, (.call fn_evergreenref21_Stretches [(.t 16)])⟩, ⟨(some 3), none, (.mv (.t 15))⟩, ⟨(some 4), none, (.mv (.t 17))⟩])
 (.seq
 (.seq
 (.reg
 [⟨(some 18), none, (.mv (.t 3))⟩, ⟨(some 19), none, (.lens (.t 18))⟩, ⟨(some 20), none, (.mv (.t 4))⟩, ⟨(some 21), none, (.lens (.t 20))⟩, ⟨(some 22), none, (.cmp .neq .i64 (.t 19) (.t 21))⟩])
 (.cond
 (.t 22)
 (.seq
 (.reg
 [⟨(some 2), none, (.mv (.c (.bool false)))⟩])
 .ret)
 .skip))
 (.seq
 (.seq
 (.reg
 [⟨(some 23), none, (.mv (.t 3))⟩, ⟨(some 24), none, (.lens (.t 23))⟩, ⟨(some 25), none, (.mv (.c (.int .i64 0)))⟩])
 (.blk
 0
 (.loop
 (.seq
 (.reg
 [⟨(some 26), none, (.cmp .lss .i64 (.t 25) (.t 24))⟩])
 (.seq
 (.cond
 (.t 26)
 .skip
 (.exit 0))
 (.seq
 (.blk
 1
 (.seq
 (.reg
 [⟨(some 27), none, (.mv (.t 25))⟩, ⟨(some 5), none, (.mv (.t 27))⟩])
 (.seq
 (.drw
 [⟨(some 28), none, (.mv (.t 3))⟩, ⟨(some 29), none, (.mv (.t 5))⟩, ⟨(some 30), none, (.ia 2 (.t 28) (.t 29))⟩, ⟨(some 31), none, (.lda 2 [(.int .i64), (.int .i64)] (.t 30))⟩, ⟨(some 32), none, (.mv (.t 4))⟩, ⟨(some 33), none, (.mv (.t 5))⟩, ⟨(some 34), none, (.ia 2 (.t 32) (.t 33))⟩, ⟨(some 35), none, (.lda 2 [(.int .i64), (.int .i64)] (.t 34))⟩, ⟨(some 36), none, (.eqa true [(.int .i64), (.int .i64)] (.t 31) (.t 35))⟩]
 (.take 0 (.take 1 (.take 2 (.take 3 (.take 4 (.take 5 (.take 6 (.take 7 (.take 8 .done))))))))))
 (.cond
 (.t 36)
 (.seq
 (.reg
 [⟨(some 2), none, (.mv (.c (.bool false)))⟩])
 .ret)
 .skip))))
 (.reg
 [⟨(some 37), none, (.ar .add .i64 (.t 25) (.c (.int .i64 1)))⟩, ⟨(some 25), none, (.mv (.t 37))⟩])))))))
 (.seq
 (.reg
 [⟨(some 2), none, (.mv (.c (.bool true)))⟩])
 .ret))))))
def ts_evergreenlaw21_LevelsStretches : List (Nat × Tr) := [(9, (.take 0 (.take 1 (.take 2 (.take 3 (.take 4 (.take 5 (.take 6 (.take 7 (.take 8 .done))))))))))]
set_option maxRecDepth 100000 in
set_option maxHeartbeats 4000000 in
theorem ok_evergreenlaw21_LevelsStretches : irOf Try.prog fn_evergreenlaw21_LevelsStretches [] ts_evergreenlaw21_LevelsStretches = some (38, [(.t 2)], ir_evergreenlaw21_LevelsStretches) := by kernel_rfl
def ir_evergreenlaw21_LevelsPairs : C :=
 (.seq
 (.reg
 [⟨(some 4), none, (.mv (.c (.bool false)))⟩])
 (.seq
 (.seq
 (.reg
 [⟨(some 5), none, (.call fn_evergreenlaw21_awake [])⟩, ⟨(some 6), none, (.not (.t 5))⟩, ⟨(some 7), none, (.mv (.t 6))⟩, ⟨(some 8), (some (7, false)), (.mv (.t 0))⟩, ⟨(some 9), (some (7, false)), (.lens (.t 8))⟩, ⟨(some 10), (some (7, false)), (.cmp .gtr .i64 (.t 9) (.c (.int .i64 400)))⟩, ⟨(some 11), none, (.pick (.t 7) (.c (.bool true)) (.t 10))⟩])
 (.cond
 (.t 11)
 (.seq
 (.reg
 [⟨(some 12), none, (.call fn_evergreenlaw21_awake [])⟩, ⟨(some 4), none, (.mv (.t 12))⟩])
 .ret)
 .skip))
 (.seq
 (.reg
 [⟨(some 13), none, (.mv (.t 0))⟩, ⟨(some 14), none, (.mv (.t 1))⟩, ⟨(some 15), none, (.call fn_levels_Pairs [(.t 13), (.t 14)])⟩, ⟨(some 16), none, (.mv (.t 0))⟩, ⟨(some 17), none, (.mv (.t 1))⟩, ⟨(some 18), none, (.call fn_evergreenref21_Pairs [(.t 16), (.t 17)])⟩, ⟨(some 19), none, (.call fn_evergreenbase_Ints [(.t 15), (.t 18)])⟩, ⟨(some 4), none, (.mv (.t 19))⟩])
 .ret)))
def ts_evergreenlaw21_LevelsPairs : List (Nat × Tr) := []
set_option maxRecDepth 100000 in
set_option maxHeartbeats 4000000 in
theorem ok_evergreenlaw21_LevelsPairs : irOf Try.prog fn_evergreenlaw21_LevelsPairs [] ts_evergreenlaw21_LevelsPairs = some (20, [(.t 4)], ir_evergreenlaw21_LevelsPairs) := by kernel_rfl
def ir_evergreenlaw21_LevelsRounds : C :=
 (.seq
 (.reg
 [⟨(some 4), none, (.mv (.c (.bool false)))⟩])
 (.seq
 (.seq
 (.reg
 [⟨(some 12), none, (.call fn_evergreenlaw21_awake [])⟩, ⟨(some 13), none, (.not (.t 12))⟩, ⟨(some 14), none, (.mv (.t 13))⟩, ⟨(some 15), (some (14, false)), (.mv (.t 0))⟩, ⟨(some 16), (some (14, false)), (.lens (.t 15))⟩, ⟨(some 17), (some (14, false)), (.cmp .gtr .i64 (.t 16) (.c (.int .i64 60)))⟩, ⟨(some 18), none, (.pick (.t 14) (.c (.bool true)) (.t 17))⟩])
 (.cond
 (.t 18)
 (.seq
 (.reg
 [⟨(some 19), none, (.call fn_evergreenlaw21_awake [])⟩, ⟨(some 4), none, (.mv (.t 19))⟩])
 .ret)
 .skip))
 (.seq
 (.reg
 [⟨(some 20), none, (.mv (.t 1))⟩, ⟨(some 21), none, (.cv .i64 (.t 20))⟩, ⟨(some 22), none, (.dv true .i64 (.t 21) (.c (.int .i64 1000)))⟩, ⟨(some 23), none, (.ar .add .i64 (.c (.int .i64 1)) (.t 22))⟩, ⟨(some 24), none, (.ar .mul .i64 (.c (.int .i64 2)) (.t 23))⟩, ⟨(some 5), none, (.mv (.t 24))⟩])
 (.seq
 (.seq
 (.reg
 [⟨(some 6), none, (.mv (.c (.int .i64 0)))⟩])
 (.blk
 0
 (.loop
 (.seq
 (.seq
 (.reg
 [⟨(some 25), none, (.mv (.t 6))⟩, ⟨(some 26), none, (.ar .add .i64 (.t 25) (.c (.int .i64 1)))⟩, ⟨(some 27), none, (.mv (.t 0))⟩, ⟨(some 28), none, (.lens (.t 27))⟩, ⟨(some 29), none, (.cmp .lss .i64 (.t 26) (.t 28))⟩])
 (.cond
 (.t 29)
 .skip
 (.exit 0)))
 (.seq
 (.blk
 1
 (.seq
 (.drw
 [⟨(some 32), none, (.mv (.t 0))⟩, ⟨(some 33), none, (.mv (.t 6))⟩, ⟨(some 34), none, (.ia 1 (.t 32) (.t 33))⟩, ⟨(some 35), none, (.ld (.int .u64) (.t 34))⟩, ⟨(some 36), none, (.mv (.t 0))⟩, ⟨(some 37), none, (.mv (.t 6))⟩, ⟨(some 38), none, (.ar .add .i64 (.t 37) (.c (.int .i64 1)))⟩, ⟨(some 39), none, (.ia 1 (.t 36) (.t 38))⟩, ⟨(some 40), none, (.ld (.int .u64) (.t 39))⟩, ⟨(some 7), none, (.mv (.t 35))⟩, ⟨(some 8), none, (.mv (.t 40))⟩]
 (.take 0 (.take 1 (.take 2 (.take 3 (.take 4 (.take 5 (.take 6 (.take 7 (.take 8 (.take 9 (.take 10 .done))))))))))))
 (.seq
 (.reg
 [⟨(some 9), none, (.mv (.c (.int .i64 0)))⟩])
 (.seq
 (.seq
 (.reg
 [⟨(some 41), none, (.mv (.c (.int .i64 0)))⟩])
 (.blk
 2
 (.loop
 (.seq
 (.reg
 [⟨(some 42), none, (.cmp .lss .i64 (.t 41) (.c (.int .i64 123)))⟩])
 (.seq
 (.cond
 (.t 42)
 .skip
 (.exit 2))
 (.seq
 (.blk
 3
 (.seq
 (.reg
 [⟨(some 43), none, (.mv (.t 41))⟩, ⟨(some 10), none, (.mv (.t 43))⟩])
 (.reg
 [⟨(some 44), none, (.mv (.t 9))⟩, ⟨(some 45), none, (.mv (.t 7))⟩, ⟨(some 46), none, (.mv (.t 8))⟩, ⟨(some 47), none, (.bsl 47 ty_uint64 1 2 [(.int .u64 0), (.int .u64 0)] [(0, (1, (.t 45))), (1, (1, (.t 46)))])⟩, ⟨(some 48), none, (.mv (.t 5))⟩, ⟨(some 49), none, (.mv (.t 10))⟩, ⟨(some 50), none, (.ar .mul .i64 (.c (.int .i64 2)) (.t 49))⟩, ⟨(some 51), none, (.ar .add .i64 (.t 48) (.t 50))⟩, ⟨(some 52), none, (.call fn_levels_Pairs [(.t 47), (.t 51)])⟩, ⟨(some 53), none, (.lens (.t 52))⟩, ⟨(some 54), none, (.ar .add .i64 (.t 44) (.t 53))⟩, ⟨(some 9), none, (.mv (.t 54))⟩])))
 (.reg
 [⟨(some 55), none, (.ar .add .i64 (.t 41) (.c (.int .i64 1)))⟩, ⟨(some 41), none, (.mv (.t 55))⟩])))))))
 (.seq
 (.reg
 [⟨(some 56), none, (.mv (.t 7))⟩, ⟨(some 57), none, (.mv (.t 8))⟩, ⟨(some 58), none, (.cmp .neq .u64 (.t 56) (.t 57))⟩, ⟨(some 59), none, (.mv (.t 58))⟩, ⟨(some 60), (some (59, true)), (.mv (.t 7))⟩, ⟨(some 61), (some (59, true)), (.mv (.t 8))⟩, ⟨(some 62), (some (59, true)), (.bit .xor .u64 (.t 60) (.t 61))⟩, ⟨(some 63), (some (59, true)), (.sh true .u64 (.t 62) (.c (.int .u64 3)))⟩, ⟨(some 64), (some (59, true)), (.cmp .eql .u64 (.t 63) (.c (.int .u64 0)))⟩, ⟨(some 65), none, (.pick (.t 59) (.t 64) (.c (.bool false)))⟩, ⟨(some 11), none, (.mv (.t 65))⟩])
 (.seq
 (.reg
 [⟨(some 66), none, (.mv (.t 11))⟩, ⟨(some 67), none, (.mv (.t 9))⟩, ⟨(some 68), none, (.cmp .eql .i64 (.t 67) (.c (.int .i64 0)))⟩, ⟨(some 69), none, (.eqb true (.t 66) (.t 68))⟩])
 (.cond
 (.t 69)
 (.seq
 (.reg
 [⟨(some 4), none, (.mv (.c (.bool false)))⟩])
 .ret)
 .skip)))))))
 (.reg
 [⟨(some 30), none, (.mv (.t 6))⟩, ⟨(some 31), none, (.ar .add .i64 (.t 30) (.c (.int .i64 1)))⟩, ⟨(some 6), none, (.mv (.t 31))⟩]))))))
 (.seq
 (.reg
 [⟨(some 4), none, (.mv (.c (.bool true)))⟩])
 .ret)))))
def ts_evergreenlaw21_LevelsRounds : List (Nat × Tr) := [(7, (.take 0 (.take 1 (.take 2 (.take 3 (.take 4 (.take 5 (.take 6 (.take 7 (.take 8 (.take 9 (.take 10 .done))))))))))))]
set_option maxRecDepth 100000 in
set_option maxHeartbeats 4000000 in
theorem ok_evergreenlaw21_LevelsRounds : irOf Try.prog fn_evergreenlaw21_LevelsRounds [] ts_evergreenlaw21_LevelsRounds = some (70, [(.t 4)], ir_evergreenlaw21_LevelsRounds) := by kernel_rfl
def ir_evergreenlaw21_LevelsTies : C :=
 (.seq
 (.reg
 [⟨(some 4), none, (.mv (.c (.bool false)))⟩])
 (.seq
 (.seq
 (.reg
 [⟨(some 11), none, (.call fn_evergreenlaw21_awake [])⟩, ⟨(some 12), none, (.not (.t 11))⟩, ⟨(some 13), none, (.mv (.t 12))⟩, ⟨(some 14), (some (13, false)), (.mv (.t 0))⟩, ⟨(some 15), (some (13, false)), (.lens (.t 14))⟩, ⟨(some 16), (some (13, false)), (.cmp .gtr .i64 (.t 15) (.c (.int .i64 400)))⟩, ⟨(some 17), none, (.pick (.t 13) (.c (.bool true)) (.t 16))⟩])
 (.cond
 (.t 17)
 (.seq
 (.reg
 [⟨(some 18), none, (.call fn_evergreenlaw21_awake [])⟩, ⟨(some 4), none, (.mv (.t 18))⟩])
 .ret)
 .skip))
 (.seq
 (.reg
 [⟨(some 5), none, (.mv (.c (.int .i64 0)))⟩])
 (.seq
 (.seq
 (.reg
 [⟨(some 19), none, (.mv (.t 0))⟩, ⟨(some 20), none, (.call fn_levels_Stretches [(.t 19)])⟩, ⟨(some 21), none, (.lens (.t 20))⟩, ⟨(some 22), none, (.mv (.c (.int .i64 0)))⟩])
 (.blk
 0
 (.loop
 (.seq
 (.reg
 [⟨(some 23), none, (.cmp .lss .i64 (.t 22) (.t 21))⟩])
 (.seq
 (.cond
 (.t 23)
 .skip
 (.exit 0))
 (.seq
 (.blk
 1
 (.seq
 (.reg
 [⟨(some 24), none, (.ia 2 (.t 20) (.t 22))⟩, ⟨(some 25), none, (.lda 2 [(.int .i64), (.int .i64)] (.t 24))⟩, ⟨(some 7), none, (.alc 7 ty_api_Span [(.int .i64 0), (.int .i64 0)])⟩, ⟨none, none, (.st 2 (.t 7) (.t 25))⟩])
 (.reg
 [⟨(some 26), none, (.mv (.t 5))⟩, ⟨(some 27), none, (.fa 1 (.t 7))⟩, ⟨(some 28), none, (.ld (.int .i64) (.t 27))⟩, ⟨(some 29), none, (.dv false .i64 (.t 28) (.c (.int .i64 2)))⟩, ⟨(some 30), none, (.ar .add .i64 (.t 26) (.t 29))⟩, ⟨(some 5), none, (.mv (.t 30))⟩])))
 (.reg
 [⟨(some 31), none, (.ar .add .i64 (.t 22) (.c (.int .i64 1)))⟩, ⟨(some 22), none, (.mv (.t 31))⟩])))))))
 (.seq
 (.reg
 [⟨(some 32), none, (.mv (.t 0))⟩, ⟨(some 33), none, (.mv (.t 1))⟩, ⟨(some 34), none, (.cv .i64 (.t 33))⟩, ⟨(some 35), none, (.ar .add .i64 (.c (.int .i64 1)) (.t 34))⟩, ⟨(some 36), none, (.ar .mul .i64 (.c (.int .i64 246)) (.t 35))⟩, ⟨(some 37), none, (.call fn_levels_Pairs [(.t 32), (.t 36)])⟩, ⟨(some 8), none, (.mv (.t 37))⟩])
 (.seq
 (.seq
 (.reg
 [⟨(some 38), none, (.mv (.t 8))⟩, ⟨(some 39), none, (.lens (.t 38))⟩, ⟨(some 40), none, (.mv (.c (.int .i64 0)))⟩])
 (.blk
 2
 (.loop
 (.seq
 (.reg
 [⟨(some 41), none, (.cmp .lss .i64 (.t 40) (.t 39))⟩])
 (.seq
 (.cond
 (.t 41)
 .skip
 (.exit 2))
 (.seq
 (.blk
 3
 (.seq
 (.reg
 [⟨(some 42), none, (.ia 1 (.t 38) (.t 40))⟩, ⟨(some 43), none, (.ld (.int .i64) (.t 42))⟩, ⟨(some 10), none, (.mv (.t 43))⟩])
 (.seq
 (.drw
 [⟨(some 44), none, (.mv (.t 0))⟩, ⟨(some 45), none, (.mv (.t 10))⟩, ⟨(some 46), none, (.ia 1 (.t 44) (.t 45))⟩, ⟨(some 47), none, (.ld (.int .u64) (.t 46))⟩, ⟨(some 48), none, (.mv (.t 0))⟩, ⟨(some 49), none, (.mv (.t 10))⟩, ⟨(some 50), none, (.ar .add .i64 (.t 49) (.c (.int .i64 1)))⟩, ⟨(some 51), none, (.ia 1 (.t 48) (.t 50))⟩, ⟨(some 52), none, (.ld (.int .u64) (.t 51))⟩, ⟨(some 53), none, (.cmp .neq .u64 (.t 47) (.t 52))⟩]
 (.take 0 (.take 1 (.take 2 (.take 3 (.take 4 (.take 5 (.take 6 (.take 7 (.take 8 (.take 9 .done)))))))))))
 (.cond
 (.t 53)
 (.seq
 (.reg
 [⟨(some 4), none, (.mv (.c (.bool false)))⟩])
 .ret)
 .skip))))
 (.reg
 [⟨(some 54), none, (.ar .add .i64 (.t 40) (.c (.int .i64 1)))⟩, ⟨(some 40), none, (.mv (.t 54))⟩])))))))
 (.seq
 (.reg
 [⟨(some 55), none, (.mv (.t 8))⟩, ⟨(some 56), none, (.lens (.t 55))⟩, ⟨(some 57), none, (.mv (.t 5))⟩, ⟨(some 58), none, (.cmp .eql .i64 (.t 56) (.t 57))⟩, ⟨(some 4), none, (.mv (.t 58))⟩])
 .ret)))))))
def ts_evergreenlaw21_LevelsTies : List (Nat × Tr) := [(13, (.take 0 (.take 1 (.take 2 (.take 3 (.take 4 (.take 5 (.take 6 (.take 7 (.take 8 (.take 9 .done)))))))))))]
set_option maxRecDepth 100000 in
set_option maxHeartbeats 4000000 in
theorem ok_evergreenlaw21_LevelsTies : irOf Try.prog fn_evergreenlaw21_LevelsTies [] ts_evergreenlaw21_LevelsTies = some (59, [(.t 4)], ir_evergreenlaw21_LevelsTies) := by kernel_rfl
def ir_evergreenlaw21_LevelsAgain : C :=
 (.seq
 (.reg
 [⟨(some 6), none, (.mv (.c (.bool false)))⟩])
 (.seq
 (.seq
 (.reg
 [⟨(some 13), none, (.call fn_evergreenlaw21_awake [])⟩, ⟨(some 14), none, (.not (.t 13))⟩, ⟨(some 15), none, (.mv (.t 14))⟩, ⟨(some 16), (some (15, false)), (.mv (.t 0))⟩, ⟨(some 17), (some (15, false)), (.lens (.t 16))⟩, ⟨(some 18), (some (15, false)), (.cmp .gtr .i64 (.t 17) (.c (.int .i64 400)))⟩, ⟨(some 19), none, (.pick (.t 15) (.c (.bool true)) (.t 18))⟩])
 (.cond
 (.t 19)
 (.seq
 (.reg
 [⟨(some 20), none, (.call fn_evergreenlaw21_awake [])⟩, ⟨(some 6), none, (.mv (.t 20))⟩])
 .ret)
 .skip))
 (.seq
 (.reg
 [⟨(some 21), none, (.mv (.t 0))⟩, ⟨(some 22), none, (.mv (.t 1))⟩, ⟨(some 23), none, (.cv .i64 (.t 22))⟩, ⟨(some 24), none, (.call fn_levels_Pairs [(.t 21), (.t 23)])⟩, ⟨(some 7), none, (.mv (.t 24))⟩])
 (.seq
 (.seq
 (.reg
 [⟨(some 25), none, (.mv (.t 1))⟩, ⟨(some 26), none, (.cmp .gtr .u16 (.t 25) (.c (.int .u16 0)))⟩, ⟨(some 27), none, (.mv (.t 26))⟩, ⟨(some 28), (some (27, true)), (.mv (.t 7))⟩, ⟨(some 29), (some (27, true)), (.mv (.t 0))⟩, ⟨(some 30), (some (27, true)), (.mv (.t 1))⟩, ⟨(some 31), (some (27, true)), (.cv .i64 (.t 30))⟩, ⟨(some 32), (some (27, true)), (.ar .add .i64 (.t 31) (.c (.int .i64 246)))⟩, ⟨(some 33), (some (27, true)), (.call fn_levels_Pairs [(.t 29), (.t 32)])⟩, ⟨(some 34), (some (27, true)), (.call fn_evergreenbase_Ints [(.t 28), (.t 33)])⟩, ⟨(some 35), (some (27, true)), (.not (.t 34))⟩, ⟨(some 36), none, (.pick (.t 27) (.t 35) (.c (.bool false)))⟩])
 (.cond
 (.t 36)
 (.seq
 (.reg
 [⟨(some 6), none, (.mv (.c (.bool false)))⟩])
 .ret)
 .skip))
 (.seq
 (.reg
 [⟨(some 38), none, (.mv (.t 1))⟩, ⟨(some 39), none, (.cv .i64 (.t 38))⟩, ⟨(some 40), none, (.call fn_keys_Number [(.t 39)])⟩, ⟨(some 37), none, (.mv (.t 40))⟩, ⟨(some 41), none, (.ext (.t 37) 0)⟩, ⟨(some 42), none, (.ext (.t 37) 1)⟩, ⟨(some 43), none, (.ext (.t 37) 2)⟩, ⟨(some 8), none, (.mv (.t 41))⟩, ⟨(some 9), none, (.mv (.t 42))⟩, ⟨(some 10), none, (.mv (.t 43))⟩])
 (.seq
 (.reg
 [⟨(some 44), none, (.bsl 44 ty_uint64 1 0 [] [])⟩, ⟨(some 45), none, (.mv (.t 0))⟩, ⟨(some 46), none, (.app 46 ty_uint64 1 8 (.t 44) (.t 45))⟩, ⟨(some 11), none, (.mv (.t 46))⟩])
 (.seq
 (.seq
 (.reg
 [⟨(some 47), none, (.mv (.t 11))⟩, ⟨(some 48), none, (.lens (.t 47))⟩, ⟨(some 49), none, (.mv (.c (.int .i64 0)))⟩])
 (.blk
 0
 (.loop
 (.seq
 (.reg
 [⟨(some 50), none, (.cmp .lss .i64 (.t 49) (.t 48))⟩])
 (.seq
 (.cond
 (.t 50)
 .skip
 (.exit 0))
 (.seq
 (.blk
 1
 (.seq
 (.reg
 [⟨(some 51), none, (.mv (.t 49))⟩, ⟨(some 12), none, (.mv (.t 51))⟩])
 (.reg
 [⟨(some 52), none, (.mv (.t 11))⟩, ⟨(some 53), none, (.mv (.t 12))⟩, ⟨(some 54), none, (.ia 1 (.t 52) (.t 53))⟩, ⟨(some 55), none, (.ld (.int .u64) (.t 54))⟩, ⟨(some 56), none, (.mv (.t 2))⟩, ⟨(some 57), none, (.mv (.t 12))⟩, ⟨(some 58), none, (.cv .u8 (.t 57))⟩, ⟨(some 59), none, (.ar .add .u8 (.t 56) (.t 58))⟩, ⟨(some 60), none, (.cv .u64 (.t 59))⟩, ⟨(some 61), none, (.sh true .u64 (.t 60) (.c (.int .u64 61)))⟩, ⟨(some 62), none, (.bit .xor .u64 (.t 55) (.t 61))⟩, ⟨(some 63), none, (.ia 1 (.t 52) (.t 53))⟩, ⟨none, none, (.st 1 (.t 63) (.t 62))⟩])))
 (.reg
 [⟨(some 64), none, (.ar .add .i64 (.t 49) (.c (.int .i64 1)))⟩, ⟨(some 49), none, (.mv (.t 64))⟩])))))))
 (.seq
 (.reg
 [⟨(some 65), none, (.mv (.t 10))⟩, ⟨(some 66), none, (.mv (.t 65))⟩, ⟨(some 67), (some (66, false)), (.mv (.t 7))⟩, ⟨(some 68), (some (66, false)), (.mv (.t 11))⟩, ⟨(some 69), (some (66, false)), (.mv (.t 1))⟩, ⟨(some 70), (some (66, false)), (.cv .i64 (.t 69))⟩, ⟨(some 71), (some (66, false)), (.call fn_levels_Pairs [(.t 68), (.t 70)])⟩, ⟨(some 72), (some (66, false)), (.call fn_evergreenbase_Ints [(.t 67), (.t 71)])⟩, ⟨(some 73), none, (.pick (.t 66) (.c (.bool true)) (.t 72))⟩, ⟨(some 6), none, (.mv (.t 73))⟩])
 .ret))))))))
def ts_evergreenlaw21_LevelsAgain : List (Nat × Tr) := []
set_option maxRecDepth 100000 in
set_option maxHeartbeats 4000000 in
theorem ok_evergreenlaw21_LevelsAgain : irOf Try.prog fn_evergreenlaw21_LevelsAgain [] ts_evergreenlaw21_LevelsAgain = some (74, [(.t 6)], ir_evergreenlaw21_LevelsAgain) := by kernel_rfl
def ir_evergreenlaw21_LevelsApart : C :=
 (.seq
 (.reg
 [⟨(some 4), none, (.mv (.c (.bool false)))⟩])
 (.seq
 (.seq
 (.reg
 [⟨(some 15), none, (.call fn_evergreenlaw21_awake [])⟩, ⟨(some 16), none, (.not (.t 15))⟩, ⟨(some 17), none, (.mv (.t 16))⟩, ⟨(some 18), (some (17, false)), (.mv (.t 0))⟩, ⟨(some 19), (some (17, false)), (.lens (.t 18))⟩, ⟨(some 20), (some (17, false)), (.cmp .gtr .i64 (.t 19) (.c (.int .i64 400)))⟩, ⟨(some 21), none, (.pick (.t 17) (.c (.bool true)) (.t 20))⟩])
 (.cond
 (.t 21)
 (.seq
 (.reg
 [⟨(some 22), none, (.call fn_evergreenlaw21_awake [])⟩, ⟨(some 4), none, (.mv (.t 22))⟩])
 .ret)
 .skip))
 (.seq
 (.reg
 [⟨(some 23), none, (.mv (.t 0))⟩, ⟨(some 24), none, (.mv (.t 1))⟩, ⟨(some 25), none, (.call fn_levels_Pairs [(.t 23), (.t 24)])⟩, ⟨(some 5), none, (.mv (.t 25))⟩, ⟨(some 6), none, (.mv (.c (.int .i64 (-2))))⟩, ⟨(some 7), none, (.mv (.c (.int .i64 0)))⟩])
 (.seq
 (.seq
 (.reg
 [⟨(some 26), none, (.mv (.t 5))⟩, ⟨(some 27), none, (.lens (.t 26))⟩, ⟨(some 28), none, (.mv (.c (.int .i64 0)))⟩])
 (.blk
 0
 (.loop
 (.seq
 (.reg
 [⟨(some 29), none, (.cmp .lss .i64 (.t 28) (.t 27))⟩])
 (.seq
 (.cond
 (.t 29)
 .skip
 (.exit 0))
 (.seq
 (.blk
 1
 (.seq
 (.reg
 [⟨(some 30), none, (.ia 1 (.t 26) (.t 28))⟩, ⟨(some 31), none, (.ld (.int .i64) (.t 30))⟩, ⟨(some 9), none, (.mv (.t 31))⟩])
 (.seq
 (.seq
 (.drw
 [⟨(some 32), none, (.mv (.t 9))⟩, ⟨(some 33), none, (.mv (.t 6))⟩, ⟨(some 34), none, (.ar .add .i64 (.t 33) (.c (.int .i64 2)))⟩, ⟨(some 35), none, (.cmp .lss .i64 (.t 32) (.t 34))⟩, ⟨(some 36), none, (.mv (.t 35))⟩, ⟨(some 37), (some (36, false)), (.mv (.t 9))⟩, ⟨(some 38), (some (36, false)), (.cmp .lss .i64 (.t 37) (.c (.int .i64 0)))⟩, ⟨(some 39), none, (.pick (.t 36) (.c (.bool true)) (.t 38))⟩, ⟨(some 40), none, (.mv (.t 39))⟩, ⟨(some 41), (some (40, false)), (.mv (.t 9))⟩, ⟨(some 42), (some (40, false)), (.ar .add .i64 (.t 41) (.c (.int .i64 1)))⟩, ⟨(some 43), (some (40, false)), (.mv (.t 0))⟩, ⟨(some 44), (some (40, false)), (.lens (.t 43))⟩, ⟨(some 45), (some (40, false)), (.cmp .geq .i64 (.t 42) (.t 44))⟩, ⟨(some 46), none, (.pick (.t 40) (.c (.bool true)) (.t 45))⟩, ⟨(some 47), none, (.mv (.t 46))⟩, ⟨(some 48), (some (47, false)), (.mv (.t 0))⟩, ⟨(some 49), (some (47, false)), (.mv (.t 9))⟩, ⟨(some 50), (some (47, false)), (.ia 1 (.t 48) (.t 49))⟩, ⟨(some 51), (some (47, false)), (.ld (.int .u64) (.t 50))⟩, ⟨(some 52), (some (47, false)), (.mv (.t 0))⟩, ⟨(some 53), (some (47, false)), (.mv (.t 9))⟩, ⟨(some 54), (some (47, false)), (.ar .add .i64 (.t 53) (.c (.int .i64 1)))⟩, ⟨(some 55), (some (47, false)), (.ia 1 (.t 52) (.t 54))⟩, ⟨(some 56), (some (47, false)), (.ld (.int .u64) (.t 55))⟩, ⟨(some 57), (some (47, false)), (.mv (.t 1))⟩, ⟨(some 58), (some (47, false)), (.call fn_keys_Fits [(.t 51), (.t 56), (.t 57)])⟩, ⟨(some 59), (some (47, false)), (.not (.t 58))⟩, ⟨(some 60), none, (.pick (.t 47) (.c (.bool true)) (.t 59))⟩]
 (.take 0 (.take 1 (.take 2 (.take 3 (.take 4 (.take 5 (.take 6 (.take 7 (.take 8 (.take 9 (.take 10 (.take 11 (.take 12 (.take 13 (.take 14 (.take 15 (.take 16 (.take 17 (.take 18 (.take 19 (.take 20 (.take 21 (.take 22 (.take 23 (.take 24 (.take 25 (.alt 26 true (.take 27 (.take 28 .done)) .nil))))))))))))))))))))))))))))
 (.cond
 (.t 60)
 (.seq
 (.reg
 [⟨(some 4), none, (.mv (.c (.bool false)))⟩])
 .ret)
 .skip))
 (.reg
 [⟨(some 61), none, (.mv (.t 9))⟩, ⟨(some 6), none, (.mv (.t 61))⟩]))))
 (.reg
 [⟨(some 62), none, (.ar .add .i64 (.t 28) (.c (.int .i64 1)))⟩, ⟨(some 28), none, (.mv (.t 62))⟩])))))))
 (.seq
 (.reg
 [⟨(some 64), none, (.mv (.t 1))⟩, ⟨(some 65), none, (.call fn_keys_Number [(.t 64)])⟩, ⟨(some 63), none, (.mv (.t 65))⟩, ⟨(some 66), none, (.ext (.t 63) 0)⟩, ⟨(some 67), none, (.ext (.t 63) 1)⟩, ⟨(some 68), none, (.ext (.t 63) 2)⟩, ⟨(some 10), none, (.mv (.t 66))⟩, ⟨(some 11), none, (.mv (.t 67))⟩, ⟨(some 12), none, (.mv (.t 68))⟩])
 (.seq
 (.seq
 (.reg
 [⟨(some 13), none, (.mv (.c (.int .i64 0)))⟩])
 (.blk
 2
 (.loop
 (.seq
 (.seq
 (.reg
 [⟨(some 69), none, (.mv (.t 13))⟩, ⟨(some 70), none, (.ar .add .i64 (.t 69) (.c (.int .i64 1)))⟩, ⟨(some 71), none, (.mv (.t 0))⟩, ⟨(some 72), none, (.lens (.t 71))⟩, ⟨(some 73), none, (.cmp .lss .i64 (.t 70) (.t 72))⟩, ⟨(some 74), none, (.mv (.t 73))⟩, ⟨(some 75), (some (74, true)), (.mv (.t 12))⟩, ⟨(some 76), (some (74, true)), (.not (.t 75))⟩, ⟨(some 77), none, (.pick (.t 74) (.t 76) (.c (.bool false)))⟩])
 (.cond
 (.t 77)
 .skip
 (.exit 2)))
 (.seq
 (.blk
 3
 (.seq
 (.drw
 [⟨(some 80), none, (.mv (.t 0))⟩, ⟨(some 81), none, (.mv (.t 13))⟩, ⟨(some 82), none, (.ia 1 (.t 80) (.t 81))⟩, ⟨(some 83), none, (.ld (.int .u64) (.t 82))⟩, ⟨(some 84), none, (.mv (.t 0))⟩, ⟨(some 85), none, (.mv (.t 13))⟩, ⟨(some 86), none, (.ar .add .i64 (.t 85) (.c (.int .i64 1)))⟩, ⟨(some 87), none, (.ia 1 (.t 84) (.t 86))⟩, ⟨(some 88), none, (.ld (.int .u64) (.t 87))⟩, ⟨(some 89), none, (.mv (.t 1))⟩, ⟨(some 90), none, (.call fn_keys_Fits [(.t 83), (.t 88), (.t 89)])⟩, ⟨(some 14), none, (.mv (.t 90))⟩]
 (.take 0 (.take 1 (.take 2 (.take 3 (.take 4 (.take 5 (.take 6 (.take 7 (.take 8 (.take 9 (.alt 10 true (.take 11 .done) .nil))))))))))))
 (.seq
 (.seq
 (.reg
 [⟨(some 91), none, (.mv (.t 14))⟩, ⟨(some 92), none, (.mv (.t 7))⟩, ⟨(some 93), none, (.mv (.t 5))⟩, ⟨(some 94), none, (.lens (.t 93))⟩, ⟨(some 95), none, (.cmp .lss .i64 (.t 92) (.t 94))⟩, ⟨(some 96), none, (.mv (.t 95))⟩, ⟨(some 97), (some (96, true)), (.mv (.t 5))⟩, ⟨(some 98), (some (96, true)), (.mv (.t 7))⟩, ⟨(some 99), (some (96, true)), (.ia 1 (.t 97) (.t 98))⟩, ⟨(some 100), (some (96, true)), (.ld (.int .i64) (.t 99))⟩, ⟨(some 101), (some (96, true)), (.mv (.t 13))⟩, ⟨(some 102), (some (96, true)), (.cmp .eql .i64 (.t 100) (.t 101))⟩, ⟨(some 103), none, (.pick (.t 96) (.t 102) (.c (.bool false)))⟩, ⟨(some 104), none, (.eqb true (.t 91) (.t 103))⟩])
 (.cond
 (.t 104)
 (.seq
 (.reg
 [⟨(some 4), none, (.mv (.c (.bool false)))⟩])
 .ret)
 .skip))
 (.seq
 (.reg
 [⟨(some 105), none, (.mv (.t 14))⟩])
 (.cond
 (.t 105)
 (.reg
 [⟨(some 106), none, (.mv (.t 7))⟩, ⟨(some 107), none, (.ar .add .i64 (.t 106) (.c (.int .i64 1)))⟩, ⟨(some 7), none, (.mv (.t 107))⟩])
 .skip)))))
 (.reg
 [⟨(some 78), none, (.mv (.t 13))⟩, ⟨(some 79), none, (.ar .add .i64 (.t 78) (.c (.int .i64 1)))⟩, ⟨(some 13), none, (.mv (.t 79))⟩]))))))
 (.seq
 (.reg
 [⟨(some 108), none, (.mv (.t 12))⟩, ⟨(some 109), none, (.mv (.t 108))⟩, ⟨(some 110), (some (109, false)), (.mv (.t 7))⟩, ⟨(some 111), (some (109, false)), (.mv (.t 5))⟩, ⟨(some 112), (some (109, false)), (.lens (.t 111))⟩, ⟨(some 113), (some (109, false)), (.cmp .eql .i64 (.t 110) (.t 112))⟩, ⟨(some 114), none, (.pick (.t 109) (.c (.bool true)) (.t 113))⟩, ⟨(some 4), none, (.mv (.t 114))⟩])
 .ret)))))))
def ts_evergreenlaw21_LevelsApart : List (Nat × Tr) := [(7, (.take 0 (.take 1 (.take 2 (.take 3 (.take 4 (.take 5 (.take 6 (.take 7 (.take 8 (.take 9 (.take 10 (.take 11 (.take 12 (.take 13 (.take 14 (.take 15 (.take 16 (.take 17 (.take 18 (.take 19 (.take 20 (.take 21 (.take 22 (.take 23 (.take 24 (.take 25 (.alt 26 true (.take 27 (.take 28 .done)) .nil)))))))))))))))))))))))))))), (15, (.take 0 (.take 1 (.take 2 (.take 3 (.take 4 (.take 5 (.take 6 (.take 7 (.take 8 (.take 9 (.alt 10 true (.take 11 .done) .nil))))))))))))]
set_option maxRecDepth 100000 in
set_option maxHeartbeats 4000000 in
theorem ok_evergreenlaw21_LevelsApart : irOf Try.prog fn_evergreenlaw21_LevelsApart [] ts_evergreenlaw21_LevelsApart = some (115, [(.t 4)], ir_evergreenlaw21_LevelsApart) := by kernel_rfl
def ir_evergreenlaw21_LevelsSeams : C :=
 (.seq
 (.reg
 [⟨(some 6), none, (.mv (.c (.bool false)))⟩])
 (.seq
 (.seq
 (.reg
 [⟨(some 13), none, (.call fn_evergreenlaw21_awake [])⟩, ⟨(some 14), none, (.not (.t 13))⟩, ⟨(some 15), none, (.mv (.t 14))⟩, ⟨(some 16), (some (15, false)), (.mv (.t 0))⟩, ⟨(some 17), (some (15, false)), (.lens (.t 16))⟩, ⟨(some 18), (some (15, false)), (.mv (.t 1))⟩, ⟨(some 19), (some (15, false)), (.lens (.t 18))⟩, ⟨(some 20), (some (15, false)), (.ar .add .i64 (.t 17) (.t 19))⟩, ⟨(some 21), (some (15, false)), (.cmp .gtr .i64 (.t 20) (.c (.int .i64 400)))⟩, ⟨(some 22), none, (.pick (.t 15) (.c (.bool true)) (.t 21))⟩])
 (.cond
 (.t 22)
 (.seq
 (.reg
 [⟨(some 23), none, (.call fn_evergreenlaw21_awake [])⟩, ⟨(some 6), none, (.mv (.t 23))⟩])
 .ret)
 .skip))
 (.seq
 (.seq
 (.reg
 [⟨(some 25), none, (.mv (.t 2))⟩, ⟨(some 26), none, (.call fn_keys_Number [(.t 25)])⟩, ⟨(some 24), none, (.mv (.t 26))⟩, ⟨(some 27), none, (.ext (.t 24) 0)⟩, ⟨(some 28), none, (.ext (.t 24) 1)⟩, ⟨(some 29), none, (.ext (.t 24) 2)⟩, ⟨(some 7), none, (.mv (.t 27))⟩, ⟨(some 8), none, (.mv (.t 28))⟩, ⟨(some 9), none, (.mv (.t 29))⟩])
 (.seq
 (.reg
 [⟨(some 30), none, (.mv (.t 9))⟩])
 (.cond
 (.t 30)
 (.seq
 (.reg
 [⟨(some 6), none, (.mv (.c (.bool true)))⟩])
 .ret)
 .skip)))
 (.seq
 (.reg
 [⟨(some 31), none, (.mv (.t 0))⟩, ⟨(some 32), none, (.mv (.t 2))⟩, ⟨(some 33), none, (.call fn_levels_Pairs [(.t 31), (.t 32)])⟩, ⟨(some 10), none, (.mv (.t 33))⟩])
 (.seq
 (.seq
 (.drw
 [⟨(some 34), none, (.mv (.t 0))⟩, ⟨(some 35), none, (.lens (.t 34))⟩, ⟨(some 36), none, (.cmp .gtr .i64 (.t 35) (.c (.int .i64 0)))⟩, ⟨(some 37), none, (.mv (.t 36))⟩, ⟨(some 38), (some (37, true)), (.mv (.t 1))⟩, ⟨(some 39), (some (37, true)), (.lens (.t 38))⟩, ⟨(some 40), (some (37, true)), (.cmp .gtr .i64 (.t 39) (.c (.int .i64 0)))⟩, ⟨(some 41), none, (.pick (.t 37) (.t 40) (.c (.bool false)))⟩, ⟨(some 42), none, (.mv (.t 41))⟩, ⟨(some 43), (some (42, true)), (.mv (.t 0))⟩, ⟨(some 44), (some (42, true)), (.mv (.t 0))⟩, ⟨(some 45), (some (42, true)), (.lens (.t 44))⟩, ⟨(some 46), (some (42, true)), (.ar .sub .i64 (.t 45) (.c (.int .i64 1)))⟩, ⟨(some 47), (some (42, true)), (.ia 1 (.t 43) (.t 46))⟩, ⟨(some 48), (some (42, true)), (.ld (.int .u64) (.t 47))⟩, ⟨(some 49), (some (42, true)), (.mv (.t 1))⟩, ⟨(some 50), (some (42, true)), (.ia 1 (.t 49) (.c (.int .i64 0)))⟩, ⟨(some 51), (some (42, true)), (.ld (.int .u64) (.t 50))⟩, ⟨(some 52), (some (42, true)), (.mv (.t 2))⟩, ⟨(some 53), (some (42, true)), (.call fn_keys_Fits [(.t 48), (.t 51), (.t 52)])⟩, ⟨(some 54), none, (.pick (.t 42) (.t 53) (.c (.bool false)))⟩]
 (.take 0 (.take 1 (.take 2 (.take 3 (.take 4 (.take 5 (.take 6 (.take 7 (.take 8 (.take 9 (.take 10 (.take 11 (.take 12 (.take 13 (.take 14 (.take 15 (.take 16 (.take 17 (.take 18 (.alt 19 true (.take 20 .done) .nil)))))))))))))))))))))
 (.cond
 (.t 54)
 (.reg
 [⟨(some 55), none, (.mv (.t 10))⟩, ⟨(some 56), none, (.mv (.t 0))⟩, ⟨(some 57), none, (.lens (.t 56))⟩, ⟨(some 58), none, (.ar .sub .i64 (.t 57) (.c (.int .i64 1)))⟩, ⟨(some 59), none, (.bsl 59 ty_int 1 1 [(.int .i64 0)] [(0, (1, (.t 58)))])⟩, ⟨(some 60), none, (.app 60 ty_int 1 8 (.t 55) (.t 59))⟩, ⟨(some 10), none, (.mv (.t 60))⟩])
 .skip))
 (.seq
 (.seq
 (.reg
 [⟨(some 61), none, (.mv (.t 1))⟩, ⟨(some 62), none, (.mv (.t 2))⟩, ⟨(some 63), none, (.call fn_levels_Pairs [(.t 61), (.t 62)])⟩, ⟨(some 64), none, (.lens (.t 63))⟩, ⟨(some 65), none, (.mv (.c (.int .i64 0)))⟩])
 (.blk
 0
 (.loop
 (.seq
 (.reg
 [⟨(some 66), none, (.cmp .lss .i64 (.t 65) (.t 64))⟩])
 (.seq
 (.cond
 (.t 66)
 .skip
 (.exit 0))
 (.seq
 (.blk
 1
 (.seq
 (.reg
 [⟨(some 67), none, (.ia 1 (.t 63) (.t 65))⟩, ⟨(some 68), none, (.ld (.int .i64) (.t 67))⟩, ⟨(some 12), none, (.mv (.t 68))⟩])
 (.reg
 [⟨(some 69), none, (.mv (.t 10))⟩, ⟨(some 70), none, (.mv (.t 0))⟩, ⟨(some 71), none, (.lens (.t 70))⟩, ⟨(some 72), none, (.mv (.t 12))⟩, ⟨(some 73), none, (.ar .add .i64 (.t 71) (.t 72))⟩, ⟨(some 74), none, (.bsl 74 ty_int 1 1 [(.int .i64 0)] [(0, (1, (.t 73)))])⟩, ⟨(some 75), none, (.app 75 ty_int 1 8 (.t 69) (.t 74))⟩, ⟨(some 10), none, (.mv (.t 75))⟩])))
 (.reg
 [⟨(some 76), none, (.ar .add .i64 (.t 65) (.c (.int .i64 1)))⟩, ⟨(some 65), none, (.mv (.t 76))⟩])))))))
 (.seq
 (.reg
 [⟨(some 77), none, (.bsl 77 ty_uint64 1 0 [] [])⟩, ⟨(some 78), none, (.mv (.t 0))⟩, ⟨(some 79), none, (.app 79 ty_uint64 1 8 (.t 77) (.t 78))⟩, ⟨(some 80), none, (.mv (.t 1))⟩, ⟨(some 81), none, (.app 81 ty_uint64 1 8 (.t 79) (.t 80))⟩, ⟨(some 82), none, (.mv (.t 2))⟩, ⟨(some 83), none, (.call fn_levels_Pairs [(.t 81), (.t 82)])⟩, ⟨(some 84), none, (.mv (.t 10))⟩, ⟨(some 85), none, (.call fn_evergreenbase_Ints [(.t 83), (.t 84)])⟩, ⟨(some 6), none, (.mv (.t 85))⟩])
 .ret)))))))
def ts_evergreenlaw21_LevelsSeams : List (Nat × Tr) := [(7, (.take 0 (.take 1 (.take 2 (.take 3 (.take 4 (.take 5 (.take 6 (.take 7 (.take 8 (.take 9 (.take 10 (.take 11 (.take 12 (.take 13 (.take 14 (.take 15 (.take 16 (.take 17 (.take 18 (.alt 19 true (.take 20 .done) .nil)))))))))))))))))))))]
set_option maxRecDepth 100000 in
set_option maxHeartbeats 4000000 in
theorem ok_evergreenlaw21_LevelsSeams : irOf Try.prog fn_evergreenlaw21_LevelsSeams [] ts_evergreenlaw21_LevelsSeams = some (86, [(.t 6)], ir_evergreenlaw21_LevelsSeams) := by kernel_rfl
end Go.Proofs.Ytkekhgnbdhlmhaa
