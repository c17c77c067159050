/- The small forms of functions of the program, with the equations that say so: written by a program (irtool.py). No condition. -/
import Derived.Test.YtkkhpdkfploodaaGreatDoorK19
import Derived.Test.YtkkhpdkfploodaaGreatDoorProg
namespace Go.Proofs.YtkkhpdkfploodaaGreatDoor
open Go.EG
abbrev fn_evergreenref22_Begin : Nat := 11
abbrev fn_P_evergreenref22_Parse_Next : Nat := 12
abbrev fn_evergreenref22_Groups : Nat := 13
abbrev fn_P_evergreenref22_Parse_add : Nat := 27
abbrev fn_P_evergreenref22_Parse_runs : Nat := 28
abbrev ty_evergreenref22_Parse : Nat := 44
def ir_P_evergreenref22_Parse_add : C :=
 (.seq
 (.reg
 [⟨(some 3),none,(.box 3 ty_api_Rule (.t 1))⟩,⟨(some 4),none,(.mv (.c (.int .i64 0)))⟩])
 (.seq
 (.seq
 (.reg
 [⟨(some 5),none,(.mv (.c (.int .i64 1)))⟩])
 (.blk
 0
 (.loop
 (.seq
 (.seq
 (.reg
 [⟨(some 6),none,(.mv (.t 5))⟩,⟨(some 7),none,(.mv (.t 0))⟩,⟨(some 8),none,(.nil (.t 7))⟩,⟨(some 9),none,(.fa 0 (.t 8))⟩,⟨(some 10),none,(.ld .slc (.t 9))⟩,⟨(some 11),none,(.lens (.t 10))⟩,⟨(some 12),none,(.cmp .lss .i64 (.t 6) (.t 11))⟩])
 (.cond
 (.t 12)
 .skip
 (.exit 0)))
 (.seq
 (.blk
 1
 (.seq
 (.drw
 [⟨(some 15),none,(.mv (.t 0))⟩,⟨(some 16),none,(.nil (.t 15))⟩,⟨(some 17),none,(.fa 0 (.t 16))⟩,⟨(some 18),none,(.ld .slc (.t 17))⟩,⟨(some 19),none,(.mv (.t 5))⟩,⟨(some 20),none,(.ia 5 (.t 18) (.t 19))⟩,⟨(some 21),none,(.lda 5 [(.int .i64),(.int .u8),(.int .i64),(.int .i64),(.int .i64)] (.t 20))⟩,⟨(some 22),none,(.lda 5 [(.int .i64),(.int .u8),(.int .i64),(.int .i64),(.int .i64)] (.t 3))⟩,⟨(some 23),none,(.eqa false [(.int .i64),(.int .u8),(.int .i64),(.int .i64),(.int .i64)] (.t 21) (.t 22))⟩]
 (.mov 0 (.take 1 (.take 2 (.take 3 (.mov 4 (.take 5 (.take 6 (.take 7 (.take 8 .done))))))))))
 (.cond
 (.t 23)
 (.seq
 (.reg
 [⟨(some 24),none,(.mv (.t 5))⟩,⟨(some 4),none,(.mv (.t 24))⟩])
 .ret)
 .skip)))
 (.reg
 [⟨(some 13),none,(.mv (.t 5))⟩,⟨(some 14),none,(.ar .add .i64 (.t 13) (.c (.int .i64 1)))⟩,⟨(some 5),none,(.mv (.t 14))⟩]))))))
 (.seq
 (.drw
 [⟨(some 25),none,(.mv (.t 0))⟩,⟨(some 26),none,(.mv (.t 0))⟩,⟨(some 27),none,(.nil (.t 26))⟩,⟨(some 28),none,(.fa 0 (.t 27))⟩,⟨(some 29),none,(.ld .slc (.t 28))⟩,⟨(some 30),none,(.lda 5 [(.int .i64),(.int .u8),(.int .i64),(.int .i64),(.int .i64)] (.t 3))⟩,⟨(some 31),none,(.bsl 31 ty_api_Rule 5 1 [(.int .i64 0),(.int .u8 0),(.int .i64 0),(.int .i64 0),(.int .i64 0)] [(0,(5,(.t 30)))])⟩,⟨(some 32),none,(.app 32 ty_api_Rule 5 40 (.t 29) (.t 31))⟩,⟨(some 33),none,(.nil (.t 25))⟩,⟨(some 34),none,(.fa 0 (.t 33))⟩,⟨none,none,(.st 1 (.t 34) (.t 32))⟩]
 (.mov 0 (.mov 1 (.take 2 (.take 3 (.take 4 (.take 5 (.alt 6 true (.bar 7 (.take 8 (.take 9 (.bar 10 .done)))) .nil))))))))
 (.seq
 (.reg
 [⟨(some 35),none,(.mv (.t 0))⟩,⟨(some 36),none,(.nil (.t 35))⟩,⟨(some 37),none,(.fa 0 (.t 36))⟩,⟨(some 38),none,(.ld .slc (.t 37))⟩,⟨(some 39),none,(.lens (.t 38))⟩,⟨(some 40),none,(.ar .sub .i64 (.t 39) (.c (.int .i64 1)))⟩,⟨(some 4),none,(.mv (.t 40))⟩])
 .ret))))
def ts_P_evergreenref22_Parse_add : List (Nat × Tr) := [(4,(.mov 0 (.take 1 (.take 2 (.take 3 (.mov 4 (.take 5 (.take 6 (.take 7 (.take 8 .done)))))))))),(6,(.mov 0 (.mov 1 (.take 2 (.take 3 (.take 4 (.take 5 (.alt 6 true (.bar 7 (.take 8 (.take 9 (.bar 10 .done)))) .nil))))))))]
set_option maxRecDepth 100000 in
set_option maxHeartbeats 4000000 in
theorem ok_P_evergreenref22_Parse_add : irOf Tryz.prog fn_P_evergreenref22_Parse_add [] ts_P_evergreenref22_Parse_add = some (41,[(.t 4)],ir_P_evergreenref22_Parse_add) := by kernel_rfl
def ir_evergreenref22_Begin : C :=
 (.seq
 (.reg
 [⟨(some 2),none,(.mv (.c (.pointer none)))⟩])
 (.seq
 (.reg
 [⟨(some 5),none,(.bld [(.int .i64 0),(.int .u8 0),(.int .i64 0),(.int .i64 0),(.int .i64 0)] [])⟩,⟨(some 6),none,(.bsl 6 ty_api_Rule 5 1 [(.int .i64 0),(.int .u8 0),(.int .i64 0),(.int .i64 0),(.int .i64 0)] [(0,(5,(.t 5)))])⟩,⟨(some 7),none,(.bld [(.slice none 0 0),(.slice none 0 0),(.int .i64 0)] [(0,(1,(.t 6)))])⟩,⟨(some 8),none,(.box 8 ty_evergreenref22_Parse (.t 7))⟩,⟨(some 3),none,(.mv (.t 8))⟩])
 (.seq
 (.seq
 (.reg
 [⟨(some 4),none,(.mv (.c (.int .i64 0)))⟩])
 (.blk
 0
 (.loop
 (.seq
 (.seq
 (.reg
 [⟨(some 9),none,(.mv (.t 4))⟩,⟨(some 10),none,(.mv (.t 0))⟩,⟨(some 11),none,(.lens (.t 10))⟩,⟨(some 12),none,(.cmp .lss .i64 (.t 9) (.t 11))⟩])
 (.cond
 (.t 12)
 .skip
 (.exit 0)))
 (.seq
 (.blk
 1
 (.drb
 [⟨(some 15),none,(.mv (.t 3))⟩,⟨(some 16),none,(.mv (.t 3))⟩,⟨(some 17),none,(.nil (.t 16))⟩,⟨(some 18),none,(.fa 1 (.t 17))⟩,⟨(some 19),none,(.ld .slc (.t 18))⟩,⟨(some 20),none,(.mv (.t 3))⟩,⟨(some 21),none,(.mv (.t 0))⟩,⟨(some 22),none,(.mv (.t 4))⟩,⟨(some 23),none,(.ia 1 (.t 21) (.t 22))⟩,⟨(some 24),none,(.ld (.int .u8) (.t 23))⟩,⟨(some 25),none,(.bld [(.int .i64 0),(.int .u8 0),(.int .i64 0),(.int .i64 0),(.int .i64 0)] [(0,(1,(.c (.int .i64 1)))),(1,(1,(.t 24)))])⟩,⟨(some 26),none,(.call fn_P_evergreenref22_Parse_add [(.t 20),(.t 25)])⟩,⟨(some 27),none,(.bsl 27 ty_api_ID 1 1 [(.int .i64 0)] [(0,(1,(.t 26)))])⟩,⟨(some 28),none,(.app 28 ty_api_ID 1 8 (.t 19) (.t 27))⟩,⟨(some 29),none,(.nil (.t 15))⟩,⟨(some 30),none,(.fa 1 (.t 29))⟩,⟨none,none,(.st 1 (.t 30) (.t 28))⟩]
 (.mov 0 (.mov 1 (.take 2 (.take 3 (.mov 5 (.mov 6 (.mov 7 (.take 8 (.take 9 (.take 10 (.alt 4 true (.alt 11 true (.alt 12 true (.bar 13 (.take 14 (.take 15 (.bar 16 .done)))) .nil) .nil) (.alt 11 true (.alt 4 true (.alt 12 true (.bar 13 (.take 14 (.take 15 (.bar 16 .done)))) .nil) (.alt 12 true (.alt 4 true (.bar 13 (.take 14 (.take 15 (.bar 16 .done)))) .nil) .nil)) .nil))))))))))))))
 (.reg
 [⟨(some 13),none,(.mv (.t 4))⟩,⟨(some 14),none,(.ar .add .i64 (.t 13) (.c (.int .i64 1)))⟩,⟨(some 4),none,(.mv (.t 14))⟩]))))))
 (.seq
 (.reg
 [⟨(some 31),none,(.mv (.t 3))⟩,⟨(some 2),none,(.mv (.t 31))⟩])
 .ret))))
def ts_evergreenref22_Begin : List (Nat × Tr) := [(5,(.mov 0 (.mov 1 (.take 2 (.take 3 (.mov 5 (.mov 6 (.mov 7 (.take 8 (.take 9 (.take 10 (.alt 4 true (.alt 11 true (.alt 12 true (.bar 13 (.take 14 (.take 15 (.bar 16 .done)))) .nil) .nil) (.alt 11 true (.alt 4 true (.alt 12 true (.bar 13 (.take 14 (.take 15 (.bar 16 .done)))) .nil) (.alt 12 true (.alt 4 true (.bar 13 (.take 14 (.take 15 (.bar 16 .done)))) .nil) .nil)) .nil)))))))))))))]
set_option maxRecDepth 100000 in
set_option maxHeartbeats 4000000 in
theorem ok_evergreenref22_Begin : irOf Tryz.prog fn_evergreenref22_Begin [2000005] ts_evergreenref22_Begin = some (32,[(.t 2)],ir_evergreenref22_Begin) := by kernel_rfl
def ir_evergreenref22_Groups : C :=
 (.seq
 (.reg
 [⟨(some 2),none,(.mv (.c (.slice none 0 0)))⟩])
 (.seq
 (.reg
 [⟨(some 3),none,(.mv (.c (.slice none 0 0)))⟩])
 (.seq
 (.seq
 (.reg
 [⟨(some 4),none,(.mv (.c (.int .i64 0)))⟩])
 (.blk
 0
 (.loop
 (.seq
 (.seq
 (.reg
 [⟨(some 5),none,(.mv (.t 4))⟩,⟨(some 6),none,(.mv (.t 0))⟩,⟨(some 7),none,(.lens (.t 6))⟩,⟨(some 8),none,(.cmp .lss .i64 (.t 5) (.t 7))⟩])
 (.cond
 (.t 8)
 .skip
 (.exit 0)))
 (.seq
 (.blk
 1
 (.seq
 (.drw
 [⟨(some 11),none,(.mv (.t 4))⟩,⟨(some 12),none,(.cmp .gtr .i64 (.t 11) (.c (.int .i64 0)))⟩,⟨(some 13),none,(.mv (.t 12))⟩,⟨(some 14),(some (13,true)),(.mv (.t 0))⟩,⟨(some 15),(some (13,true)),(.mv (.t 4))⟩,⟨(some 16),(some (13,true)),(.ia 1 (.t 14) (.t 15))⟩,⟨(some 17),(some (13,true)),(.ld (.int .i64) (.t 16))⟩,⟨(some 18),(some (13,true)),(.mv (.t 0))⟩,⟨(some 19),(some (13,true)),(.mv (.t 4))⟩,⟨(some 20),(some (13,true)),(.ar .sub .i64 (.t 19) (.c (.int .i64 1)))⟩,⟨(some 21),(some (13,true)),(.ia 1 (.t 18) (.t 20))⟩,⟨(some 22),(some (13,true)),(.ld (.int .i64) (.t 21))⟩,⟨(some 23),(some (13,true)),(.cmp .eql .i64 (.t 17) (.t 22))⟩,⟨(some 24),none,(.pick (.t 13) (.t 23) (.c (.bool false)))⟩]
 (.mov 0 (.take 1 (.mov 2 (.mov 3 (.mov 4 (.take 5 (.take 6 (.mov 7 (.mov 8 (.take 9 (.take 10 (.take 11 (.take 12 (.take 13 .done)))))))))))))))
 (.cond
 (.t 24)
 (.reg
 [⟨(some 25),none,(.mv (.t 3))⟩,⟨(some 26),none,(.mv (.t 3))⟩,⟨(some 27),none,(.lens (.t 26))⟩,⟨(some 28),none,(.ar .sub .i64 (.t 27) (.c (.int .i64 1)))⟩,⟨(some 29),none,(.ia 2 (.t 25) (.t 28))⟩,⟨(some 30),none,(.fa 1 (.t 29))⟩,⟨(some 31),none,(.ld (.int .i64) (.t 30))⟩,⟨(some 32),none,(.ar .add .i64 (.t 31) (.c (.int .i64 1)))⟩,⟨(some 33),none,(.ia 2 (.t 25) (.t 28))⟩,⟨(some 34),none,(.fa 1 (.t 33))⟩,⟨none,none,(.st 1 (.t 34) (.t 32))⟩])
 (.reg
 [⟨(some 35),none,(.mv (.t 3))⟩,⟨(some 36),none,(.mv (.t 0))⟩,⟨(some 37),none,(.mv (.t 4))⟩,⟨(some 38),none,(.ia 1 (.t 36) (.t 37))⟩,⟨(some 39),none,(.ld (.int .i64) (.t 38))⟩,⟨(some 40),none,(.bld [(.int .i64 0),(.int .i64 0)] [(0,(1,(.t 39))),(1,(1,(.c (.int .i64 1))))])⟩,⟨(some 41),none,(.bsl 41 ty_api_Group 2 1 [(.int .i64 0),(.int .i64 0)] [(0,(2,(.t 40)))])⟩,⟨(some 42),none,(.app 42 ty_api_Group 2 16 (.t 35) (.t 41))⟩,⟨(some 3),none,(.mv (.t 42))⟩]))))
 (.reg
 [⟨(some 9),none,(.mv (.t 4))⟩,⟨(some 10),none,(.ar .add .i64 (.t 9) (.c (.int .i64 1)))⟩,⟨(some 4),none,(.mv (.t 10))⟩]))))))
 (.seq
 (.reg
 [⟨(some 43),none,(.mv (.t 3))⟩,⟨(some 2),none,(.mv (.t 43))⟩])
 .ret))))
def ts_evergreenref22_Groups : List (Nat × Tr) := [(5,(.mov 0 (.take 1 (.mov 2 (.mov 3 (.mov 4 (.take 5 (.take 6 (.mov 7 (.mov 8 (.take 9 (.take 10 (.take 11 (.take 12 (.take 13 .done)))))))))))))))]
set_option maxRecDepth 100000 in
set_option maxHeartbeats 4000000 in
theorem ok_evergreenref22_Groups : irOf Tryz.prog fn_evergreenref22_Groups [] ts_evergreenref22_Groups = some (44,[(.t 2)],ir_evergreenref22_Groups) := by kernel_rfl
def ir_P_evergreenref22_Parse_runs : C :=
 (.seq
 (.reg
 [⟨(some 2),none,(.mv (.c (.slice none 0 0)))⟩])
 (.seq
 (.reg
 [⟨(some 5),none,(.mv (.t 0))⟩,⟨(some 6),none,(.nil (.t 5))⟩,⟨(some 7),none,(.fa 1 (.t 6))⟩,⟨(some 8),none,(.ld .slc (.t 7))⟩,⟨(some 9),none,(.call fn_evergreenref22_Groups [(.t 8)])⟩,⟨(some 3),none,(.mv (.t 9))⟩])
 (.seq
 (.seq
 (.reg
 [⟨(some 4),none,(.mv (.c (.int .i64 0)))⟩])
 (.blk
 0
 (.loop
 (.seq
 (.seq
 (.reg
 [⟨(some 10),none,(.mv (.t 4))⟩,⟨(some 11),none,(.mv (.t 3))⟩,⟨(some 12),none,(.lens (.t 11))⟩,⟨(some 13),none,(.cmp .lss .i64 (.t 10) (.t 12))⟩])
 (.cond
 (.t 13)
 .skip
 (.exit 0)))
 (.seq
 (.blk
 1
 (.seq
 (.reg
 [⟨(some 16),none,(.mv (.t 3))⟩,⟨(some 17),none,(.mv (.t 4))⟩,⟨(some 18),none,(.ia 2 (.t 16) (.t 17))⟩,⟨(some 19),none,(.fa 1 (.t 18))⟩,⟨(some 20),none,(.ld (.int .i64) (.t 19))⟩,⟨(some 21),none,(.cmp .eql .i64 (.t 20) (.c (.int .i64 1)))⟩])
 (.cond
 (.t 21)
 (.reg
 [⟨(some 22),none,(.mv (.t 2))⟩,⟨(some 23),none,(.mv (.t 3))⟩,⟨(some 24),none,(.mv (.t 4))⟩,⟨(some 25),none,(.ia 2 (.t 23) (.t 24))⟩,⟨(some 26),none,(.fa 0 (.t 25))⟩,⟨(some 27),none,(.ld (.int .i64) (.t 26))⟩,⟨(some 28),none,(.bsl 28 ty_api_ID 1 1 [(.int .i64 0)] [(0,(1,(.t 27)))])⟩,⟨(some 29),none,(.app 29 ty_api_ID 1 8 (.t 22) (.t 28))⟩,⟨(some 2),none,(.mv (.t 29))⟩])
 (.drw
 [⟨(some 30),none,(.mv (.t 2))⟩,⟨(some 31),none,(.mv (.t 0))⟩,⟨(some 32),none,(.mv (.t 3))⟩,⟨(some 33),none,(.mv (.t 4))⟩,⟨(some 34),none,(.ia 2 (.t 32) (.t 33))⟩,⟨(some 35),none,(.fa 0 (.t 34))⟩,⟨(some 36),none,(.ld (.int .i64) (.t 35))⟩,⟨(some 37),none,(.mv (.t 3))⟩,⟨(some 38),none,(.mv (.t 4))⟩,⟨(some 39),none,(.ia 2 (.t 37) (.t 38))⟩,⟨(some 40),none,(.fa 1 (.t 39))⟩,⟨(some 41),none,(.ld (.int .i64) (.t 40))⟩,⟨(some 42),none,(.bld [(.int .i64 0),(.int .u8 0),(.int .i64 0),(.int .i64 0),(.int .i64 0)] [(0,(1,(.c (.int .i64 3)))),(2,(1,(.t 36))),(4,(1,(.t 41)))])⟩,⟨(some 43),none,(.call fn_P_evergreenref22_Parse_add [(.t 31),(.t 42)])⟩,⟨(some 44),none,(.bsl 44 ty_api_ID 1 1 [(.int .i64 0)] [(0,(1,(.t 43)))])⟩,⟨(some 45),none,(.app 45 ty_api_ID 1 8 (.t 30) (.t 44))⟩,⟨(some 2),none,(.mv (.t 45))⟩]
 (.mov 0 (.mov 1 (.mov 2 (.mov 3 (.take 4 (.take 5 (.take 6 (.mov 7 (.mov 8 (.take 9 (.take 10 (.take 11 (.take 12 (.bar 13 (.bar 14 (.bar 15 (.mov 16 .done)))))))))))))))))))))
 (.reg
 [⟨(some 14),none,(.mv (.t 4))⟩,⟨(some 15),none,(.ar .add .i64 (.t 14) (.c (.int .i64 1)))⟩,⟨(some 4),none,(.mv (.t 15))⟩]))))))
 (.reg
 [⟨(some 46),none,(.mv (.t 0))⟩,⟨(some 47),none,(.mv (.t 2))⟩,⟨(some 48),none,(.nil (.t 46))⟩,⟨(some 49),none,(.fa 1 (.t 48))⟩,⟨none,none,(.st 1 (.t 49) (.t 47))⟩]))))
def ts_P_evergreenref22_Parse_runs : List (Nat × Tr) := [(7,(.mov 0 (.mov 1 (.mov 2 (.mov 3 (.take 4 (.take 5 (.take 6 (.mov 7 (.mov 8 (.take 9 (.take 10 (.take 11 (.take 12 (.bar 13 (.bar 14 (.bar 15 (.mov 16 .done))))))))))))))))))]
set_option maxRecDepth 100000 in
set_option maxHeartbeats 4000000 in
theorem ok_P_evergreenref22_Parse_runs : irOf Tryz.prog fn_P_evergreenref22_Parse_runs [] ts_P_evergreenref22_Parse_runs = some (50,[],ir_P_evergreenref22_Parse_runs) := by kernel_rfl
def ir_P_evergreenref22_Parse_Next : C :=
 (.seq
 (.reg
 [⟨(some 7),none,(.mv (.t 0))⟩,⟨(some 8),none,(.nil (.t 7))⟩,⟨(some 9),none,(.fa 2 (.t 8))⟩,⟨(some 10),none,(.ld (.int .i64) (.t 9))⟩,⟨(some 11),none,(.ar .add .i64 (.t 10) (.c (.int .i64 1)))⟩,⟨(some 12),none,(.nil (.t 7))⟩,⟨(some 13),none,(.fa 2 (.t 12))⟩,⟨none,none,(.st 1 (.t 13) (.t 11))⟩])
 (.seq
 (.seq
 (.reg
 [⟨(some 14),none,(.mv (.t 0))⟩,⟨(some 15),none,(.nil (.t 14))⟩,⟨(some 16),none,(.fa 2 (.t 15))⟩,⟨(some 17),none,(.ld (.int .i64) (.t 16))⟩,⟨(some 18),none,(.dv true .i64 (.t 17) (.c (.int .i64 2)))⟩,⟨(some 19),none,(.cmp .eql .i64 (.t 18) (.c (.int .i64 1)))⟩])
 (.cond
 (.t 19)
 (.seq
 (.reg
 [⟨(some 20),none,(.mv (.t 0))⟩,⟨(some 21),none,(.call fn_P_evergreenref22_Parse_runs [(.t 20)])⟩])
 .ret)
 .skip))
 (.seq
 (.reg
 [⟨(some 22),none,(.mv (.t 0))⟩,⟨(some 23),none,(.nil (.t 22))⟩,⟨(some 24),none,(.fa 0 (.t 23))⟩,⟨(some 25),none,(.ld .slc (.t 24))⟩,⟨(some 26),none,(.call fn_evergreenref20_Keys [(.t 25)])⟩,⟨(some 2),none,(.mv (.t 26))⟩])
 (.seq
 (.reg
 [⟨(some 3),none,(.mv (.c (.slice none 0 0)))⟩])
 (.seq
 (.seq
 (.reg
 [⟨(some 4),none,(.mv (.c (.int .i64 0)))⟩])
 (.blk
 0
 (.loop
 (.seq
 (.seq
 (.reg
 [⟨(some 27),none,(.mv (.t 4))⟩,⟨(some 28),none,(.mv (.t 0))⟩,⟨(some 29),none,(.nil (.t 28))⟩,⟨(some 30),none,(.fa 1 (.t 29))⟩,⟨(some 31),none,(.ld .slc (.t 30))⟩,⟨(some 32),none,(.lens (.t 31))⟩,⟨(some 33),none,(.cmp .lss .i64 (.t 27) (.t 32))⟩])
 (.cond
 (.t 33)
 .skip
 (.exit 0)))
 (.seq
 (.blk
 1
 (.seq
 (.reg
 [⟨(some 36),none,(.mv (.t 0))⟩,⟨(some 37),none,(.nil (.t 36))⟩,⟨(some 38),none,(.fa 1 (.t 37))⟩,⟨(some 39),none,(.ld .slc (.t 38))⟩,⟨(some 40),none,(.mv (.t 4))⟩,⟨(some 41),none,(.ia 1 (.t 39) (.t 40))⟩,⟨(some 42),none,(.ld (.int .i64) (.t 41))⟩,⟨(some 5),none,(.mv (.t 42))⟩])
 (.seq
 (.seq
 (.reg
 [⟨(some 43),none,(.mv (.t 4))⟩,⟨(some 44),none,(.ar .add .i64 (.t 43) (.c (.int .i64 1)))⟩,⟨(some 45),none,(.mv (.t 0))⟩,⟨(some 46),none,(.nil (.t 45))⟩,⟨(some 47),none,(.fa 1 (.t 46))⟩,⟨(some 48),none,(.ld .slc (.t 47))⟩,⟨(some 49),none,(.lens (.t 48))⟩,⟨(some 50),none,(.cmp .lss .i64 (.t 44) (.t 49))⟩])
 (.cond
 (.t 50)
 (.seq
 (.reg
 [⟨(some 51),none,(.mv (.t 0))⟩,⟨(some 52),none,(.nil (.t 51))⟩,⟨(some 53),none,(.fa 1 (.t 52))⟩,⟨(some 54),none,(.ld .slc (.t 53))⟩,⟨(some 55),none,(.mv (.t 4))⟩,⟨(some 56),none,(.ar .add .i64 (.t 55) (.c (.int .i64 1)))⟩,⟨(some 57),none,(.ia 1 (.t 54) (.t 56))⟩,⟨(some 58),none,(.ld (.int .i64) (.t 57))⟩,⟨(some 6),none,(.mv (.t 58))⟩])
 (.seq
 (.drw
 [⟨(some 59),none,(.mv (.t 2))⟩,⟨(some 60),none,(.mv (.t 5))⟩,⟨(some 61),none,(.ia 2 (.t 59) (.t 60))⟩,⟨(some 62),none,(.fa 0 (.t 61))⟩,⟨(some 63),none,(.ld (.int .u64) (.t 62))⟩,⟨(some 64),none,(.mv (.t 2))⟩,⟨(some 65),none,(.mv (.t 6))⟩,⟨(some 66),none,(.ia 2 (.t 64) (.t 65))⟩,⟨(some 67),none,(.fa 0 (.t 66))⟩,⟨(some 68),none,(.ld (.int .u64) (.t 67))⟩,⟨(some 69),none,(.mv (.t 0))⟩,⟨(some 70),none,(.nil (.t 69))⟩,⟨(some 71),none,(.fa 2 (.t 70))⟩,⟨(some 72),none,(.ld (.int .i64) (.t 71))⟩,⟨(some 73),none,(.call fn_evergreenref20_Fits [(.t 63),(.t 68),(.t 72)])⟩]
 (.mov 0 (.mov 1 (.take 2 (.take 3 (.take 4 (.mov 5 (.mov 6 (.take 7 (.take 8 (.take 9 (.mov 10 (.take 11 (.take 12 (.take 13 (.take 14 .done))))))))))))))))
 (.cond
 (.t 73)
 (.seq
 (.reg
 [⟨(some 74),none,(.mv (.t 3))⟩,⟨(some 75),none,(.mv (.t 0))⟩,⟨(some 76),none,(.mv (.t 5))⟩,⟨(some 77),none,(.mv (.t 6))⟩,⟨(some 78),none,(.bld [(.int .i64 0),(.int .u8 0),(.int .i64 0),(.int .i64 0),(.int .i64 0)] [(0,(1,(.c (.int .i64 2)))),(2,(1,(.t 76))),(3,(1,(.t 77)))])⟩,⟨(some 79),none,(.call fn_P_evergreenref22_Parse_add [(.t 75),(.t 78)])⟩,⟨(some 80),none,(.bsl 80 ty_api_ID 1 1 [(.int .i64 0)] [(0,(1,(.t 79)))])⟩,⟨(some 81),none,(.app 81 ty_api_ID 1 8 (.t 74) (.t 80))⟩,⟨(some 3),none,(.mv (.t 81))⟩])
 (.seq
 (.reg
 [⟨(some 82),none,(.mv (.t 4))⟩,⟨(some 83),none,(.ar .add .i64 (.t 82) (.c (.int .i64 1)))⟩,⟨(some 4),none,(.mv (.t 83))⟩])
 (.exit 1)))
 .skip)))
 .skip))
 (.reg
 [⟨(some 84),none,(.mv (.t 3))⟩,⟨(some 85),none,(.mv (.t 5))⟩,⟨(some 86),none,(.bsl 86 ty_api_ID 1 1 [(.int .i64 0)] [(0,(1,(.t 85)))])⟩,⟨(some 87),none,(.app 87 ty_api_ID 1 8 (.t 84) (.t 86))⟩,⟨(some 3),none,(.mv (.t 87))⟩]))))
 (.reg
 [⟨(some 34),none,(.mv (.t 4))⟩,⟨(some 35),none,(.ar .add .i64 (.t 34) (.c (.int .i64 1)))⟩,⟨(some 4),none,(.mv (.t 35))⟩]))))))
 (.reg
 [⟨(some 88),none,(.mv (.t 0))⟩,⟨(some 89),none,(.mv (.t 3))⟩,⟨(some 90),none,(.nil (.t 88))⟩,⟨(some 91),none,(.fa 1 (.t 90))⟩,⟨none,none,(.st 1 (.t 91) (.t 89))⟩]))))))
def ts_P_evergreenref22_Parse_Next : List (Nat × Tr) := [(11,(.mov 0 (.mov 1 (.take 2 (.take 3 (.take 4 (.mov 5 (.mov 6 (.take 7 (.take 8 (.take 9 (.mov 10 (.take 11 (.take 12 (.take 13 (.take 14 .done))))))))))))))))]
set_option maxRecDepth 100000 in
set_option maxHeartbeats 4000000 in
theorem ok_P_evergreenref22_Parse_Next : irOf Tryz.prog fn_P_evergreenref22_Parse_Next [] ts_P_evergreenref22_Parse_Next = some (92,[],ir_P_evergreenref22_Parse_Next) := by kernel_rfl
end Go.Proofs.YtkkhpdkfploodaaGreatDoor
