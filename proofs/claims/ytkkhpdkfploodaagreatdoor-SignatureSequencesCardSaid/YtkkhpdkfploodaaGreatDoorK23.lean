/- The small forms of functions of the program, with the equations that say so: written by a program (irtool.py). No condition. -/
import Derived.Test.YtkkhpdkfploodaaGreatDoorK21
import Derived.Test.YtkkhpdkfploodaaGreatDoorProg
namespace Go.Proofs.YtkkhpdkfploodaaGreatDoor
open Go.EG
abbrev fn_evergreenlaw22_SignatureSequences : Nat := 3
def ir_evergreenlaw22_SignatureSequences : C :=
 (.seq
 (.reg
 [⟨(some 4),none,(.mv (.c (.bool false)))⟩])
 (.seq
 (.seq
 (.reg
 [⟨(some 16),none,(.mv (.t 0))⟩,⟨(some 17),none,(.lens (.t 16))⟩,⟨(some 18),none,(.cmp .gtr .i64 (.t 17) (.c (.int .i64 60)))⟩,⟨(some 19),none,(.mv (.t 18))⟩,⟨(some 20),(some (19,false)),(.mv (.t 0))⟩,⟨(some 21),(some (19,false)),(.lens (.t 20))⟩,⟨(some 22),(some (19,false)),(.cmp .eql .i64 (.t 21) (.c (.int .i64 0)))⟩,⟨(some 23),none,(.pick (.t 19) (.c (.bool true)) (.t 22))⟩])
 (.cond
 (.t 23)
 (.seq
 (.reg
 [⟨(some 4),none,(.mv (.c (.bool true)))⟩])
 .ret)
 .skip))
 (.seq
 (.reg
 [⟨(some 24),none,(.call fn_intern_New [(.c (.int .i64 5000))])⟩,⟨(some 5),none,(.mv (.t 24))⟩])
 (.seq
 (.reg
 [⟨(some 25),none,(.mv (.t 5))⟩,⟨(some 26),none,(.call fn_signature_New [(.t 25)])⟩,⟨(some 6),none,(.mv (.t 26))⟩])
 (.seq
 (.reg
 [⟨(some 28),none,(.mv (.t 6))⟩,⟨(some 29),none,(.mv (.t 0))⟩,⟨(some 30),none,(.call fn_evergreenlaw22_copied [(.t 29)])⟩,⟨(some 31),none,(.call fn_P_signature_Parser_Of [(.t 28),(.t 30)])⟩,⟨(some 27),none,(.mv (.t 31))⟩,⟨(some 32),none,(.ext (.t 27) 0)⟩,⟨(some 33),none,(.ext (.t 27) 1)⟩,⟨(some 7),none,(.mv (.t 32))⟩,⟨(some 8),none,(.mv (.t 33))⟩])
 (.seq
 (.reg
 [⟨(some 35),none,(.mv (.t 6))⟩,⟨(some 36),none,(.mv (.t 7))⟩,⟨(some 37),none,(.mv (.t 1))⟩,⟨(some 38),none,(.call fn_P_signature_Parser_Sequence [(.t 35),(.t 36),(.t 37)])⟩,⟨(some 34),none,(.mv (.t 38))⟩,⟨(some 39),none,(.ext (.t 34) 0)⟩,⟨(some 40),none,(.ext (.t 34) 1)⟩,⟨(some 9),none,(.mv (.t 39))⟩,⟨(some 10),none,(.mv (.t 40))⟩])
 (.seq
 (.seq
 (.reg
 [⟨(some 41),none,(.call fn_evergreenlaw22_awake [])⟩,⟨(some 42),none,(.not (.t 41))⟩,⟨(some 43),none,(.mv (.t 42))⟩,⟨(some 44),(some (43,false)),(.mv (.t 8))⟩,⟨(some 45),(some (43,false)),(.eqn .ifc true (.t 44))⟩,⟨(some 46),none,(.pick (.t 43) (.c (.bool true)) (.t 45))⟩])
 (.cond
 (.t 46)
 (.seq
 (.reg
 [⟨(some 4),none,(.mv (.c (.bool false)))⟩])
 .ret)
 .skip))
 (.seq
 (.seq
 (.reg
 [⟨(some 47),none,(.mv (.t 1))⟩,⟨(some 48),none,(.cmp .lss .i64 (.t 47) (.c (.int .i64 0)))⟩])
 (.cond
 (.t 48)
 (.seq
 (.reg
 [⟨(some 49),none,(.mv (.t 9))⟩,⟨(some 50),none,(.lens (.t 49))⟩,⟨(some 51),none,(.cmp .eql .i64 (.t 50) (.c (.int .i64 0)))⟩,⟨(some 52),none,(.mv (.t 51))⟩,⟨(some 53),(some (52,true)),(.mv (.t 10))⟩,⟨(some 54),(some (52,true)),(.call fn_evergreenbase_Is [(.t 53),(.c (.int .i64 1))])⟩,⟨(some 55),none,(.pick (.t 52) (.t 54) (.c (.bool false)))⟩,⟨(some 4),none,(.mv (.t 55))⟩])
 .ret)
 .skip))
 (.seq
 (.reg
 [⟨(some 56),none,(.mv (.t 0))⟩,⟨(some 57),none,(.call fn_evergreenref22_Begin [(.t 56)])⟩,⟨(some 11),none,(.mv (.t 57))⟩])
 (.seq
 (.blk
 0
 (.loop
 (.seq
 (.seq
 (.reg
 [⟨(some 58),none,(.mv (.t 11))⟩,⟨(some 59),none,(.nil (.t 58))⟩,⟨(some 60),none,(.fa 2 (.t 59))⟩,⟨(some 61),none,(.ld (.int .i64) (.t 60))⟩,⟨(some 62),none,(.mv (.t 1))⟩,⟨(some 63),none,(.cmp .lss .i64 (.t 61) (.t 62))⟩,⟨(some 64),none,(.mv (.t 63))⟩,⟨(some 65),(some (64,true)),(.mv (.t 11))⟩,⟨(some 66),(some (64,true)),(.nil (.t 65))⟩,⟨(some 67),(some (64,true)),(.fa 1 (.t 66))⟩,⟨(some 68),(some (64,true)),(.ld .slc (.t 67))⟩,⟨(some 69),(some (64,true)),(.lens (.t 68))⟩,⟨(some 70),(some (64,true)),(.cmp .gtr .i64 (.t 69) (.c (.int .i64 1)))⟩,⟨(some 71),none,(.pick (.t 64) (.t 70) (.c (.bool false)))⟩])
 (.cond
 (.t 71)
 .skip
 (.exit 0)))
 (.blk
 1
 (.reg
 [⟨(some 72),none,(.mv (.t 11))⟩,⟨(some 73),none,(.call fn_P_evergreenref22_Parse_Next [(.t 72)])⟩])))))
 (.seq
 (.reg
 [⟨(some 74),none,(.mv (.t 11))⟩,⟨(some 75),none,(.nil (.t 74))⟩,⟨(some 76),none,(.fa 1 (.t 75))⟩,⟨(some 77),none,(.ld .slc (.t 76))⟩,⟨(some 78),none,(.call fn_evergreenref22_Groups [(.t 77)])⟩,⟨(some 12),none,(.mv (.t 78))⟩])
 (.seq
 (.seq
 (.reg
 [⟨(some 79),none,(.mv (.t 10))⟩,⟨(some 80),none,(.eqn .ifc true (.t 79))⟩,⟨(some 81),none,(.mv (.t 80))⟩,⟨(some 82),(some (81,false)),(.mv (.t 9))⟩,⟨(some 83),(some (81,false)),(.lens (.t 82))⟩,⟨(some 84),(some (81,false)),(.mv (.t 12))⟩,⟨(some 85),(some (81,false)),(.lens (.t 84))⟩,⟨(some 86),(some (81,false)),(.cmp .neq .i64 (.t 83) (.t 85))⟩,⟨(some 87),none,(.pick (.t 81) (.c (.bool true)) (.t 86))⟩])
 (.cond
 (.t 87)
 (.seq
 (.reg
 [⟨(some 4),none,(.mv (.c (.bool false)))⟩])
 .ret)
 .skip))
 (.seq
 (.seq
 (.reg
 [⟨(some 13),none,(.mv (.c (.int .i64 0)))⟩])
 (.blk
 2
 (.loop
 (.seq
 (.seq
 (.reg
 [⟨(some 88),none,(.mv (.t 13))⟩,⟨(some 89),none,(.mv (.t 12))⟩,⟨(some 90),none,(.lens (.t 89))⟩,⟨(some 91),none,(.cmp .lss .i64 (.t 88) (.t 90))⟩])
 (.cond
 (.t 91)
 .skip
 (.exit 2)))
 (.seq
 (.blk
 3
 (.seq
 (.reg
 [⟨(some 95),none,(.mv (.t 5))⟩,⟨(some 96),none,(.mv (.t 9))⟩,⟨(some 97),none,(.mv (.t 13))⟩,⟨(some 98),none,(.ia 2 (.t 96) (.t 97))⟩,⟨(some 99),none,(.fa 0 (.t 98))⟩,⟨(some 100),none,(.ld (.int .i64) (.t 99))⟩,⟨(some 101),none,(.call fn_evergreenlaw22_Canon [(.t 95),(.t 100)])⟩,⟨(some 94),none,(.mv (.t 101))⟩,⟨(some 102),none,(.ext (.t 94) 0)⟩,⟨(some 103),none,(.ext (.t 94) 1)⟩,⟨(some 14),none,(.mv (.t 102))⟩,⟨(some 15),none,(.mv (.t 103))⟩])
 (.seq
 (.drw
 [⟨(some 104),none,(.mv (.t 15))⟩,⟨(some 105),none,(.not (.t 104))⟩,⟨(some 106),none,(.mv (.t 105))⟩,⟨(some 107),(some (106,false)),(.mv (.t 9))⟩,⟨(some 108),(some (106,false)),(.mv (.t 13))⟩,⟨(some 109),(some (106,false)),(.ia 2 (.t 107) (.t 108))⟩,⟨(some 110),(some (106,false)),(.fa 1 (.t 109))⟩,⟨(some 111),(some (106,false)),(.ld (.int .i64) (.t 110))⟩,⟨(some 112),(some (106,false)),(.mv (.t 12))⟩,⟨(some 113),(some (106,false)),(.mv (.t 13))⟩,⟨(some 114),(some (106,false)),(.ia 2 (.t 112) (.t 113))⟩,⟨(some 115),(some (106,false)),(.fa 1 (.t 114))⟩,⟨(some 116),(some (106,false)),(.ld (.int .i64) (.t 115))⟩,⟨(some 117),(some (106,false)),(.cmp .neq .i64 (.t 111) (.t 116))⟩,⟨(some 118),none,(.pick (.t 106) (.c (.bool true)) (.t 117))⟩,⟨(some 119),none,(.mv (.t 118))⟩,⟨(some 120),(some (119,false)),(.mv (.t 14))⟩,⟨(some 121),(some (119,false)),(.mv (.t 11))⟩,⟨(some 122),(some (119,false)),(.nil (.t 121))⟩,⟨(some 123),(some (119,false)),(.fa 0 (.t 122))⟩,⟨(some 124),(some (119,false)),(.ld .slc (.t 123))⟩,⟨(some 125),(some (119,false)),(.mv (.t 12))⟩,⟨(some 126),(some (119,false)),(.mv (.t 13))⟩,⟨(some 127),(some (119,false)),(.ia 2 (.t 125) (.t 126))⟩,⟨(some 128),(some (119,false)),(.fa 0 (.t 127))⟩,⟨(some 129),(some (119,false)),(.ld (.int .i64) (.t 128))⟩,⟨(some 130),(some (119,false)),(.call fn_evergreenref22_Canon [(.t 124),(.t 129)])⟩,⟨(some 131),(some (119,false)),(.call fn_evergreenref11_Same [(.t 120),(.t 130)])⟩,⟨(some 132),(some (119,false)),(.not (.t 131))⟩,⟨(some 133),none,(.pick (.t 119) (.c (.bool true)) (.t 132))⟩]
 (.mov 0 (.take 1 (.mov 2 (.mov 3 (.mov 4 (.take 5 (.take 6 (.take 7 (.mov 8 (.mov 9 (.take 10 (.take 11 (.take 12 (.take 13 (.take 14 (.mov 15 (.mov 16 (.mov 17 (.take 18 (.take 19 (.take 20 (.mov 21 (.mov 22 (.take 23 (.take 24 (.take 25 (.bar 26 (.take 27 (.take 28 (.take 29 .done)))))))))))))))))))))))))))))))
 (.cond
 (.t 133)
 (.seq
 (.reg
 [⟨(some 4),none,(.mv (.c (.bool false)))⟩])
 .ret)
 .skip))))
 (.reg
 [⟨(some 92),none,(.mv (.t 13))⟩,⟨(some 93),none,(.ar .add .i64 (.t 92) (.c (.int .i64 1)))⟩,⟨(some 13),none,(.mv (.t 93))⟩]))))))
 (.seq
 (.reg
 [⟨(some 4),none,(.mv (.c (.bool true)))⟩])
 .ret))))))))))))))
def ts_evergreenlaw22_SignatureSequences : List (Nat × Tr) := [(21,(.mov 0 (.take 1 (.mov 2 (.mov 3 (.mov 4 (.take 5 (.take 6 (.take 7 (.mov 8 (.mov 9 (.take 10 (.take 11 (.take 12 (.take 13 (.take 14 (.mov 15 (.mov 16 (.mov 17 (.take 18 (.take 19 (.take 20 (.mov 21 (.mov 22 (.take 23 (.take 24 (.take 25 (.bar 26 (.take 27 (.take 28 (.take 29 .done)))))))))))))))))))))))))))))))]
set_option maxRecDepth 100000 in
set_option maxHeartbeats 4000000 in
theorem ok_evergreenlaw22_SignatureSequences : irOf Tryz.prog fn_evergreenlaw22_SignatureSequences [] ts_evergreenlaw22_SignatureSequences = some (134,[(.t 4)],ir_evergreenlaw22_SignatureSequences) := by kernel_rfl
end Go.Proofs.YtkkhpdkfploodaaGreatDoor
