/- The small forms of functions of the program, with the equations that say so: written by a program (irtool.py). No condition. -/
import Derived.Test.YtoocnmfodhnpbaaK6
import Derived.Test.YtoocnmfodhnpbaaProg
namespace Go.Proofs.Ytoocnmfodhnpbaa
open Go.EG
abbrev fn_slices_Sort_Sl_api_ID_api_ID : Nat := 67
abbrev fn_P_intern_Store_reach : Nat := 91
def ir_P_intern_Store_reach : C :=
 (.seq
 (.reg
 [⟨(some 4),none,(.mv (.c (.slice none 0 0)))⟩])
 (.seq
 (.seq
 (.reg
 [⟨(some 10),none,(.mv (.t 1))⟩,⟨(some 11),none,(.cmp .eql .i64 (.t 10) (.c (.int .i64 0)))⟩])
 (.cond
 (.t 11)
 (.seq
 (.reg
 [⟨(some 4),none,(.mv (.c (.slice none 0 0)))⟩])
 .ret)
 .skip))
 (.seq
 (.reg
 [⟨(some 12),none,(.mv (.t 1))⟩,⟨(some 13),none,(.bsl 13 ty_api_ID 1 1 [(.int .i64 0)] [(0,(1,(.t 12)))])⟩,⟨(some 5),none,(.mv (.t 13))⟩])
 (.seq
 (.reg
 [⟨(some 14),none,(.mkm 14 (.int .i64) none)⟩,⟨(some 15),none,(.mv (.t 1))⟩,⟨none,none,(.mup (.int .i64) (.t 14) (.t 15) (.c (.bool true)))⟩,⟨(some 16),none,(.mv (.t 14))⟩,⟨(some 6),none,(.mv (.t 16))⟩])
 (.seq
 (.seq
 (.reg
 [⟨(some 7),none,(.mv (.c (.int .i64 0)))⟩])
 (.blk
 0
 (.loop
 (.seq
 (.seq
 (.reg
 [⟨(some 17),none,(.mv (.t 7))⟩,⟨(some 18),none,(.mv (.t 5))⟩,⟨(some 19),none,(.lens (.t 18))⟩,⟨(some 20),none,(.cmp .lss .i64 (.t 17) (.t 19))⟩])
 (.cond
 (.t 20)
 .skip
 (.exit 0)))
 (.seq
 (.blk
 1
 (.seq
 (.drw
 [⟨(some 23),none,(.mv (.t 0))⟩,⟨(some 24),none,(.nil (.t 23))⟩,⟨(some 25),none,(.fa 1 (.t 24))⟩,⟨(some 26),none,(.ld .slc (.t 25))⟩,⟨(some 27),none,(.mv (.t 5))⟩,⟨(some 28),none,(.mv (.t 7))⟩,⟨(some 29),none,(.ia 1 (.t 27) (.t 28))⟩,⟨(some 30),none,(.ld (.int .i64) (.t 29))⟩,⟨(some 31),none,(.ar .sub .i64 (.t 30) (.c (.int .i64 1)))⟩,⟨(some 32),none,(.ia 13 (.t 26) (.t 31))⟩,⟨(some 33),none,(.fa 0 (.t 32))⟩,⟨(some 34),none,(.lda 5 [(.int .i64),(.int .u8),(.int .i64),(.int .i64),(.int .i64)] (.t 33))⟩,⟨(some 35),none,(.call fn_rule_Refs [(.t 34)])⟩,⟨(some 36),none,(.lens (.t 35))⟩,⟨(some 37),none,(.mv (.c (.int .i64 0)))⟩]
 (.mov 0 (.take 1 (.take 2 (.take 3 (.mov 4 (.mov 5 (.take 6 (.take 7 (.take 8 (.take 9 (.take 10 (.take 11 (.mov 14 (.bar 12 (.take 13 .done))))))))))))))))
 (.blk
 2
 (.loop
 (.seq
 (.reg
 [⟨(some 38),none,(.cmp .lss .i64 (.t 37) (.t 36))⟩])
 (.seq
 (.cond
 (.t 38)
 .skip
 (.exit 2))
 (.seq
 (.blk
 3
 (.seq
 (.reg
 [⟨(some 39),none,(.ia 1 (.t 35) (.t 37))⟩,⟨(some 40),none,(.ld (.int .i64) (.t 39))⟩,⟨(some 9),none,(.mv (.t 40))⟩])
 (.seq
 (.reg
 [⟨(some 41),none,(.mv (.t 6))⟩,⟨(some 42),none,(.mv (.t 9))⟩,⟨(some 43),none,(.lku (.int .i64) false (.bool false) (.t 41) (.t 42))⟩,⟨(some 44),none,(.not (.t 43))⟩])
 (.cond
 (.t 44)
 (.seq
 (.reg
 [⟨(some 45),none,(.mv (.t 6))⟩,⟨(some 46),none,(.mv (.t 9))⟩,⟨none,none,(.mup (.int .i64) (.t 45) (.t 46) (.c (.bool true)))⟩])
 (.reg
 [⟨(some 47),none,(.mv (.t 5))⟩,⟨(some 48),none,(.mv (.t 9))⟩,⟨(some 49),none,(.bsl 49 ty_api_ID 1 1 [(.int .i64 0)] [(0,(1,(.t 48)))])⟩,⟨(some 50),none,(.app 50 ty_api_ID 1 8 (.t 47) (.t 49))⟩,⟨(some 5),none,(.mv (.t 50))⟩]))
 .skip))))
 (.reg
 [⟨(some 51),none,(.ar .add .i64 (.t 37) (.c (.int .i64 1)))⟩,⟨(some 37),none,(.mv (.t 51))⟩]))))))))
 (.reg
 [⟨(some 21),none,(.mv (.t 7))⟩,⟨(some 22),none,(.ar .add .i64 (.t 21) (.c (.int .i64 1)))⟩,⟨(some 7),none,(.mv (.t 22))⟩]))))))
 (.seq
 (.reg
 [⟨(some 52),none,(.mv (.t 5))⟩,⟨(some 53),none,(.call fn_slices_Sort_Sl_api_ID_api_ID [(.t 52)])⟩])
 (.seq
 (.reg
 [⟨(some 54),none,(.mv (.t 5))⟩,⟨(some 4),none,(.mv (.t 54))⟩])
 .ret)))))))
def ts_P_intern_Store_reach : List (Nat × Tr) := [(8,(.mov 0 (.take 1 (.take 2 (.take 3 (.mov 4 (.mov 5 (.take 6 (.take 7 (.take 8 (.take 9 (.take 10 (.take 11 (.mov 14 (.bar 12 (.take 13 .done))))))))))))))))]
set_option maxRecDepth 100000 in
set_option maxHeartbeats 4000000 in
theorem ok_P_intern_Store_reach : irOf Try.prog fn_P_intern_Store_reach [] ts_P_intern_Store_reach = some (55,[(.t 4)],ir_P_intern_Store_reach) := by kernel_rfl
def ir_P_intern_Store_Export : C :=
 (.seq
 (.reg
 [⟨(some 4),none,(.mv (.c (.slice none 0 0)))⟩,⟨(some 5),none,(.mv (.c .nilIface))⟩])
 (.seq
 (.seq
 (.reg
 [⟨(some 12),none,(.mv (.t 0))⟩,⟨(some 13),none,(.eqn .ptr false (.t 12))⟩])
 (.cond
 (.t 13)
 (.seq
 (.reg
 [⟨(some 14),none,(.mki ty_api_Errno (.c (.int .i64 5)))⟩,⟨(some 4),none,(.mv (.c (.slice none 0 0)))⟩,⟨(some 5),none,(.mv (.t 14))⟩])
 .ret)
 .skip))
 (.seq
 (.seq
 (.reg
 [⟨(some 15),none,(.mv (.t 0))⟩,⟨(some 16),none,(.mv (.t 1))⟩,⟨(some 17),none,(.call fn_P_intern_Store_known [(.t 15),(.t 16)])⟩,⟨(some 18),none,(.not (.t 17))⟩])
 (.cond
 (.t 18)
 (.seq
 (.reg
 [⟨(some 19),none,(.mki ty_api_Errno (.c (.int .i64 1)))⟩,⟨(some 4),none,(.mv (.c (.slice none 0 0)))⟩,⟨(some 5),none,(.mv (.t 19))⟩])
 .ret)
 .skip))
 (.seq
 (.reg
 [⟨(some 20),none,(.mv (.t 0))⟩,⟨(some 21),none,(.mv (.t 1))⟩,⟨(some 22),none,(.call fn_P_intern_Store_reach [(.t 20),(.t 21)])⟩,⟨(some 6),none,(.mv (.t 22))⟩])
 (.seq
 (.reg
 [⟨(some 23),none,(.mv (.t 6))⟩,⟨(some 24),none,(.lens (.t 23))⟩,⟨(some 25),none,(.mkm 25 (.int .i64) (some (.t 24)))⟩,⟨(some 7),none,(.mv (.t 25))⟩])
 (.seq
 (.reg
 [⟨(some 26),none,(.mv (.t 6))⟩,⟨(some 27),none,(.lens (.t 26))⟩,⟨(some 28),none,(.mks 28 ty_api_Rule 5 40 [(.int .i64 0),(.int .u8 0),(.int .i64 0),(.int .i64 0),(.int .i64 0)] (.c (.int .i64 0)) (.t 27))⟩,⟨(some 8),none,(.mv (.t 28))⟩])
 (.seq
 (.seq
 (.reg
 [⟨(some 29),none,(.mv (.t 6))⟩,⟨(some 30),none,(.lens (.t 29))⟩,⟨(some 31),none,(.mv (.c (.int .i64 0)))⟩])
 (.blk
 0
 (.loop
 (.seq
 (.reg
 [⟨(some 32),none,(.cmp .lss .i64 (.t 31) (.t 30))⟩])
 (.seq
 (.cond
 (.t 32)
 .skip
 (.exit 0))
 (.seq
 (.blk
 1
 (.seq
 (.reg
 [⟨(some 33),none,(.mv (.t 31))⟩,⟨(some 34),none,(.ia 1 (.t 29) (.t 31))⟩,⟨(some 35),none,(.ld (.int .i64) (.t 34))⟩,⟨(some 9),none,(.mv (.t 33))⟩,⟨(some 10),none,(.mv (.t 35))⟩])
 (.seq
 (.reg
 [⟨(some 36),none,(.mv (.t 7))⟩,⟨(some 37),none,(.mv (.t 10))⟩,⟨(some 38),none,(.mv (.t 9))⟩,⟨(some 39),none,(.ar .add .i64 (.t 38) (.c (.int .i64 1)))⟩,⟨none,none,(.mup (.int .i64) (.t 36) (.t 37) (.t 39))⟩])
 (.seq
 (.reg
 [⟨(some 40),none,(.mv (.t 0))⟩,⟨(some 41),none,(.nil (.t 40))⟩,⟨(some 42),none,(.fa 1 (.t 41))⟩,⟨(some 43),none,(.ld .slc (.t 42))⟩,⟨(some 44),none,(.mv (.t 10))⟩,⟨(some 45),none,(.ar .sub .i64 (.t 44) (.c (.int .i64 1)))⟩,⟨(some 46),none,(.ia 13 (.t 43) (.t 45))⟩,⟨(some 47),none,(.fa 0 (.t 46))⟩,⟨(some 48),none,(.lda 5 [(.int .i64),(.int .u8),(.int .i64),(.int .i64),(.int .i64)] (.t 47))⟩,⟨(some 11),none,(.alc 11 ty_api_Rule [(.int .i64 0),(.int .u8 0),(.int .i64 0),(.int .i64 0),(.int .i64 0)])⟩,⟨none,none,(.st 5 (.t 11) (.t 48))⟩])
 (.seq
 (.drw
 [⟨(some 49),none,(.mv (.t 7))⟩,⟨(some 50),none,(.fa 2 (.t 11))⟩,⟨(some 51),none,(.ld (.int .i64) (.t 50))⟩,⟨(some 52),none,(.lku (.int .i64) false (.int .i64 0) (.t 49) (.t 51))⟩,⟨(some 53),none,(.mv (.t 7))⟩,⟨(some 54),none,(.fa 3 (.t 11))⟩,⟨(some 55),none,(.ld (.int .i64) (.t 54))⟩,⟨(some 56),none,(.lku (.int .i64) false (.int .i64 0) (.t 53) (.t 55))⟩,⟨(some 57),none,(.fa 2 (.t 11))⟩,⟨none,none,(.st 1 (.t 57) (.t 52))⟩,⟨(some 58),none,(.fa 3 (.t 11))⟩,⟨none,none,(.st 1 (.t 58) (.t 56))⟩]
 (.mov 0 (.mov 4 (.take 5 (.take 6 (.alt 1 true (.alt 2 true (.alt 3 true (.alt 7 false (.bar 8 (.bar 9 (.bar 10 (.bar 11 .done)))) (.alt 8 false (.alt 7 false (.bar 9 (.bar 10 (.bar 11 .done))) (.alt 9 false (.bar 7 (.bar 10 (.bar 11 .done))) .nil)) .nil)) (.alt 7 false (.alt 3 true (.bar 8 (.bar 9 (.bar 10 (.bar 11 .done)))) .nil) .nil)) (.alt 7 false (.alt 2 true (.alt 3 true (.bar 8 (.bar 9 (.bar 10 (.bar 11 .done)))) .nil) .nil) .nil)) (.alt 7 false (.alt 1 true (.alt 2 true (.alt 3 true (.bar 8 (.bar 9 (.bar 10 (.bar 11 .done)))) .nil) .nil) .nil) .nil)))))))
 (.reg
 [⟨(some 59),none,(.mv (.t 8))⟩,⟨(some 60),none,(.lda 5 [(.int .i64),(.int .u8),(.int .i64),(.int .i64),(.int .i64)] (.t 11))⟩,⟨(some 61),none,(.bsl 61 ty_api_Rule 5 1 [(.int .i64 0),(.int .u8 0),(.int .i64 0),(.int .i64 0),(.int .i64 0)] [(0,(5,(.t 60)))])⟩,⟨(some 62),none,(.app 62 ty_api_Rule 5 40 (.t 59) (.t 61))⟩,⟨(some 8),none,(.mv (.t 62))⟩]))))))
 (.reg
 [⟨(some 63),none,(.ar .add .i64 (.t 31) (.c (.int .i64 1)))⟩,⟨(some 31),none,(.mv (.t 63))⟩])))))))
 (.seq
 (.reg
 [⟨(some 64),none,(.mv (.t 8))⟩,⟨(some 4),none,(.mv (.t 64))⟩,⟨(some 5),none,(.mv (.c .nilIface))⟩])
 .ret))))))))
def ts_P_intern_Store_Export : List (Nat × Tr) := [(13,(.mov 0 (.mov 4 (.take 5 (.take 6 (.alt 1 true (.alt 2 true (.alt 3 true (.alt 7 false (.bar 8 (.bar 9 (.bar 10 (.bar 11 .done)))) (.alt 8 false (.alt 7 false (.bar 9 (.bar 10 (.bar 11 .done))) (.alt 9 false (.bar 7 (.bar 10 (.bar 11 .done))) .nil)) .nil)) (.alt 7 false (.alt 3 true (.bar 8 (.bar 9 (.bar 10 (.bar 11 .done)))) .nil) .nil)) (.alt 7 false (.alt 2 true (.alt 3 true (.bar 8 (.bar 9 (.bar 10 (.bar 11 .done)))) .nil) .nil) .nil)) (.alt 7 false (.alt 1 true (.alt 2 true (.alt 3 true (.bar 8 (.bar 9 (.bar 10 (.bar 11 .done)))) .nil) .nil) .nil) .nil)))))))]
set_option maxRecDepth 100000 in
set_option maxHeartbeats 4000000 in
theorem ok_P_intern_Store_Export : irOf Try.prog fn_P_intern_Store_Export [] ts_P_intern_Store_Export = some (65,[(.t 4),(.t 5)],ir_P_intern_Store_Export) := by kernel_rfl
end Go.Proofs.Ytoocnmfodhnpbaa
