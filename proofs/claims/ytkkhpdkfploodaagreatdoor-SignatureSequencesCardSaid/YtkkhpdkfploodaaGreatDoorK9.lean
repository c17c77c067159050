/- The small forms of functions of the program, with the equations that say so: written by a program (irtool.py). No condition. -/
import Derived.Test.YtkkhpdkfploodaaGreatDoorK7
import Derived.Test.YtkkhpdkfploodaaGreatDoorProg
namespace Go.Proofs.YtkkhpdkfploodaaGreatDoor
open Go.EG
abbrev fn_P_signature_Parser_Sequence : Nat := 8
abbrev fn_P_signature_expansion_groups : Nat := 24
abbrev ty_signature_expansion : Nat := 74
def ir_P_signature_Parser_Sequence : C :=
 (.seq
 (.reg
 [⟨(some 6),none,(.mv (.c (.slice none 0 0)))⟩,⟨(some 7),none,(.mv (.c .nilIface))⟩])
 (.seq
 (.seq
 (.reg
 [⟨(some 11),none,(.mv (.t 0))⟩,⟨(some 12),none,(.eqn .ptr false (.t 11))⟩,⟨(some 13),none,(.mv (.t 12))⟩,⟨(some 14),(some (13,false)),(.mv (.t 0))⟩,⟨(some 15),(some (13,false)),(.nil (.t 14))⟩,⟨(some 16),(some (13,false)),(.fa 0 (.t 15))⟩,⟨(some 17),(some (13,false)),(.ld .ptr (.t 16))⟩,⟨(some 18),(some (13,false)),(.eqn .ptr false (.t 17))⟩,⟨(some 19),none,(.pick (.t 13) (.c (.bool true)) (.t 18))⟩])
 (.cond
 (.t 19)
 (.seq
 (.reg
 [⟨(some 20),none,(.mki ty_api_Errno (.c (.int .i64 5)))⟩,⟨(some 6),none,(.mv (.c (.slice none 0 0)))⟩,⟨(some 7),none,(.mv (.t 20))⟩])
 .ret)
 .skip))
 (.seq
 (.seq
 (.reg
 [⟨(some 21),none,(.mv (.t 1))⟩,⟨(some 22),none,(.cmp .lss .i64 (.t 21) (.c (.int .i64 0)))⟩,⟨(some 23),none,(.mv (.t 22))⟩,⟨(some 24),(some (23,false)),(.mv (.t 1))⟩,⟨(some 25),(some (23,false)),(.mv (.t 0))⟩,⟨(some 26),(some (23,false)),(.nil (.t 25))⟩,⟨(some 27),(some (23,false)),(.fa 0 (.t 26))⟩,⟨(some 28),(some (23,false)),(.ld .ptr (.t 27))⟩,⟨(some 29),(some (23,false)),(.call fn_P_intern_Store_Len [(.t 28)])⟩,⟨(some 30),(some (23,false)),(.cmp .gtr .i64 (.t 24) (.t 29))⟩,⟨(some 31),none,(.pick (.t 23) (.c (.bool true)) (.t 30))⟩,⟨(some 32),none,(.mv (.t 31))⟩,⟨(some 33),(some (32,false)),(.mv (.t 2))⟩,⟨(some 34),(some (32,false)),(.cmp .lss .i64 (.t 33) (.c (.int .i64 0)))⟩,⟨(some 35),none,(.pick (.t 32) (.c (.bool true)) (.t 34))⟩])
 (.cond
 (.t 35)
 (.seq
 (.reg
 [⟨(some 36),none,(.mki ty_api_Errno (.c (.int .i64 1)))⟩,⟨(some 6),none,(.mv (.c (.slice none 0 0)))⟩,⟨(some 7),none,(.mv (.t 36))⟩])
 .ret)
 .skip))
 (.seq
 (.seq
 (.reg
 [⟨(some 37),none,(.mv (.t 1))⟩,⟨(some 38),none,(.cmp .eql .i64 (.t 37) (.c (.int .i64 0)))⟩])
 (.cond
 (.t 38)
 (.seq
 (.reg
 [⟨(some 6),none,(.mv (.c (.slice none 0 0)))⟩,⟨(some 7),none,(.mv (.c .nilIface))⟩])
 .ret)
 .skip))
 (.seq
 (.seq
 (.reg
 [⟨(some 40),none,(.mv (.t 0))⟩,⟨(some 41),none,(.nil (.t 40))⟩,⟨(some 42),none,(.fa 1 (.t 41))⟩,⟨(some 43),none,(.ld .ptr (.t 42))⟩,⟨(some 44),none,(.mv (.t 1))⟩,⟨(some 45),none,(.call fn_P_keys_Table_Level [(.t 43),(.t 44)])⟩,⟨(some 39),none,(.mv (.t 45))⟩,⟨(some 46),none,(.ext (.t 39) 0)⟩,⟨(some 47),none,(.ext (.t 39) 1)⟩,⟨(some 8),none,(.mv (.t 46))⟩,⟨(some 9),none,(.mv (.t 47))⟩])
 (.seq
 (.reg
 [⟨(some 48),none,(.mv (.t 9))⟩,⟨(some 49),none,(.eqn .ifc true (.t 48))⟩])
 (.cond
 (.t 49)
 (.seq
 (.reg
 [⟨(some 50),none,(.mv (.t 9))⟩,⟨(some 6),none,(.mv (.c (.slice none 0 0)))⟩,⟨(some 7),none,(.mv (.t 50))⟩])
 .ret)
 .skip)))
 (.seq
 (.reg
 [⟨(some 51),none,(.mv (.t 0))⟩,⟨(some 52),none,(.mv (.t 2))⟩,⟨(some 53),none,(.mkm 53 (.int .i64) none)⟩,⟨(some 54),none,(.bld [(.pointer none),(.int .i64 0),(.map none)] [(0,(1,(.t 51))),(1,(1,(.t 52))),(2,(1,(.t 53)))])⟩,⟨(some 10),none,(.alc 10 ty_signature_expansion [(.pointer none),(.int .i64 0),(.map none)])⟩,⟨none,none,(.st 3 (.t 10) (.t 54))⟩])
 (.seq
 (.reg
 [⟨(some 55),none,(.mv (.t 1))⟩,⟨(some 56),none,(.call fn_P_signature_expansion_groups [(.t 10),(.t 55)])⟩,⟨(some 57),none,(.ext (.t 56) 0)⟩,⟨(some 58),none,(.ext (.t 56) 1)⟩,⟨(some 6),none,(.mv (.t 57))⟩,⟨(some 7),none,(.mv (.t 58))⟩])
 .ret)))))))
def ts_P_signature_Parser_Sequence : List (Nat × Tr) := []
set_option maxRecDepth 100000 in
set_option maxHeartbeats 4000000 in
theorem ok_P_signature_Parser_Sequence : irOf Tryz.prog fn_P_signature_Parser_Sequence [] ts_P_signature_Parser_Sequence = some (59,[(.t 6),(.t 7)],ir_P_signature_Parser_Sequence) := by kernel_rfl
end Go.Proofs.YtkkhpdkfploodaaGreatDoor
