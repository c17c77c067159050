/- The small forms of functions of the program, with the equations that say so: written by a program (irtool.py). No condition. -/
import Derived.Test.YtkkhpdkfploodaaDoorK14
import Derived.Test.YtkkhpdkfploodaaDoorProg
namespace Go.Proofs.YtkkhpdkfploodaaDoor
open Go.EG
abbrev fn_evergreenlaw22_SignatureTop : Nat := 4
abbrev fn_evergreenlaw22_SignatureShrinks : Nat := 5
abbrev fn_evergreenlaw22_SignatureSteps : Nat := 8
abbrev fn_evergreenlaw22_ran : Nat := 29
abbrev fn_evergreenlaw22_paired : Nat := 30
def ir_evergreenlaw22_SignatureTop : C :=
 (.seq
 (.reg
 [⟨(some 4), none, (.mv (.c (.bool false)))⟩])
 (.seq
 (.seq
 (.reg
 [⟨(some 14), none, (.mv (.t 0))⟩, ⟨(some 15), none, (.lens (.t 14))⟩, ⟨(some 16), none, (.cmp .gtr .i64 (.t 15) (.c (.int .i64 500)))⟩])
 (.cond
 (.t 16)
 (.seq
 (.reg
 [⟨(some 4), none, (.mv (.c (.bool true)))⟩])
 .ret)
 .skip))
 (.seq
 (.reg
 [⟨(some 17), none, (.call fn_intern_New [(.c (.int .i64 10000))])⟩, ⟨(some 18), none, (.call fn_signature_New [(.t 17)])⟩, ⟨(some 5), none, (.mv (.t 18))⟩])
 (.seq
 (.reg
 [⟨(some 20), none, (.mv (.t 5))⟩, ⟨(some 21), none, (.mv (.t 0))⟩, ⟨(some 22), none, (.call fn_evergreenlaw22_copied [(.t 21)])⟩, ⟨(some 23), none, (.call fn_P_signature_Parser_Of [(.t 20), (.t 22)])⟩, ⟨(some 19), none, (.mv (.t 23))⟩, ⟨(some 24), none, (.ext (.t 19) 0)⟩, ⟨(some 25), none, (.ext (.t 19) 1)⟩, ⟨(some 6), none, (.mv (.t 24))⟩, ⟨(some 7), none, (.mv (.t 25))⟩])
 (.seq
 (.reg
 [⟨(some 27), none, (.mv (.t 5))⟩, ⟨(some 28), none, (.mv (.t 6))⟩, ⟨(some 29), none, (.call fn_P_signature_Parser_Top [(.t 27), (.t 28)])⟩, ⟨(some 26), none, (.mv (.t 29))⟩, ⟨(some 30), none, (.ext (.t 26) 0)⟩, ⟨(some 31), none, (.ext (.t 26) 1)⟩, ⟨(some 8), none, (.mv (.t 30))⟩, ⟨(some 9), none, (.mv (.t 31))⟩])
 (.seq
 (.seq
 (.reg
 [⟨(some 32), none, (.call fn_evergreenlaw22_awake [])⟩, ⟨(some 33), none, (.not (.t 32))⟩, ⟨(some 34), none, (.mv (.t 33))⟩, ⟨(some 35), (some (34, false)), (.mv (.t 7))⟩, ⟨(some 36), (some (34, false)), (.eqn .ifc true (.t 35))⟩, ⟨(some 37), none, (.pick (.t 34) (.c (.bool true)) (.t 36))⟩, ⟨(some 38), none, (.mv (.t 37))⟩, ⟨(some 39), (some (38, false)), (.mv (.t 9))⟩, ⟨(some 40), (some (38, false)), (.eqn .ifc true (.t 39))⟩, ⟨(some 41), none, (.pick (.t 38) (.c (.bool true)) (.t 40))⟩])
 (.cond
 (.t 41)
 (.seq
 (.reg
 [⟨(some 4), none, (.mv (.c (.bool false)))⟩])
 .ret)
 .skip))
 (.seq
 (.seq
 (.reg
 [⟨(some 42), none, (.mv (.t 0))⟩, ⟨(some 43), none, (.lens (.t 42))⟩, ⟨(some 44), none, (.cmp .eql .i64 (.t 43) (.c (.int .i64 0)))⟩])
 (.cond
 (.t 44)
 (.seq
 (.reg
 [⟨(some 46), none, (.mv (.t 5))⟩, ⟨(some 47), none, (.mv (.t 1))⟩, ⟨(some 48), none, (.cv .i64 (.t 47))⟩, ⟨(some 49), none, (.call fn_P_signature_Parser_Sequence [(.t 46), (.c (.int .i64 0)), (.t 48)])⟩, ⟨(some 45), none, (.mv (.t 49))⟩, ⟨(some 50), none, (.ext (.t 45) 0)⟩, ⟨(some 51), none, (.ext (.t 45) 1)⟩, ⟨(some 10), none, (.mv (.t 50))⟩, ⟨(some 11), none, (.mv (.t 51))⟩])
 (.seq
 (.reg
 [⟨(some 52), none, (.mv (.t 6))⟩, ⟨(some 53), none, (.cmp .eql .i64 (.t 52) (.c (.int .i64 0)))⟩, ⟨(some 54), none, (.mv (.t 53))⟩, ⟨(some 55), (some (54, true)), (.mv (.t 8))⟩, ⟨(some 56), (some (54, true)), (.cmp .eql .i64 (.t 55) (.c (.int .i64 0)))⟩, ⟨(some 57), none, (.pick (.t 54) (.t 56) (.c (.bool false)))⟩, ⟨(some 58), none, (.mv (.t 57))⟩, ⟨(some 59), (some (58, true)), (.mv (.t 11))⟩, ⟨(some 60), (some (58, true)), (.eqn .ifc false (.t 59))⟩, ⟨(some 61), none, (.pick (.t 58) (.t 60) (.c (.bool false)))⟩, ⟨(some 62), none, (.mv (.t 61))⟩, ⟨(some 63), (some (62, true)), (.mv (.t 10))⟩, ⟨(some 64), (some (62, true)), (.lens (.t 63))⟩, ⟨(some 65), (some (62, true)), (.cmp .eql .i64 (.t 64) (.c (.int .i64 0)))⟩, ⟨(some 66), none, (.pick (.t 62) (.t 65) (.c (.bool false)))⟩, ⟨(some 4), none, (.mv (.t 66))⟩])
 .ret))
 .skip))
 (.seq
 (.reg
 [⟨(some 68), none, (.mv (.t 5))⟩, ⟨(some 69), none, (.mv (.t 6))⟩, ⟨(some 70), none, (.mv (.t 8))⟩, ⟨(some 71), none, (.mv (.t 1))⟩, ⟨(some 72), none, (.cv .i64 (.t 71))⟩, ⟨(some 73), none, (.ar .add .i64 (.t 70) (.t 72))⟩, ⟨(some 74), none, (.call fn_P_signature_Parser_Sequence [(.t 68), (.t 69), (.t 73)])⟩, ⟨(some 67), none, (.mv (.t 74))⟩, ⟨(some 75), none, (.ext (.t 67) 0)⟩, ⟨(some 76), none, (.ext (.t 67) 1)⟩, ⟨(some 12), none, (.mv (.t 75))⟩, ⟨(some 13), none, (.mv (.t 76))⟩])
 (.seq
 (.seq
 (.reg
 [⟨(some 77), none, (.mv (.t 13))⟩, ⟨(some 78), none, (.eqn .ifc true (.t 77))⟩, ⟨(some 79), none, (.mv (.t 78))⟩, ⟨(some 80), (some (79, false)), (.mv (.t 12))⟩, ⟨(some 81), (some (79, false)), (.lens (.t 80))⟩, ⟨(some 82), (some (79, false)), (.cmp .neq .i64 (.t 81) (.c (.int .i64 1)))⟩, ⟨(some 83), none, (.pick (.t 79) (.c (.bool true)) (.t 82))⟩, ⟨(some 84), none, (.mv (.t 83))⟩, ⟨(some 85), (some (84, false)), (.mv (.t 12))⟩, ⟨(some 86), (some (84, false)), (.ia 2 (.t 85) (.c (.int .i64 0)))⟩, ⟨(some 87), (some (84, false)), (.lda 2 [(.int .i64), (.int .i64)] (.t 86))⟩, ⟨(some 88), (some (84, false)), (.mv (.t 6))⟩, ⟨(some 89), (some (84, false)), (.bld [(.int .i64 0), (.int .i64 0)] [(0, (1, (.t 88))), (1, (1, (.c (.int .i64 1))))])⟩, ⟨(some 90), (some (84, false)), (.eqa true [(.int .i64), (.int .i64)] (.t 87) (.t 89))⟩, ⟨(some 91), none, (.pick (.t 84) (.c (.bool true)) (.t 90))⟩])
 (.cond
 (.t 91)
 (.seq
 (.reg
 [⟨(some 4), none, (.mv (.c (.bool false)))⟩])
 .ret)
 .skip))
 (.seq
 (.seq
 (.reg
 [⟨(some 92), none, (.mv (.t 8))⟩, ⟨(some 93), none, (.cmp .eql .i64 (.t 92) (.c (.int .i64 0)))⟩])
 (.cond
 (.t 93)
 (.seq
 (.reg
 [⟨(some 94), none, (.mv (.t 0))⟩, ⟨(some 95), none, (.lens (.t 94))⟩, ⟨(some 96), none, (.cmp .eql .i64 (.t 95) (.c (.int .i64 1)))⟩, ⟨(some 4), none, (.mv (.t 96))⟩])
 .ret)
 .skip))
 (.seq
 (.reg
 [⟨(some 98), none, (.mv (.t 5))⟩, ⟨(some 99), none, (.mv (.t 6))⟩, ⟨(some 100), none, (.mv (.t 8))⟩, ⟨(some 101), none, (.ar .sub .i64 (.t 100) (.c (.int .i64 1)))⟩, ⟨(some 102), none, (.call fn_P_signature_Parser_Sequence [(.t 98), (.t 99), (.t 101)])⟩, ⟨(some 97), none, (.mv (.t 102))⟩, ⟨(some 103), none, (.ext (.t 97) 0)⟩, ⟨(some 104), none, (.ext (.t 97) 1)⟩, ⟨(some 12), none, (.mv (.t 103))⟩, ⟨(some 13), none, (.mv (.t 104))⟩])
 (.seq
 (.reg
 [⟨(some 105), none, (.mv (.t 13))⟩, ⟨(some 106), none, (.eqn .ifc false (.t 105))⟩, ⟨(some 107), none, (.mv (.t 106))⟩, ⟨(some 108), (some (107, true)), (.mv (.t 12))⟩, ⟨(some 109), (some (107, true)), (.lens (.t 108))⟩, ⟨(some 110), (some (107, true)), (.cmp .gtr .i64 (.t 109) (.c (.int .i64 1)))⟩, ⟨(some 111), (some (107, true)), (.mv (.t 110))⟩, ⟨(some 112), (some (111, false)), (.mv (.t 12))⟩, ⟨(some 113), (some (111, false)), (.lens (.t 112))⟩, ⟨(some 114), (some (111, false)), (.cmp .eql .i64 (.t 113) (.c (.int .i64 1)))⟩, ⟨(some 115), (some (111, false)), (.mv (.t 114))⟩, ⟨(some 116), (some (115, true)), (.mv (.t 12))⟩, ⟨(some 117), (some (115, true)), (.ia 2 (.t 116) (.c (.int .i64 0)))⟩, ⟨(some 118), (some (115, true)), (.fa 1 (.t 117))⟩, ⟨(some 119), (some (115, true)), (.ld (.int .i64) (.t 118))⟩, ⟨(some 120), (some (115, true)), (.cmp .gtr .i64 (.t 119) (.c (.int .i64 1)))⟩, ⟨(some 121), (some (111, false)), (.pick (.t 115) (.t 120) (.c (.bool false)))⟩, ⟨(some 122), (some (107, true)), (.pick (.t 111) (.c (.bool true)) (.t 121))⟩, ⟨(some 123), none, (.pick (.t 107) (.t 122) (.c (.bool false)))⟩, ⟨(some 4), none, (.mv (.t 123))⟩])
 .ret))))))))))))
def ts_evergreenlaw22_SignatureTop : List (Nat × Tr) := []
set_option maxRecDepth 100000 in
set_option maxHeartbeats 4000000 in
theorem ok_evergreenlaw22_SignatureTop : irOf Tryd.prog fn_evergreenlaw22_SignatureTop [] ts_evergreenlaw22_SignatureTop = some (124, [(.t 4)], ir_evergreenlaw22_SignatureTop) := by kernel_rfl
def ir_evergreenlaw22_SignatureShrinks : C :=
 (.seq
 (.reg
 [⟨(some 4), none, (.mv (.c (.bool false)))⟩])
 (.seq
 (.seq
 (.reg
 [⟨(some 15), none, (.mv (.t 0))⟩, ⟨(some 16), none, (.lens (.t 15))⟩, ⟨(some 17), none, (.cmp .gtr .i64 (.t 16) (.c (.int .i64 1000)))⟩])
 (.cond
 (.t 17)
 (.seq
 (.reg
 [⟨(some 4), none, (.mv (.c (.bool true)))⟩])
 .ret)
 .skip))
 (.seq
 (.reg
 [⟨(some 18), none, (.call fn_intern_New [(.c (.int .i64 20000))])⟩, ⟨(some 19), none, (.call fn_signature_New [(.t 18)])⟩, ⟨(some 5), none, (.mv (.t 19))⟩])
 (.seq
 (.reg
 [⟨(some 21), none, (.mv (.t 5))⟩, ⟨(some 22), none, (.mv (.t 0))⟩, ⟨(some 23), none, (.call fn_evergreenlaw22_copied [(.t 22)])⟩, ⟨(some 24), none, (.call fn_P_signature_Parser_Of [(.t 21), (.t 23)])⟩, ⟨(some 20), none, (.mv (.t 24))⟩, ⟨(some 25), none, (.ext (.t 20) 0)⟩, ⟨(some 26), none, (.ext (.t 20) 1)⟩, ⟨(some 6), none, (.mv (.t 25))⟩, ⟨(some 7), none, (.mv (.t 26))⟩])
 (.seq
 (.reg
 [⟨(some 28), none, (.mv (.t 5))⟩, ⟨(some 29), none, (.mv (.t 6))⟩, ⟨(some 30), none, (.call fn_P_signature_Parser_Top [(.t 28), (.t 29)])⟩, ⟨(some 27), none, (.mv (.t 30))⟩, ⟨(some 31), none, (.ext (.t 27) 0)⟩, ⟨(some 32), none, (.ext (.t 27) 1)⟩, ⟨(some 8), none, (.mv (.t 31))⟩, ⟨(some 9), none, (.mv (.t 32))⟩])
 (.seq
 (.seq
 (.reg
 [⟨(some 33), none, (.call fn_evergreenlaw22_awake [])⟩, ⟨(some 34), none, (.not (.t 33))⟩, ⟨(some 35), none, (.mv (.t 34))⟩, ⟨(some 36), (some (35, false)), (.mv (.t 7))⟩, ⟨(some 37), (some (35, false)), (.eqn .ifc true (.t 36))⟩, ⟨(some 38), none, (.pick (.t 35) (.c (.bool true)) (.t 37))⟩, ⟨(some 39), none, (.mv (.t 38))⟩, ⟨(some 40), (some (39, false)), (.mv (.t 9))⟩, ⟨(some 41), (some (39, false)), (.eqn .ifc true (.t 40))⟩, ⟨(some 42), none, (.pick (.t 39) (.c (.bool true)) (.t 41))⟩])
 (.cond
 (.t 42)
 (.seq
 (.reg
 [⟨(some 4), none, (.mv (.c (.bool false)))⟩])
 .ret)
 .skip))
 (.seq
 (.reg
 [⟨(some 43), none, (.mv (.t 1))⟩, ⟨(some 44), none, (.cv .i64 (.t 43))⟩, ⟨(some 45), none, (.mv (.t 8))⟩, ⟨(some 46), none, (.ar .add .i64 (.t 45) (.c (.int .i64 1)))⟩, ⟨(some 47), none, (.dv true .i64 (.t 44) (.t 46))⟩, ⟨(some 48), none, (.dv false .i64 (.t 47) (.c (.int .i64 2)))⟩, ⟨(some 49), none, (.ar .mul .i64 (.t 48) (.c (.int .i64 2)))⟩, ⟨(some 10), none, (.mv (.t 49))⟩])
 (.seq
 (.reg
 [⟨(some 51), none, (.mv (.t 5))⟩, ⟨(some 52), none, (.mv (.t 6))⟩, ⟨(some 53), none, (.mv (.t 10))⟩, ⟨(some 54), none, (.call fn_P_signature_Parser_Sequence [(.t 51), (.t 52), (.t 53)])⟩, ⟨(some 50), none, (.mv (.t 54))⟩, ⟨(some 55), none, (.ext (.t 50) 0)⟩, ⟨(some 56), none, (.ext (.t 50) 1)⟩, ⟨(some 11), none, (.mv (.t 55))⟩, ⟨(some 12), none, (.mv (.t 56))⟩])
 (.seq
 (.reg
 [⟨(some 58), none, (.mv (.t 5))⟩, ⟨(some 59), none, (.mv (.t 6))⟩, ⟨(some 60), none, (.mv (.t 10))⟩, ⟨(some 61), none, (.ar .add .i64 (.t 60) (.c (.int .i64 246)))⟩, ⟨(some 62), none, (.call fn_P_signature_Parser_Sequence [(.t 58), (.t 59), (.t 61)])⟩, ⟨(some 57), none, (.mv (.t 62))⟩, ⟨(some 63), none, (.ext (.t 57) 0)⟩, ⟨(some 64), none, (.ext (.t 57) 1)⟩, ⟨(some 13), none, (.mv (.t 63))⟩, ⟨(some 14), none, (.mv (.t 64))⟩])
 (.seq
 (.reg
 [⟨(some 65), none, (.mv (.t 12))⟩, ⟨(some 66), none, (.eqn .ifc false (.t 65))⟩, ⟨(some 67), none, (.mv (.t 66))⟩, ⟨(some 68), (some (67, true)), (.mv (.t 14))⟩, ⟨(some 69), (some (67, true)), (.eqn .ifc false (.t 68))⟩, ⟨(some 70), none, (.pick (.t 67) (.t 69) (.c (.bool false)))⟩, ⟨(some 71), none, (.mv (.t 70))⟩, ⟨(some 72), (some (71, true)), (.mv (.t 13))⟩, ⟨(some 73), (some (71, true)), (.lens (.t 72))⟩, ⟨(some 74), (some (71, true)), (.ar .mul .i64 (.c (.int .i64 3)) (.t 73))⟩, ⟨(some 75), (some (71, true)), (.mv (.t 11))⟩, ⟨(some 76), (some (71, true)), (.lens (.t 75))⟩, ⟨(some 77), (some (71, true)), (.ar .mul .i64 (.c (.int .i64 2)) (.t 76))⟩, ⟨(some 78), (some (71, true)), (.ar .add .i64 (.t 77) (.c (.int .i64 1)))⟩, ⟨(some 79), (some (71, true)), (.cmp .leq .i64 (.t 74) (.t 78))⟩, ⟨(some 80), none, (.pick (.t 71) (.t 79) (.c (.bool false)))⟩, ⟨(some 4), none, (.mv (.t 80))⟩])
 .ret))))))))))
def ts_evergreenlaw22_SignatureShrinks : List (Nat × Tr) := []
set_option maxRecDepth 100000 in
set_option maxHeartbeats 4000000 in
theorem ok_evergreenlaw22_SignatureShrinks : irOf Tryd.prog fn_evergreenlaw22_SignatureShrinks [] ts_evergreenlaw22_SignatureShrinks = some (81, [(.t 4)], ir_evergreenlaw22_SignatureShrinks) := by kernel_rfl
def ir_evergreenlaw22_SignatureSteps : C :=
 (.seq
 (.reg
 [⟨(some 4), none, (.mv (.c (.bool false)))⟩])
 (.seq
 (.seq
 (.reg
 [⟨(some 19), none, (.mv (.t 0))⟩, ⟨(some 20), none, (.lens (.t 19))⟩, ⟨(some 21), none, (.cmp .gtr .i64 (.t 20) (.c (.int .i64 300)))⟩])
 (.cond
 (.t 21)
 (.seq
 (.reg
 [⟨(some 4), none, (.mv (.c (.bool true)))⟩])
 .ret)
 .skip))
 (.seq
 (.reg
 [⟨(some 22), none, (.call fn_intern_New [(.c (.int .i64 10000))])⟩, ⟨(some 5), none, (.mv (.t 22))⟩])
 (.seq
 (.reg
 [⟨(some 23), none, (.mv (.t 5))⟩, ⟨(some 24), none, (.call fn_signature_New [(.t 23)])⟩, ⟨(some 6), none, (.mv (.t 24))⟩])
 (.seq
 (.reg
 [⟨(some 26), none, (.mv (.t 6))⟩, ⟨(some 27), none, (.mv (.t 0))⟩, ⟨(some 28), none, (.call fn_evergreenlaw22_copied [(.t 27)])⟩, ⟨(some 29), none, (.call fn_P_signature_Parser_Of [(.t 26), (.t 28)])⟩, ⟨(some 25), none, (.mv (.t 29))⟩, ⟨(some 30), none, (.ext (.t 25) 0)⟩, ⟨(some 31), none, (.ext (.t 25) 1)⟩, ⟨(some 7), none, (.mv (.t 30))⟩, ⟨(some 8), none, (.mv (.t 31))⟩])
 (.seq
 (.reg
 [⟨(some 33), none, (.mv (.t 6))⟩, ⟨(some 34), none, (.mv (.t 7))⟩, ⟨(some 35), none, (.call fn_P_signature_Parser_Top [(.t 33), (.t 34)])⟩, ⟨(some 32), none, (.mv (.t 35))⟩, ⟨(some 36), none, (.ext (.t 32) 0)⟩, ⟨(some 37), none, (.ext (.t 32) 1)⟩, ⟨(some 9), none, (.mv (.t 36))⟩, ⟨(some 10), none, (.mv (.t 37))⟩])
 (.seq
 (.seq
 (.reg
 [⟨(some 38), none, (.call fn_evergreenlaw22_awake [])⟩, ⟨(some 39), none, (.not (.t 38))⟩, ⟨(some 40), none, (.mv (.t 39))⟩, ⟨(some 41), (some (40, false)), (.mv (.t 8))⟩, ⟨(some 42), (some (40, false)), (.eqn .ifc true (.t 41))⟩, ⟨(some 43), none, (.pick (.t 40) (.c (.bool true)) (.t 42))⟩, ⟨(some 44), none, (.mv (.t 43))⟩, ⟨(some 45), (some (44, false)), (.mv (.t 10))⟩, ⟨(some 46), (some (44, false)), (.eqn .ifc true (.t 45))⟩, ⟨(some 47), none, (.pick (.t 44) (.c (.bool true)) (.t 46))⟩])
 (.cond
 (.t 47)
 (.seq
 (.reg
 [⟨(some 4), none, (.mv (.c (.bool false)))⟩])
 .ret)
 .skip))
 (.seq
 (.reg
 [⟨(some 48), none, (.mv (.t 1))⟩, ⟨(some 49), none, (.cv .i64 (.t 48))⟩, ⟨(some 50), none, (.mv (.t 9))⟩, ⟨(some 51), none, (.ar .add .i64 (.t 50) (.c (.int .i64 3)))⟩, ⟨(some 52), none, (.dv true .i64 (.t 49) (.t 51))⟩, ⟨(some 53), none, (.ar .add .i64 (.c (.int .i64 1)) (.t 52))⟩, ⟨(some 11), none, (.mv (.t 53))⟩])
 (.seq
 (.reg
 [⟨(some 55), none, (.mv (.t 6))⟩, ⟨(some 56), none, (.mv (.t 7))⟩, ⟨(some 57), none, (.mv (.t 11))⟩, ⟨(some 58), none, (.ar .sub .i64 (.t 57) (.c (.int .i64 1)))⟩, ⟨(some 59), none, (.call fn_P_signature_Parser_Sequence [(.t 55), (.t 56), (.t 58)])⟩, ⟨(some 54), none, (.mv (.t 59))⟩, ⟨(some 60), none, (.ext (.t 54) 0)⟩, ⟨(some 61), none, (.ext (.t 54) 1)⟩, ⟨(some 12), none, (.mv (.t 60))⟩, ⟨(some 13), none, (.mv (.t 61))⟩])
 (.seq
 (.reg
 [⟨(some 63), none, (.mv (.t 6))⟩, ⟨(some 64), none, (.mv (.t 7))⟩, ⟨(some 65), none, (.mv (.t 11))⟩, ⟨(some 66), none, (.call fn_P_signature_Parser_Sequence [(.t 63), (.t 64), (.t 65)])⟩, ⟨(some 62), none, (.mv (.t 66))⟩, ⟨(some 67), none, (.ext (.t 62) 0)⟩, ⟨(some 68), none, (.ext (.t 62) 1)⟩, ⟨(some 14), none, (.mv (.t 67))⟩, ⟨(some 15), none, (.mv (.t 68))⟩])
 (.seq
 (.seq
 (.reg
 [⟨(some 69), none, (.mv (.t 13))⟩, ⟨(some 70), none, (.eqn .ifc true (.t 69))⟩, ⟨(some 71), none, (.mv (.t 70))⟩, ⟨(some 72), (some (71, false)), (.mv (.t 15))⟩, ⟨(some 73), (some (71, false)), (.eqn .ifc true (.t 72))⟩, ⟨(some 74), none, (.pick (.t 71) (.c (.bool true)) (.t 73))⟩])
 (.cond
 (.t 74)
 (.seq
 (.reg
 [⟨(some 4), none, (.mv (.c (.bool false)))⟩])
 .ret)
 .skip))
 (.seq
 (.reg
 [⟨(some 16), none, (.mv (.c (.slice none 0 0)))⟩])
 (.seq
 (.seq
 (.reg
 [⟨(some 17), none, (.mv (.c (.int .i64 0)))⟩])
 (.blk
 0
 (.loop
 (.seq
 (.seq
 (.reg
 [⟨(some 75), none, (.mv (.t 17))⟩, ⟨(some 76), none, (.mv (.t 14))⟩, ⟨(some 77), none, (.lens (.t 76))⟩, ⟨(some 78), none, (.cmp .lss .i64 (.t 75) (.t 77))⟩])
 (.cond
 (.t 78)
 .skip
 (.exit 0)))
 (.seq
 (.blk
 1
 (.seq
 (.reg
 [⟨(some 18), none, (.mv (.c (.int .i64 0)))⟩])
 (.blk
 2
 (.loop
 (.seq
 (.seq
 (.reg
 [⟨(some 81), none, (.mv (.t 18))⟩, ⟨(some 82), none, (.mv (.t 14))⟩, ⟨(some 83), none, (.mv (.t 17))⟩, ⟨(some 84), none, (.ia 2 (.t 82) (.t 83))⟩, ⟨(some 85), none, (.fa 1 (.t 84))⟩, ⟨(some 86), none, (.ld (.int .i64) (.t 85))⟩, ⟨(some 87), none, (.cmp .lss .i64 (.t 81) (.t 86))⟩])
 (.cond
 (.t 87)
 .skip
 (.exit 2)))
 (.seq
 (.blk
 3
 (.seq
 (.reg
 [⟨(some 90), none, (.mv (.t 16))⟩, ⟨(some 91), none, (.mv (.t 14))⟩, ⟨(some 92), none, (.mv (.t 17))⟩, ⟨(some 93), none, (.ia 2 (.t 91) (.t 92))⟩, ⟨(some 94), none, (.fa 0 (.t 93))⟩, ⟨(some 95), none, (.ld (.int .i64) (.t 94))⟩, ⟨(some 96), none, (.bsl 96 ty_api_ID 1 1 [(.int .i64 0)] [(0, (1, (.t 95)))])⟩, ⟨(some 97), none, (.app 97 ty_api_ID 1 8 (.t 90) (.t 96))⟩, ⟨(some 16), none, (.mv (.t 97))⟩])
 (.seq
 (.reg
 [⟨(some 98), none, (.mv (.t 16))⟩, ⟨(some 99), none, (.lens (.t 98))⟩, ⟨(some 100), none, (.mv (.t 0))⟩, ⟨(some 101), none, (.lens (.t 100))⟩, ⟨(some 102), none, (.cmp .gtr .i64 (.t 99) (.t 101))⟩])
 (.cond
 (.t 102)
 (.seq
 (.reg
 [⟨(some 4), none, (.mv (.c (.bool false)))⟩])
 .ret)
 .skip))))
 (.reg
 [⟨(some 88), none, (.mv (.t 18))⟩, ⟨(some 89), none, (.ar .add .i64 (.t 88) (.c (.int .i64 1)))⟩, ⟨(some 18), none, (.mv (.t 89))⟩])))))))
 (.reg
 [⟨(some 79), none, (.mv (.t 17))⟩, ⟨(some 80), none, (.ar .add .i64 (.t 79) (.c (.int .i64 1)))⟩, ⟨(some 17), none, (.mv (.t 80))⟩]))))))
 (.seq
 (.seq
 (.reg
 [⟨(some 103), none, (.mv (.t 11))⟩, ⟨(some 104), none, (.dv true .i64 (.t 103) (.c (.int .i64 2)))⟩, ⟨(some 105), none, (.cmp .eql .i64 (.t 104) (.c (.int .i64 1)))⟩])
 (.cond
 (.t 105)
 (.seq
 (.reg
 [⟨(some 106), none, (.mv (.t 5))⟩, ⟨(some 107), none, (.mv (.t 12))⟩, ⟨(some 108), none, (.mv (.t 16))⟩, ⟨(some 109), none, (.call fn_evergreenlaw22_ran [(.t 106), (.t 107), (.t 108)])⟩, ⟨(some 4), none, (.mv (.t 109))⟩])
 .ret)
 .skip))
 (.seq
 (.reg
 [⟨(some 110), none, (.mv (.t 6))⟩, ⟨(some 111), none, (.mv (.t 12))⟩, ⟨(some 112), none, (.mv (.t 16))⟩, ⟨(some 113), none, (.mv (.t 11))⟩, ⟨(some 114), none, (.call fn_evergreenlaw22_paired [(.t 110), (.t 111), (.t 112), (.t 113)])⟩, ⟨(some 4), none, (.mv (.t 114))⟩])
 .ret)))))))))))))))
def ts_evergreenlaw22_SignatureSteps : List (Nat × Tr) := []
set_option maxRecDepth 100000 in
set_option maxHeartbeats 4000000 in
theorem ok_evergreenlaw22_SignatureSteps : irOf Tryd.prog fn_evergreenlaw22_SignatureSteps [] ts_evergreenlaw22_SignatureSteps = some (115, [(.t 4)], ir_evergreenlaw22_SignatureSteps) := by kernel_rfl
def ir_evergreenlaw22_ran : C :=
 (.seq
 (.reg
 [⟨(some 6), none, (.mv (.c (.bool false)))⟩])
 (.seq
 (.seq
 (.reg
 [⟨(some 11), none, (.mv (.t 2))⟩, ⟨(some 12), none, (.lens (.t 11))⟩, ⟨(some 13), none, (.mv (.t 1))⟩, ⟨(some 14), none, (.lens (.t 13))⟩, ⟨(some 15), none, (.cmp .neq .i64 (.t 12) (.t 14))⟩])
 (.cond
 (.t 15)
 (.seq
 (.reg
 [⟨(some 6), none, (.mv (.c (.bool false)))⟩])
 .ret)
 .skip))
 (.seq
 (.seq
 (.reg
 [⟨(some 7), none, (.mv (.c (.int .i64 0)))⟩])
 (.blk
 0
 (.loop
 (.seq
 (.seq
 (.reg
 [⟨(some 16), none, (.mv (.t 7))⟩, ⟨(some 17), none, (.mv (.t 1))⟩, ⟨(some 18), none, (.lens (.t 17))⟩, ⟨(some 19), none, (.cmp .lss .i64 (.t 16) (.t 18))⟩])
 (.cond
 (.t 19)
 .skip
 (.exit 0)))
 (.seq
 (.blk
 1
 (.seq
 (.reg
 [⟨(some 22), none, (.mv (.t 1))⟩, ⟨(some 23), none, (.mv (.t 7))⟩, ⟨(some 24), none, (.ia 2 (.t 22) (.t 23))⟩, ⟨(some 25), none, (.fa 0 (.t 24))⟩, ⟨(some 26), none, (.ld (.int .i64) (.t 25))⟩, ⟨(some 8), none, (.mv (.t 26))⟩])
 (.seq
 (.seq
 (.reg
 [⟨(some 27), none, (.mv (.t 1))⟩, ⟨(some 28), none, (.mv (.t 7))⟩, ⟨(some 29), none, (.ia 2 (.t 27) (.t 28))⟩, ⟨(some 30), none, (.fa 1 (.t 29))⟩, ⟨(some 31), none, (.ld (.int .i64) (.t 30))⟩, ⟨(some 32), none, (.cmp .gtr .i64 (.t 31) (.c (.int .i64 1)))⟩])
 (.cond
 (.t 32)
 (.seq
 (.reg
 [⟨(some 34), none, (.mv (.t 0))⟩, ⟨(some 35), none, (.mv (.t 8))⟩, ⟨(some 36), none, (.mv (.t 1))⟩, ⟨(some 37), none, (.mv (.t 7))⟩, ⟨(some 38), none, (.ia 2 (.t 36) (.t 37))⟩, ⟨(some 39), none, (.fa 1 (.t 38))⟩, ⟨(some 40), none, (.ld (.int .i64) (.t 39))⟩, ⟨(some 41), none, (.bld [(.int .i64 0), (.int .u8 0), (.int .i64 0), (.int .i64 0), (.int .i64 0)] [(0, (1, (.c (.int .i64 3)))), (2, (1, (.t 35))), (4, (1, (.t 40)))])⟩, ⟨(some 42), none, (.call fn_P_intern_Store_Find [(.t 34), (.t 41)])⟩, ⟨(some 33), none, (.mv (.t 42))⟩, ⟨(some 43), none, (.ext (.t 33) 0)⟩, ⟨(some 44), none, (.ext (.t 33) 1)⟩, ⟨(some 9), none, (.mv (.t 43))⟩, ⟨(some 10), none, (.mv (.t 44))⟩])
 (.seq
 (.seq
 (.reg
 [⟨(some 45), none, (.mv (.t 10))⟩, ⟨(some 46), none, (.not (.t 45))⟩])
 (.cond
 (.t 46)
 (.seq
 (.reg
 [⟨(some 6), none, (.mv (.c (.bool false)))⟩])
 .ret)
 .skip))
 (.reg
 [⟨(some 47), none, (.mv (.t 9))⟩, ⟨(some 8), none, (.mv (.t 47))⟩])))
 .skip))
 (.seq
 (.reg
 [⟨(some 48), none, (.mv (.t 2))⟩, ⟨(some 49), none, (.mv (.t 7))⟩, ⟨(some 50), none, (.ia 1 (.t 48) (.t 49))⟩, ⟨(some 51), none, (.ld (.int .i64) (.t 50))⟩, ⟨(some 52), none, (.mv (.t 8))⟩, ⟨(some 53), none, (.cmp .neq .i64 (.t 51) (.t 52))⟩])
 (.cond
 (.t 53)
 (.seq
 (.reg
 [⟨(some 6), none, (.mv (.c (.bool false)))⟩])
 .ret)
 .skip)))))
 (.reg
 [⟨(some 20), none, (.mv (.t 7))⟩, ⟨(some 21), none, (.ar .add .i64 (.t 20) (.c (.int .i64 1)))⟩, ⟨(some 7), none, (.mv (.t 21))⟩]))))))
 (.seq
 (.reg
 [⟨(some 6), none, (.mv (.c (.bool true)))⟩])
 .ret))))
def ts_evergreenlaw22_ran : List (Nat × Tr) := []
set_option maxRecDepth 100000 in
set_option maxHeartbeats 4000000 in
theorem ok_evergreenlaw22_ran : irOf Tryd.prog fn_evergreenlaw22_ran [] ts_evergreenlaw22_ran = some (54, [(.t 6)], ir_evergreenlaw22_ran) := by kernel_rfl
def ir_evergreenlaw22_paired : C :=
 (.seq
 (.reg
 [⟨(some 8), none, (.mv (.c (.bool false)))⟩])
 (.seq
 (.reg
 [⟨(some 9), none, (.mv (.c (.int .i64 0)))⟩])
 (.seq
 (.seq
 (.reg
 [⟨(some 10), none, (.mv (.c (.int .i64 0)))⟩])
 (.blk
 0
 (.loop
 (.seq
 (.seq
 (.reg
 [⟨(some 18), none, (.mv (.t 10))⟩, ⟨(some 19), none, (.mv (.t 1))⟩, ⟨(some 20), none, (.lens (.t 19))⟩, ⟨(some 21), none, (.cmp .lss .i64 (.t 18) (.t 20))⟩])
 (.cond
 (.t 21)
 .skip
 (.exit 0)))
 (.seq
 (.blk
 1
 (.seq
 (.seq
 (.reg
 [⟨(some 24), none, (.mv (.t 9))⟩, ⟨(some 25), none, (.mv (.t 2))⟩, ⟨(some 26), none, (.lens (.t 25))⟩, ⟨(some 27), none, (.cmp .geq .i64 (.t 24) (.t 26))⟩, ⟨(some 28), none, (.mv (.t 27))⟩, ⟨(some 29), (some (28, false)), (.mv (.t 1))⟩, ⟨(some 30), (some (28, false)), (.mv (.t 10))⟩, ⟨(some 31), (some (28, false)), (.ia 2 (.t 29) (.t 30))⟩, ⟨(some 32), (some (28, false)), (.fa 1 (.t 31))⟩, ⟨(some 33), (some (28, false)), (.ld (.int .i64) (.t 32))⟩, ⟨(some 34), (some (28, false)), (.cmp .neq .i64 (.t 33) (.c (.int .i64 1)))⟩, ⟨(some 35), none, (.pick (.t 28) (.c (.bool true)) (.t 34))⟩])
 (.cond
 (.t 35)
 (.seq
 (.reg
 [⟨(some 8), none, (.mv (.c (.bool false)))⟩])
 .ret)
 .skip))
 (.seq
 (.reg
 [⟨(some 36), none, (.mv (.t 1))⟩, ⟨(some 37), none, (.mv (.t 10))⟩, ⟨(some 38), none, (.ia 2 (.t 36) (.t 37))⟩, ⟨(some 39), none, (.fa 0 (.t 38))⟩, ⟨(some 40), none, (.ld (.int .i64) (.t 39))⟩, ⟨(some 11), none, (.mv (.t 40))⟩])
 (.seq
 (.seq
 (.reg
 [⟨(some 41), none, (.mv (.t 10))⟩, ⟨(some 42), none, (.ar .add .i64 (.t 41) (.c (.int .i64 1)))⟩, ⟨(some 43), none, (.mv (.t 1))⟩, ⟨(some 44), none, (.lens (.t 43))⟩, ⟨(some 45), none, (.cmp .lss .i64 (.t 42) (.t 44))⟩])
 (.cond
 (.t 45)
 (.seq
 (.reg
 [⟨(some 47), none, (.mv (.t 0))⟩, ⟨(some 48), none, (.call fn_P_signature_Parser_Keys [(.t 47)])⟩, ⟨(some 49), none, (.mv (.t 11))⟩, ⟨(some 50), none, (.call fn_P_keys_Table_Key [(.t 48), (.t 49)])⟩, ⟨(some 46), none, (.mv (.t 50))⟩, ⟨(some 51), none, (.ext (.t 46) 0)⟩, ⟨(some 52), none, (.ext (.t 46) 1)⟩, ⟨(some 12), none, (.mv (.t 51))⟩, ⟨(some 13), none, (.mv (.t 52))⟩])
 (.seq
 (.drw
 [⟨(some 54), none, (.mv (.t 0))⟩, ⟨(some 55), none, (.call fn_P_signature_Parser_Keys [(.t 54)])⟩, ⟨(some 56), none, (.mv (.t 1))⟩, ⟨(some 57), none, (.mv (.t 10))⟩, ⟨(some 58), none, (.ar .add .i64 (.t 57) (.c (.int .i64 1)))⟩, ⟨(some 59), none, (.ia 2 (.t 56) (.t 58))⟩, ⟨(some 60), none, (.fa 0 (.t 59))⟩, ⟨(some 61), none, (.ld (.int .i64) (.t 60))⟩, ⟨(some 62), none, (.call fn_P_keys_Table_Key [(.t 55), (.t 61)])⟩, ⟨(some 53), none, (.mv (.t 62))⟩, ⟨(some 63), none, (.ext (.t 53) 0)⟩, ⟨(some 64), none, (.ext (.t 53) 1)⟩, ⟨(some 14), none, (.mv (.t 63))⟩, ⟨(some 15), none, (.mv (.t 64))⟩]
 (.mov 0 (.mov 2 (.mov 3 (.take 4 (.take 5 (.take 6 (.take 7 (.alt 1 true (.bar 8 (.mov 9 (.mov 10 (.mov 11 (.mov 12 (.mov 13 .done)))))) .nil)))))))))
 (.seq
 (.seq
 (.reg
 [⟨(some 65), none, (.mv (.t 13))⟩, ⟨(some 66), none, (.eqn .ifc true (.t 65))⟩, ⟨(some 67), none, (.mv (.t 66))⟩, ⟨(some 68), (some (67, false)), (.mv (.t 15))⟩, ⟨(some 69), (some (67, false)), (.eqn .ifc true (.t 68))⟩, ⟨(some 70), none, (.pick (.t 67) (.c (.bool true)) (.t 69))⟩])
 (.cond
 (.t 70)
 (.seq
 (.reg
 [⟨(some 8), none, (.mv (.c (.bool false)))⟩])
 .ret)
 .skip))
 (.seq
 (.reg
 [⟨(some 71), none, (.mv (.t 12))⟩, ⟨(some 72), none, (.mv (.t 14))⟩, ⟨(some 73), none, (.mv (.t 3))⟩, ⟨(some 74), none, (.call fn_evergreenref20_Fits [(.t 71), (.t 72), (.t 73)])⟩])
 (.cond
 (.t 74)
 (.seq
 (.drw
 [⟨(some 76), none, (.mv (.t 0))⟩, ⟨(some 77), none, (.call fn_P_signature_Parser_Store [(.t 76)])⟩, ⟨(some 78), none, (.mv (.t 11))⟩, ⟨(some 79), none, (.mv (.t 1))⟩, ⟨(some 80), none, (.mv (.t 10))⟩, ⟨(some 81), none, (.ar .add .i64 (.t 80) (.c (.int .i64 1)))⟩, ⟨(some 82), none, (.ia 2 (.t 79) (.t 81))⟩, ⟨(some 83), none, (.fa 0 (.t 82))⟩, ⟨(some 84), none, (.ld (.int .i64) (.t 83))⟩, ⟨(some 85), none, (.bld [(.int .i64 0), (.int .u8 0), (.int .i64 0), (.int .i64 0), (.int .i64 0)] [(0, (1, (.c (.int .i64 2)))), (2, (1, (.t 78))), (3, (1, (.t 84)))])⟩, ⟨(some 86), none, (.call fn_P_intern_Store_Find [(.t 77), (.t 85)])⟩, ⟨(some 75), none, (.mv (.t 86))⟩, ⟨(some 87), none, (.ext (.t 75) 0)⟩, ⟨(some 88), none, (.ext (.t 75) 1)⟩, ⟨(some 16), none, (.mv (.t 87))⟩, ⟨(some 17), none, (.mv (.t 88))⟩]
 (.mov 0 (.mov 2 (.mov 3 (.mov 4 (.take 5 (.take 6 (.take 7 (.take 8 (.take 9 (.alt 1 true (.bar 10 (.mov 11 (.mov 12 (.mov 13 (.mov 14 (.mov 15 .done)))))) .nil)))))))))))
 (.seq
 (.seq
 (.reg
 [⟨(some 89), none, (.mv (.t 17))⟩, ⟨(some 90), none, (.not (.t 89))⟩])
 (.cond
 (.t 90)
 (.seq
 (.reg
 [⟨(some 8), none, (.mv (.c (.bool false)))⟩])
 .ret)
 .skip))
 (.seq
 (.reg
 [⟨(some 91), none, (.mv (.t 16))⟩, ⟨(some 11), none, (.mv (.t 91))⟩])
 (.reg
 [⟨(some 92), none, (.mv (.t 10))⟩, ⟨(some 93), none, (.ar .add .i64 (.t 92) (.c (.int .i64 1)))⟩, ⟨(some 10), none, (.mv (.t 93))⟩]))))
 .skip)))))
 .skip))
 (.seq
 (.seq
 (.reg
 [⟨(some 94), none, (.mv (.t 2))⟩, ⟨(some 95), none, (.mv (.t 9))⟩, ⟨(some 96), none, (.ia 1 (.t 94) (.t 95))⟩, ⟨(some 97), none, (.ld (.int .i64) (.t 96))⟩, ⟨(some 98), none, (.mv (.t 11))⟩, ⟨(some 99), none, (.cmp .neq .i64 (.t 97) (.t 98))⟩])
 (.cond
 (.t 99)
 (.seq
 (.reg
 [⟨(some 8), none, (.mv (.c (.bool false)))⟩])
 .ret)
 .skip))
 (.reg
 [⟨(some 100), none, (.mv (.t 9))⟩, ⟨(some 101), none, (.ar .add .i64 (.t 100) (.c (.int .i64 1)))⟩, ⟨(some 9), none, (.mv (.t 101))⟩]))))))
 (.reg
 [⟨(some 22), none, (.mv (.t 10))⟩, ⟨(some 23), none, (.ar .add .i64 (.t 22) (.c (.int .i64 1)))⟩, ⟨(some 10), none, (.mv (.t 23))⟩]))))))
 (.seq
 (.reg
 [⟨(some 102), none, (.mv (.t 9))⟩, ⟨(some 103), none, (.mv (.t 2))⟩, ⟨(some 104), none, (.lens (.t 103))⟩, ⟨(some 105), none, (.cmp .eql .i64 (.t 102) (.t 104))⟩, ⟨(some 8), none, (.mv (.t 105))⟩])
 .ret))))
def ts_evergreenlaw22_paired : List (Nat × Tr) := [(10, (.mov 0 (.mov 2 (.mov 3 (.take 4 (.take 5 (.take 6 (.take 7 (.alt 1 true (.bar 8 (.mov 9 (.mov 10 (.mov 11 (.mov 12 (.mov 13 .done)))))) .nil))))))))), (14, (.mov 0 (.mov 2 (.mov 3 (.mov 4 (.take 5 (.take 6 (.take 7 (.take 8 (.take 9 (.alt 1 true (.bar 10 (.mov 11 (.mov 12 (.mov 13 (.mov 14 (.mov 15 .done)))))) .nil)))))))))))]
set_option maxRecDepth 100000 in
set_option maxHeartbeats 4000000 in
theorem ok_evergreenlaw22_paired : irOf Tryd.prog fn_evergreenlaw22_paired [] ts_evergreenlaw22_paired = some (106, [(.t 8)], ir_evergreenlaw22_paired) := by kernel_rfl
end Go.Proofs.YtkkhpdkfploodaaDoor
