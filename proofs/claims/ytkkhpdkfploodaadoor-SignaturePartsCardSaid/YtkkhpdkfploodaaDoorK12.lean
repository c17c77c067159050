/- The small forms of functions of the program, with the equations that say so: written by a program (irtool.py). No condition. -/
import Derived.Test.YtkkhpdkfploodaaDoorK10
import Derived.Test.YtkkhpdkfploodaaDoorProg
namespace Go.Proofs.YtkkhpdkfploodaaDoor
open Go.EG
abbrev fn_evergreenlaw22_SignatureText : Nat := 10
abbrev fn_evergreenlaw22_SignatureParts : Nat := 11
abbrev fn_evergreenref11_Plain : Nat := 36
abbrev fn_evergreenref11_plain : Nat := 65
def ir_evergreenref11_plain : C :=
 (.seq
 (.reg
 [⟨(some 4), none, (.mv (.c (.slice none 0 0)))⟩])
 (.seq
 (.seq
 (.reg
 [⟨(some 9), none, (.mv (.t 1))⟩, ⟨(some 10), none, (.cmp .eql .i64 (.t 9) (.c (.int .i64 0)))⟩])
 (.cond
 (.t 10)
 (.seq
 (.reg
 [⟨(some 4), none, (.mv (.c (.slice none 0 0)))⟩])
 .ret)
 .skip))
 (.seq
 (.reg
 [⟨(some 11), none, (.mv (.t 0))⟩, ⟨(some 12), none, (.mv (.t 1))⟩, ⟨(some 13), none, (.ar .sub .i64 (.t 12) (.c (.int .i64 1)))⟩, ⟨(some 14), none, (.ia 5 (.t 11) (.t 13))⟩, ⟨(some 15), none, (.lda 5 [(.int .i64), (.int .u8), (.int .i64), (.int .i64), (.int .i64)] (.t 14))⟩, ⟨(some 5), none, (.alc 5 ty_api_Rule [(.int .i64 0), (.int .u8 0), (.int .i64 0), (.int .i64 0), (.int .i64 0)])⟩, ⟨none, none, (.st 5 (.t 5) (.t 15))⟩])
 (.seq
 (.seq
 (.reg
 [⟨(some 16), none, (.fa 0 (.t 5))⟩, ⟨(some 17), none, (.ld (.int .i64) (.t 16))⟩])
 (.blk
 0
 (.seq
 (.reg
 [⟨(some 19), none, (.cmp .eql .i64 (.t 17) (.c (.int .i64 1)))⟩, ⟨(some 18), none, (.mv (.t 19))⟩])
 (.cond
 (.t 18)
 (.seq
 (.reg
 [⟨(some 20), none, (.fa 1 (.t 5))⟩, ⟨(some 21), none, (.ld (.int .u8) (.t 20))⟩, ⟨(some 22), none, (.bsl 22 ty_uint8 1 1 [(.int .u8 0)] [(0, (1, (.t 21)))])⟩, ⟨(some 4), none, (.mv (.t 22))⟩])
 .ret)
 (.seq
 (.reg
 [⟨(some 24), none, (.cmp .eql .i64 (.t 17) (.c (.int .i64 2)))⟩, ⟨(some 23), none, (.mv (.t 24))⟩])
 (.cond
 (.t 23)
 (.seq
 (.drw
 [⟨(some 25), none, (.mv (.t 0))⟩, ⟨(some 26), none, (.fa 2 (.t 5))⟩, ⟨(some 27), none, (.ld (.int .i64) (.t 26))⟩, ⟨(some 28), none, (.call fn_evergreenref11_plain [(.t 25), (.t 27)])⟩, ⟨(some 29), none, (.mv (.t 0))⟩, ⟨(some 30), none, (.fa 3 (.t 5))⟩, ⟨(some 31), none, (.ld (.int .i64) (.t 30))⟩, ⟨(some 32), none, (.call fn_evergreenref11_plain [(.t 29), (.t 31)])⟩, ⟨(some 33), none, (.app 33 ty_uint8 1 1 (.t 28) (.t 32))⟩, ⟨(some 4), none, (.mv (.t 33))⟩]
 (.mov 0 (.take 1 (.take 2 (.mov 4 (.take 5 (.take 6 (.alt 3 true (.bar 7 (.bar 8 (.mov 9 .done))) .nil))))))))
 .ret)
 .skip))))))
 (.seq
 (.reg
 [⟨(some 34), none, (.mv (.t 0))⟩, ⟨(some 35), none, (.fa 2 (.t 5))⟩, ⟨(some 36), none, (.ld (.int .i64) (.t 35))⟩, ⟨(some 37), none, (.call fn_evergreenref11_plain [(.t 34), (.t 36)])⟩, ⟨(some 6), none, (.mv (.t 37))⟩])
 (.seq
 (.reg
 [⟨(some 7), none, (.mv (.c (.slice none 0 0)))⟩])
 (.seq
 (.seq
 (.reg
 [⟨(some 8), none, (.mv (.c (.int .i64 0)))⟩])
 (.blk
 1
 (.loop
 (.seq
 (.seq
 (.reg
 [⟨(some 38), none, (.mv (.t 8))⟩, ⟨(some 39), none, (.fa 4 (.t 5))⟩, ⟨(some 40), none, (.ld (.int .i64) (.t 39))⟩, ⟨(some 41), none, (.cmp .lss .i64 (.t 38) (.t 40))⟩])
 (.cond
 (.t 41)
 .skip
 (.exit 1)))
 (.seq
 (.blk
 2
 (.reg
 [⟨(some 44), none, (.mv (.t 7))⟩, ⟨(some 45), none, (.mv (.t 6))⟩, ⟨(some 46), none, (.app 46 ty_uint8 1 1 (.t 44) (.t 45))⟩, ⟨(some 7), none, (.mv (.t 46))⟩]))
 (.reg
 [⟨(some 42), none, (.mv (.t 8))⟩, ⟨(some 43), none, (.ar .add .i64 (.t 42) (.c (.int .i64 1)))⟩, ⟨(some 8), none, (.mv (.t 43))⟩]))))))
 (.seq
 (.reg
 [⟨(some 47), none, (.mv (.t 7))⟩, ⟨(some 4), none, (.mv (.t 47))⟩])
 .ret))))))))
def ts_evergreenref11_plain : List (Nat × Tr) := [(8, (.mov 0 (.take 1 (.take 2 (.mov 4 (.take 5 (.take 6 (.alt 3 true (.bar 7 (.bar 8 (.mov 9 .done))) .nil))))))))]
set_option maxRecDepth 100000 in
set_option maxHeartbeats 4000000 in
theorem ok_evergreenref11_plain : irOf Tryd.prog fn_evergreenref11_plain [] ts_evergreenref11_plain = some (48, [(.t 4)], ir_evergreenref11_plain) := by kernel_rfl
def ir_evergreenref11_Plain : C :=
 (.seq
 (.reg
 [⟨(some 4), none, (.mv (.c (.slice none 0 0)))⟩, ⟨(some 5), none, (.mv (.c (.bool false)))⟩])
 (.seq
 (.reg
 [⟨(some 9), none, (.mv (.t 0))⟩, ⟨(some 10), none, (.call fn_evergreenref11_Lengths [(.t 9)])⟩, ⟨(some 8), none, (.mv (.t 10))⟩, ⟨(some 11), none, (.ext (.t 8) 0)⟩, ⟨(some 12), none, (.ext (.t 8) 1)⟩, ⟨(some 6), none, (.mv (.t 11))⟩, ⟨(some 7), none, (.mv (.t 12))⟩])
 (.seq
 (.seq
 (.reg
 [⟨(some 13), none, (.mv (.t 7))⟩, ⟨(some 14), none, (.cmp .neq .i64 (.t 13) (.c (.int .i64 0)))⟩, ⟨(some 15), none, (.mv (.t 14))⟩, ⟨(some 16), (some (15, false)), (.mv (.t 1))⟩, ⟨(some 17), (some (15, false)), (.cmp .lss .i64 (.t 16) (.c (.int .i64 0)))⟩, ⟨(some 18), none, (.pick (.t 15) (.c (.bool true)) (.t 17))⟩, ⟨(some 19), none, (.mv (.t 18))⟩, ⟨(some 20), (some (19, false)), (.mv (.t 1))⟩, ⟨(some 21), (some (19, false)), (.mv (.t 0))⟩, ⟨(some 22), (some (19, false)), (.lens (.t 21))⟩, ⟨(some 23), (some (19, false)), (.cmp .gtr .i64 (.t 20) (.t 22))⟩, ⟨(some 24), none, (.pick (.t 19) (.c (.bool true)) (.t 23))⟩, ⟨(some 25), none, (.mv (.t 24))⟩, ⟨(some 26), (some (25, false)), (.mv (.t 1))⟩, ⟨(some 27), (some (25, false)), (.cmp .gtr .i64 (.t 26) (.c (.int .i64 0)))⟩, ⟨(some 28), (some (25, false)), (.mv (.t 27))⟩, ⟨(some 29), (some (28, true)), (.mv (.t 6))⟩, ⟨(some 30), (some (28, true)), (.mv (.t 1))⟩, ⟨(some 31), (some (28, true)), (.ar .sub .i64 (.t 30) (.c (.int .i64 1)))⟩, ⟨(some 32), (some (28, true)), (.ia 1 (.t 29) (.t 31))⟩, ⟨(some 33), (some (28, true)), (.ld (.int .i64) (.t 32))⟩, ⟨(some 34), (some (28, true)), (.cmp .gtr .i64 (.t 33) (.c (.int .i64 4096)))⟩, ⟨(some 35), (some (25, false)), (.pick (.t 28) (.t 34) (.c (.bool false)))⟩, ⟨(some 36), none, (.pick (.t 25) (.c (.bool true)) (.t 35))⟩])
 (.cond
 (.t 36)
 (.seq
 (.reg
 [⟨(some 4), none, (.mv (.c (.slice none 0 0)))⟩, ⟨(some 5), none, (.mv (.c (.bool false)))⟩])
 .ret)
 .skip))
 (.seq
 (.reg
 [⟨(some 37), none, (.mv (.t 0))⟩, ⟨(some 38), none, (.mv (.t 1))⟩, ⟨(some 39), none, (.call fn_evergreenref11_plain [(.t 37), (.t 38)])⟩, ⟨(some 4), none, (.mv (.t 39))⟩, ⟨(some 5), none, (.mv (.c (.bool true)))⟩])
 .ret))))
def ts_evergreenref11_Plain : List (Nat × Tr) := []
set_option maxRecDepth 100000 in
set_option maxHeartbeats 4000000 in
theorem ok_evergreenref11_Plain : irOf Tryd.prog fn_evergreenref11_Plain [] ts_evergreenref11_Plain = some (40, [(.t 4), (.t 5)], ir_evergreenref11_Plain) := by kernel_rfl
def ir_evergreenlaw22_SignatureText : C :=
 (.seq
 (.reg
 [⟨(some 2), none, (.mv (.c (.bool false)))⟩])
 (.seq
 (.seq
 (.reg
 [⟨(some 14), none, (.mv (.t 0))⟩, ⟨(some 15), none, (.lens (.t 14))⟩, ⟨(some 16), none, (.cmp .gtr .i64 (.t 15) (.c (.int .i64 1000)))⟩])
 (.cond
 (.t 16)
 (.seq
 (.reg
 [⟨(some 2), none, (.mv (.c (.bool true)))⟩])
 .ret)
 .skip))
 (.seq
 (.reg
 [⟨(some 17), none, (.call fn_intern_New [(.c (.int .i64 20000))])⟩, ⟨(some 3), none, (.mv (.t 17))⟩])
 (.seq
 (.reg
 [⟨(some 18), none, (.mv (.t 3))⟩, ⟨(some 19), none, (.call fn_signature_New [(.t 18)])⟩, ⟨(some 4), none, (.mv (.t 19))⟩])
 (.seq
 (.reg
 [⟨(some 21), none, (.mv (.t 4))⟩, ⟨(some 22), none, (.mv (.t 0))⟩, ⟨(some 23), none, (.call fn_evergreenlaw22_copied [(.t 22)])⟩, ⟨(some 24), none, (.call fn_P_signature_Parser_Of [(.t 21), (.t 23)])⟩, ⟨(some 20), none, (.mv (.t 24))⟩, ⟨(some 25), none, (.ext (.t 20) 0)⟩, ⟨(some 26), none, (.ext (.t 20) 1)⟩, ⟨(some 5), none, (.mv (.t 25))⟩, ⟨(some 6), none, (.mv (.t 26))⟩])
 (.seq
 (.reg
 [⟨(some 27), none, (.mv (.t 3))⟩, ⟨(some 28), none, (.call fn_P_intern_Store_Len [(.t 27)])⟩, ⟨(some 7), none, (.mv (.t 28))⟩])
 (.seq
 (.reg
 [⟨(some 30), none, (.mv (.t 4))⟩, ⟨(some 31), none, (.mv (.t 0))⟩, ⟨(some 32), none, (.call fn_evergreenlaw22_copied [(.t 31)])⟩, ⟨(some 33), none, (.call fn_P_signature_Parser_Of [(.t 30), (.t 32)])⟩, ⟨(some 29), none, (.mv (.t 33))⟩, ⟨(some 34), none, (.ext (.t 29) 0)⟩, ⟨(some 35), none, (.ext (.t 29) 1)⟩, ⟨(some 8), none, (.mv (.t 34))⟩, ⟨(some 9), none, (.mv (.t 35))⟩])
 (.seq
 (.reg
 [⟨(some 37), none, (.mv (.t 3))⟩, ⟨(some 38), none, (.mv (.t 5))⟩, ⟨(some 39), none, (.call fn_P_intern_Store_Export [(.t 37), (.t 38)])⟩, ⟨(some 36), none, (.mv (.t 39))⟩, ⟨(some 40), none, (.ext (.t 36) 0)⟩, ⟨(some 41), none, (.ext (.t 36) 1)⟩, ⟨(some 10), none, (.mv (.t 40))⟩, ⟨(some 11), none, (.mv (.t 41))⟩])
 (.seq
 (.seq
 (.reg
 [⟨(some 42), none, (.call fn_evergreenlaw22_awake [])⟩, ⟨(some 43), none, (.not (.t 42))⟩, ⟨(some 44), none, (.mv (.t 43))⟩, ⟨(some 45), (some (44, false)), (.mv (.t 6))⟩, ⟨(some 46), (some (44, false)), (.eqn .ifc true (.t 45))⟩, ⟨(some 47), none, (.pick (.t 44) (.c (.bool true)) (.t 46))⟩, ⟨(some 48), none, (.mv (.t 47))⟩, ⟨(some 49), (some (48, false)), (.mv (.t 9))⟩, ⟨(some 50), (some (48, false)), (.eqn .ifc true (.t 49))⟩, ⟨(some 51), none, (.pick (.t 48) (.c (.bool true)) (.t 50))⟩, ⟨(some 52), none, (.mv (.t 51))⟩, ⟨(some 53), (some (52, false)), (.mv (.t 11))⟩, ⟨(some 54), (some (52, false)), (.eqn .ifc true (.t 53))⟩, ⟨(some 55), none, (.pick (.t 52) (.c (.bool true)) (.t 54))⟩, ⟨(some 56), none, (.mv (.t 55))⟩, ⟨(some 57), (some (56, false)), (.mv (.t 8))⟩, ⟨(some 58), (some (56, false)), (.mv (.t 5))⟩, ⟨(some 59), (some (56, false)), (.cmp .neq .i64 (.t 57) (.t 58))⟩, ⟨(some 60), none, (.pick (.t 56) (.c (.bool true)) (.t 59))⟩, ⟨(some 61), none, (.mv (.t 60))⟩, ⟨(some 62), (some (61, false)), (.mv (.t 3))⟩, ⟨(some 63), (some (61, false)), (.call fn_P_intern_Store_Len [(.t 62)])⟩, ⟨(some 64), (some (61, false)), (.mv (.t 7))⟩, ⟨(some 65), (some (61, false)), (.cmp .neq .i64 (.t 63) (.t 64))⟩, ⟨(some 66), none, (.pick (.t 61) (.c (.bool true)) (.t 65))⟩, ⟨(some 67), none, (.mv (.t 66))⟩, ⟨(some 68), (some (67, false)), (.mv (.t 10))⟩, ⟨(some 69), (some (67, false)), (.lens (.t 68))⟩, ⟨(some 70), (some (67, false)), (.mv (.t 7))⟩, ⟨(some 71), (some (67, false)), (.cmp .neq .i64 (.t 69) (.t 70))⟩, ⟨(some 72), none, (.pick (.t 67) (.c (.bool true)) (.t 71))⟩])
 (.cond
 (.t 72)
 (.seq
 (.reg
 [⟨(some 2), none, (.mv (.c (.bool false)))⟩])
 .ret)
 .skip))
 (.seq
 (.reg
 [⟨(some 74), none, (.mv (.t 10))⟩, ⟨(some 75), none, (.mv (.t 10))⟩, ⟨(some 76), none, (.lens (.t 75))⟩, ⟨(some 77), none, (.call fn_evergreenref11_Plain [(.t 74), (.t 76)])⟩, ⟨(some 73), none, (.mv (.t 77))⟩, ⟨(some 78), none, (.ext (.t 73) 0)⟩, ⟨(some 79), none, (.ext (.t 73) 1)⟩, ⟨(some 12), none, (.mv (.t 78))⟩, ⟨(some 13), none, (.mv (.t 79))⟩])
 (.seq
 (.reg
 [⟨(some 80), none, (.mv (.t 13))⟩, ⟨(some 81), none, (.mv (.t 80))⟩, ⟨(some 82), (some (81, true)), (.mv (.t 12))⟩, ⟨(some 83), (some (81, true)), (.mv (.t 0))⟩, ⟨(some 84), (some (81, true)), (.call fn_evergreenbase_Bytes [(.t 82), (.t 83)])⟩, ⟨(some 85), none, (.pick (.t 81) (.t 84) (.c (.bool false)))⟩, ⟨(some 2), none, (.mv (.t 85))⟩])
 .ret)))))))))))
def ts_evergreenlaw22_SignatureText : List (Nat × Tr) := []
set_option maxRecDepth 100000 in
set_option maxHeartbeats 4000000 in
theorem ok_evergreenlaw22_SignatureText : irOf Tryd.prog fn_evergreenlaw22_SignatureText [] ts_evergreenlaw22_SignatureText = some (86, [(.t 2)], ir_evergreenlaw22_SignatureText) := by kernel_rfl
def ir_evergreenlaw22_SignatureParts : C :=
 (.seq
 (.reg
 [⟨(some 2), none, (.mv (.c (.bool false)))⟩])
 (.seq
 (.seq
 (.reg
 [⟨(some 15), none, (.mv (.t 0))⟩, ⟨(some 16), none, (.lens (.t 15))⟩, ⟨(some 17), none, (.cmp .gtr .i64 (.t 16) (.c (.int .i64 120)))⟩])
 (.cond
 (.t 17)
 (.seq
 (.reg
 [⟨(some 2), none, (.mv (.c (.bool true)))⟩])
 .ret)
 .skip))
 (.seq
 (.reg
 [⟨(some 18), none, (.call fn_intern_New [(.c (.int .i64 5000))])⟩, ⟨(some 3), none, (.mv (.t 18))⟩])
 (.seq
 (.reg
 [⟨(some 19), none, (.mv (.t 3))⟩, ⟨(some 20), none, (.call fn_signature_New [(.t 19)])⟩, ⟨(some 4), none, (.mv (.t 20))⟩])
 (.seq
 (.reg
 [⟨(some 22), none, (.mv (.t 4))⟩, ⟨(some 23), none, (.mv (.t 0))⟩, ⟨(some 24), none, (.call fn_evergreenlaw22_copied [(.t 23)])⟩, ⟨(some 25), none, (.call fn_P_signature_Parser_Of [(.t 22), (.t 24)])⟩, ⟨(some 21), none, (.mv (.t 25))⟩, ⟨(some 26), none, (.ext (.t 21) 0)⟩, ⟨(some 27), none, (.ext (.t 21) 1)⟩, ⟨(some 5), none, (.mv (.t 26))⟩, ⟨(some 6), none, (.mv (.t 27))⟩])
 (.seq
 (.reg
 [⟨(some 28), none, (.mv (.t 3))⟩, ⟨(some 29), none, (.call fn_P_intern_Store_Len [(.t 28)])⟩, ⟨(some 7), none, (.mv (.t 29))⟩])
 (.seq
 (.seq
 (.reg
 [⟨(some 30), none, (.call fn_evergreenlaw22_awake [])⟩, ⟨(some 31), none, (.not (.t 30))⟩, ⟨(some 32), none, (.mv (.t 31))⟩, ⟨(some 33), (some (32, false)), (.mv (.t 6))⟩, ⟨(some 34), (some (32, false)), (.eqn .ifc true (.t 33))⟩, ⟨(some 35), none, (.pick (.t 32) (.c (.bool true)) (.t 34))⟩, ⟨(some 36), none, (.mv (.t 35))⟩, ⟨(some 37), (some (36, false)), (.mv (.t 7))⟩, ⟨(some 38), (some (36, false)), (.cmp .gtr .i64 (.t 37) (.c (.int .i64 500)))⟩, ⟨(some 39), none, (.pick (.t 36) (.c (.bool true)) (.t 38))⟩])
 (.cond
 (.t 39)
 (.seq
 (.reg
 [⟨(some 2), none, (.mv (.c (.bool false)))⟩])
 .ret)
 .skip))
 (.seq
 (.seq
 (.reg
 [⟨(some 8), none, (.mv (.c (.int .i64 1)))⟩])
 (.blk
 0
 (.loop
 (.seq
 (.seq
 (.reg
 [⟨(some 40), none, (.mv (.t 8))⟩, ⟨(some 41), none, (.mv (.t 7))⟩, ⟨(some 42), none, (.cmp .leq .i64 (.t 40) (.t 41))⟩])
 (.cond
 (.t 42)
 .skip
 (.exit 0)))
 (.seq
 (.blk
 1
 (.seq
 (.reg
 [⟨(some 46), none, (.mv (.t 3))⟩, ⟨(some 47), none, (.mv (.t 8))⟩, ⟨(some 48), none, (.call fn_P_intern_Store_Export [(.t 46), (.t 47)])⟩, ⟨(some 45), none, (.mv (.t 48))⟩, ⟨(some 49), none, (.ext (.t 45) 0)⟩, ⟨(some 50), none, (.ext (.t 45) 1)⟩, ⟨(some 9), none, (.mv (.t 49))⟩, ⟨(some 10), none, (.mv (.t 50))⟩])
 (.seq
 (.reg
 [⟨(some 52), none, (.mv (.t 9))⟩, ⟨(some 53), none, (.mv (.t 9))⟩, ⟨(some 54), none, (.lens (.t 53))⟩, ⟨(some 55), none, (.call fn_evergreenref11_Plain [(.t 52), (.t 54)])⟩, ⟨(some 51), none, (.mv (.t 55))⟩, ⟨(some 56), none, (.ext (.t 51) 0)⟩, ⟨(some 57), none, (.ext (.t 51) 1)⟩, ⟨(some 11), none, (.mv (.t 56))⟩, ⟨(some 12), none, (.mv (.t 57))⟩])
 (.seq
 (.reg
 [⟨(some 59), none, (.mv (.t 4))⟩, ⟨(some 60), none, (.mv (.t 11))⟩, ⟨(some 61), none, (.call fn_P_signature_Parser_Of [(.t 59), (.t 60)])⟩, ⟨(some 58), none, (.mv (.t 61))⟩, ⟨(some 62), none, (.ext (.t 58) 0)⟩, ⟨(some 63), none, (.ext (.t 58) 1)⟩, ⟨(some 13), none, (.mv (.t 62))⟩, ⟨(some 14), none, (.mv (.t 63))⟩])
 (.seq
 (.reg
 [⟨(some 64), none, (.mv (.t 10))⟩, ⟨(some 65), none, (.eqn .ifc true (.t 64))⟩, ⟨(some 66), none, (.mv (.t 65))⟩, ⟨(some 67), (some (66, false)), (.mv (.t 12))⟩, ⟨(some 68), (some (66, false)), (.not (.t 67))⟩, ⟨(some 69), none, (.pick (.t 66) (.c (.bool true)) (.t 68))⟩, ⟨(some 70), none, (.mv (.t 69))⟩, ⟨(some 71), (some (70, false)), (.mv (.t 14))⟩, ⟨(some 72), (some (70, false)), (.eqn .ifc true (.t 71))⟩, ⟨(some 73), none, (.pick (.t 70) (.c (.bool true)) (.t 72))⟩, ⟨(some 74), none, (.mv (.t 73))⟩, ⟨(some 75), (some (74, false)), (.mv (.t 13))⟩, ⟨(some 76), (some (74, false)), (.mv (.t 8))⟩, ⟨(some 77), (some (74, false)), (.cmp .neq .i64 (.t 75) (.t 76))⟩, ⟨(some 78), none, (.pick (.t 74) (.c (.bool true)) (.t 77))⟩])
 (.cond
 (.t 78)
 (.seq
 (.reg
 [⟨(some 2), none, (.mv (.c (.bool false)))⟩])
 .ret)
 .skip))))))
 (.reg
 [⟨(some 43), none, (.mv (.t 8))⟩, ⟨(some 44), none, (.ar .add .i64 (.t 43) (.c (.int .i64 1)))⟩, ⟨(some 8), none, (.mv (.t 44))⟩]))))))
 (.seq
 (.reg
 [⟨(some 79), none, (.mv (.t 3))⟩, ⟨(some 80), none, (.call fn_P_intern_Store_Len [(.t 79)])⟩, ⟨(some 81), none, (.mv (.t 7))⟩, ⟨(some 82), none, (.cmp .eql .i64 (.t 80) (.t 81))⟩, ⟨(some 2), none, (.mv (.t 82))⟩])
 .ret)))))))))
def ts_evergreenlaw22_SignatureParts : List (Nat × Tr) := []
set_option maxRecDepth 100000 in
set_option maxHeartbeats 4000000 in
theorem ok_evergreenlaw22_SignatureParts : irOf Tryd.prog fn_evergreenlaw22_SignatureParts [] ts_evergreenlaw22_SignatureParts = some (83, [(.t 2)], ir_evergreenlaw22_SignatureParts) := by kernel_rfl
end Go.Proofs.YtkkhpdkfploodaaDoor
