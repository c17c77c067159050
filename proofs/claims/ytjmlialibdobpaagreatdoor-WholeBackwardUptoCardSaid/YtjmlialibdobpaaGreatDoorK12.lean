/- The forms of the parts of a function around its range over a function: written by a program (irc-z.py). No condition. -/
import Derived.Test.YtjmlialibdobpaaGreatDoorK10
set_option linter.unusedSectionVars false
set_option linter.unusedVariables false
set_option linter.unusedSimpArgs false
namespace Go.Proofs.YtjmlialibdobpaaGreatDoor
open Go.EG
def sq1:Code->Code
 | .seq a _=>a
 | c=>c
def sq2:Code->Code
 | .seq _ b=>b
 | c=>c
def blc:Code->Code
 | .block _ (.loop c)=>c
 | .block _ c=>c
 | c=>c
def rfA:Code->Code
 | .rangeFunc _ _ a _=>a
 | c=>c
def rfB:Code->Code
 | .rangeFunc _ _ _ b=>blc b
 | c=>c
noncomputable def zc6:Code:=Tryz.f64.body.getD .skip
noncomputable def zsE:Code:=sq1 zc6
noncomputable def zsF:Code:=sq1 (sq2 zc6)
noncomputable def zsG:Code:=sq1 (sq2 (sq2 zc6))
noncomputable def zsH:Code:=sq1 (sq2 (sq2 (sq2 zc6)))
noncomputable def zgY:Code:=sq2 (sq2 (sq2 (sq2 zc6)))
noncomputable def zsI:Code:=sq1 (sq1 zgY)
noncomputable def zsJ:Code:=sq2 zgY
noncomputable def zeF:Code:=blc (sq2 (sq1 zgY))
noncomputable def zsK:Code:=sq1 zeF
noncomputable def zqF:Code:=sq1 (sq2 zeF)
noncomputable def k64_in:Code:=blc (sq1 (sq2 (sq2 zeF)))
noncomputable def zqG:Code:=sq2 (sq2 (sq2 zeF))
noncomputable def zsL:Code:=sq1 k64_in
noncomputable def zsM:Code:=sq1 (sq1 (sq2 k64_in))
noncomputable def zkt:Code:=blc (sq2 (sq1 (sq2 k64_in)))
noncomputable def zsN:Code:=sq2 (sq2 k64_in)
noncomputable def zwL:Code:=rfA zkt
noncomputable def zwM:Code:=rfB zkt
def zwN:C :=
 (.reg [.o 2 (.alc 2 zg [.int .i64 0,.slice none 0 0,.slice none 0 0,.slice none 0 0]),.o 3 (.mv (.c (.slice none 0 0)))])
def zwO:List (Nat × Tr):=[]
set_option maxRecDepth 100000 in
set_option maxHeartbeats 4000000 in
theorem zwP:cC Tryz.prog 58 [] zwO zsE=some zwN:=by kernel_rfl
def zsO:C :=
 (.reg [.o 12 (.mks 12 zk 1 8 [.int .i64 0] (.k 256) (.k 256)),.o 13 (.bld [.int .i64 0,.slice none 0 0,.slice none 0 0,.slice none 0 0] [(1,(1,12))]),.o 4 (.alc 4 zg [.int .i64 0,.slice none 0 0,.slice none 0 0,.slice none 0 0]),.u (.st 4 4 13)])
def zwQ:List (Nat × Tr):=[]
set_option maxRecDepth 100000 in
set_option maxHeartbeats 4000000 in
theorem zwR:cC Tryz.prog 58 [] zwQ zsF=some zsO:=by kernel_rfl
def zwS:C :=
 (.reg [.v 14 0,.o 15 (.call uM [14]),.v 5 15])
def zwT:List (Nat × Tr):=[]
set_option maxRecDepth 100000 in
set_option maxHeartbeats 4000000 in
theorem zwU:cC Tryz.prog 58 [] zwT zsG=some zwS:=by kernel_rfl
def zsP:C :=
 (.reg [.v 16 5,.o 17 (.lens 16),.o 18 (.mks 18 qr 1 8 [.int .u64 0] 17 17),.v 6 18])
def zwV:List (Nat × Tr):=[]
set_option maxRecDepth 100000 in
set_option maxHeartbeats 4000000 in
theorem zwW:cC Tryz.prog 58 [] zwV zsH=some zsP:=by kernel_rfl
def zsQ:C :=
 (.reg [.v 19 5,.o 20 (.lens 19),.o 21 (.mv (.k 0))])
def zwX:List (Nat × Tr):=[]
set_option maxRecDepth 100000 in
set_option maxHeartbeats 4000000 in
theorem zwY:cC Tryz.prog 58 [] zwX zsI=some zsQ:=by kernel_rfl
def zwZ:C :=
 (.reg [.o 22 (.cmp .lss .i64 21 20)])
def zw0:List (Nat × Tr):=[]
set_option maxRecDepth 100000 in
set_option maxHeartbeats 4000000 in
theorem zw1:cC Tryz.prog 58 [] zw0 zsK=some zwZ:=by kernel_rfl
def zqH:C :=
 (.cond 22 .skip (.exit 0))
def zvH:List (Nat × Tr):=[]
set_option maxRecDepth 100000 in
set_option maxHeartbeats 4000000 in
theorem zvI:cC Tryz.prog 58 [] zvH zqF=some zqH:=by kernel_rfl
def zw2:C :=
 (.reg [.v 23 21,.o 24 (.ia 4 19 21),.o 25 (.lda 4 [.int .u64,.int .u64,.int .u64,.int .u64] 24),.o 7 (.alc 7 zk [.int .i64 0]),.o 8 (.alc 8 zj [.int .u64 0,.int .u64 0,.int .u64 0,.int .u64 0]),.u (.st 1 7 23),.u (.st 4 8 25)])
def zw3:List (Nat × Tr):=[]
set_option maxRecDepth 100000 in
set_option maxHeartbeats 4000000 in
theorem zw4:cC Tryz.prog 58 [] zw3 zsL=some zw2:=by kernel_rfl
def zsR:C :=
 (.reg [.o 26 (.lda 4 [.int .u64,.int .u64,.int .u64,.int .u64] 8),.o 27 (.call jD [26])])
def zw5:List (Nat × Tr):=[]
set_option maxRecDepth 100000 in
set_option maxHeartbeats 4000000 in
theorem zw6:cC Tryz.prog 58 [] zw5 zsM=some zsR:=by kernel_rfl
def zsS:C :=
 (.s [.v 34 0,.o 35 (.lens 34),.o 36 (.mv (.k 0))] (.blk 4 (.loop (.s [.o 37 (.cmp .lss .i64 36 35)] (.seq (.cond 37 .skip (.exit 4)) (.seq (.blk 5 (.s [.v 38 36,.o 39 (.ia 4 34 36),.o 40 (.lda 4 [.int .u64,.int .u64,.int .u64,.int .u64] 39),.o 11 (.alc 11 zj [.int .u64 0,.int .u64 0,.int .u64 0,.int .u64 0]),.v 10 38,.u (.st 4 11 40)] (.s [.o 41 (.lda 4 [.int .u64,.int .u64,.int .u64,.int .u64] 11),.o 42 (.lda 4 [.int .u64,.int .u64,.int .u64,.int .u64] 8),.o 43 (.call vl [41,42]),.o 44 (.bld [.int .u64 0,.int .u64 0,.int .u64 0,.int .u64 0] []),.o 45 (.eqa true [.int .u64,.int .u64,.int .u64,.int .u64] 43 44)] (.cond 45 (.drw [.v 46 6,.o 47 (.ld (.int .i64) 7),.o 48 (.ia 1 46 47),.o 49 (.ld (.int .u64) 48),.v 50 10,.o 51 (.sh true .u64 (.c (.int .u64 1)) 50),.o 52 (.bit .or .u64 49 51),.o 53 (.ia 1 46 47),.u (.st 1 53 52)] (.mov 0 (.take 1 (.take 2 (.take 3 (.mov 4 (.take 5 (.take 6 (.take 7 (.bar 8 .done)))))))))) .skip)))) (.reg [.o 54 (.ar .add .i64 36 (.k 1)),.v 36 54])))))))
def zw7:List (Nat × Tr):=[(14,(.mov 0 (.take 1 (.take 2 (.take 3 (.mov 4 (.take 5 (.take 6 (.take 7 (.bar 8 .done))))))))))]
set_option maxRecDepth 100000 in
set_option maxHeartbeats 4000000 in
theorem zw8:cC Tryz.prog 58 [] zw7 zsN=some zsS:=by kernel_rfl
def zvJ:C :=
 (.reg [.o 55 (.ar .add .i64 21 (.k 1)),.v 21 55])
def zvK:List (Nat × Tr):=[]
set_option maxRecDepth 100000 in
set_option maxHeartbeats 4000000 in
theorem zvL:cC Tryz.prog 58 [] zvK zqG=some zvJ:=by kernel_rfl
def zw9:C :=
 (.s [.o 56 (.lda 4 [.int .i64,.slc,.slc,.slc] 4),.v 57 6,.u (.st 4 2 56),.v 3 57] .ret)
def zxa:List (Nat × Tr):=[]
set_option maxRecDepth 100000 in
set_option maxHeartbeats 4000000 in
theorem zxb:cC Tryz.prog 58 [] zxa zsJ=some zw9:=by kernel_rfl
set_option maxRecDepth 100000 in
theorem zxc:zc6=.seq zsE (.seq zsF (.seq zsG (.seq zsH zgY))):=by kernel_rfl
set_option maxRecDepth 100000 in
theorem zxd:zgY=.seq (.seq zsI (.block 0 (.loop zeF))) zsJ:=by kernel_rfl
set_option maxRecDepth 100000 in
theorem zxe:zeF=.seq zsK (.seq zqF (.seq (.block 1 k64_in) zqG)):=by kernel_rfl
set_option maxRecDepth 100000 in
theorem zxf:k64_in=.seq zsL (.seq (.seq zsM (.block 2 zkt)) zsN):=by kernel_rfl
end Go.Proofs.YtjmlialibdobpaaGreatDoor
