/- The forms of the parts of a function around its range over a function: written by a program (irc-z.py). No condition. -/
import Derived.Test.YtjmlialibdobpaaGreatDoorK10
namespace Go.Proofs.YtjmlialibdobpaaGreatDoor
open Go.EG
def sq1:Code→Code
 | .seq a _=>a
 | c=>c
def sq2:Code→Code
 | .seq _ b=>b
 | c=>c
def blc:Code→Code
 | .block _ (.loop c)=>c
 | .block _ c=>c
 | c=>c
def rfA:Code→Code
 | .rangeFunc _ _ a _=>a
 | c=>c
def rfB:Code→Code
 | .rangeFunc _ _ _ b=>blc b
 | c=>c
noncomputable def zcy:Code:=Tryz.f64.body.getD .skip
noncomputable def zrz:Code:=sq1 zcy
noncomputable def zrA:Code:=sq1 (sq2 zcy)
noncomputable def zrB:Code:=sq1 (sq2 (sq2 zcy))
noncomputable def zrC:Code:=sq1 (sq2 (sq2 (sq2 zcy)))
noncomputable def zf7:Code:=sq2 (sq2 (sq2 (sq2 zcy)))
noncomputable def zrD:Code:=sq1 (sq1 zf7)
noncomputable def zrE:Code:=sq2 zf7
noncomputable def zd5:Code:=blc (sq2 (sq1 zf7))
noncomputable def zrF:Code:=sq1 zd5
noncomputable def zpj:Code:=sq1 (sq2 zd5)
noncomputable def k64_in:Code:=blc (sq1 (sq2 (sq2 zd5)))
noncomputable def zpk:Code:=sq2 (sq2 (sq2 zd5))
noncomputable def zrG:Code:=sq1 k64_in
noncomputable def zrH:Code:=sq1 (sq1 (sq2 k64_in))
noncomputable def zjC:Code:=blc (sq2 (sq1 (sq2 k64_in)))
noncomputable def zrI:Code:=sq2 (sq2 k64_in)
noncomputable def zvF:Code:=rfA zjC
noncomputable def zvG:Code:=rfB zjC
def zvH:C :=
 (.reg [⟨some 2,none,.alc 2 zg [.int .i64 0,.slice none 0 0,.slice none 0 0,.slice none 0 0]⟩,⟨some 3,none,.mv (.c (.slice none 0 0))⟩])
def zvI:List (Nat × Tr):=[]
set_option maxRecDepth 100000 in
set_option maxHeartbeats 4000000 in
theorem zvJ:cC Tryz.prog 58 [] zvI zrz=some zvH:=by kernel_rfl
def zrJ:C :=
 (.reg [⟨some 12,none,.mks 12 zj 1 8 [.int .i64 0] (.c (.int .i64 256)) (.c (.int .i64 256))⟩,⟨some 13,none,.bld [.int .i64 0,.slice none 0 0,.slice none 0 0,.slice none 0 0] [(1,(1,(.t 12)))]⟩,⟨some 4,none,.alc 4 zg [.int .i64 0,.slice none 0 0,.slice none 0 0,.slice none 0 0]⟩,⟨none,none,.st 4 (.t 4) (.t 13)⟩])
def zvK:List (Nat × Tr):=[]
set_option maxRecDepth 100000 in
set_option maxHeartbeats 4000000 in
theorem zvL:cC Tryz.prog 58 [] zvK zrA=some zrJ:=by kernel_rfl
def zvM:C :=
 (.reg [⟨some 14,none,.mv (.t 0)⟩,⟨some 15,none,.call vX [.t 14]⟩,⟨some 5,none,.mv (.t 15)⟩])
def zvN:List (Nat × Tr):=[]
set_option maxRecDepth 100000 in
set_option maxHeartbeats 4000000 in
theorem zvO:cC Tryz.prog 58 [] zvN zrB=some zvM:=by kernel_rfl
def zrK:C :=
 (.reg [⟨some 16,none,.mv (.t 5)⟩,⟨some 17,none,.lens (.t 16)⟩,⟨some 18,none,.mks 18 qd 1 8 [.int .u64 0] (.t 17) (.t 17)⟩,⟨some 6,none,.mv (.t 18)⟩])
def zvP:List (Nat × Tr):=[]
set_option maxRecDepth 100000 in
set_option maxHeartbeats 4000000 in
theorem zvQ:cC Tryz.prog 58 [] zvP zrC=some zrK:=by kernel_rfl
def zrL:C :=
 (.reg [⟨some 19,none,.mv (.t 5)⟩,⟨some 20,none,.lens (.t 19)⟩,⟨some 21,none,.mv (.c (.int .i64 0))⟩])
def zvR:List (Nat × Tr):=[]
set_option maxRecDepth 100000 in
set_option maxHeartbeats 4000000 in
theorem zvS:cC Tryz.prog 58 [] zvR zrD=some zrL:=by kernel_rfl
def zvT:C :=
 (.reg [⟨some 22,none,.cmp .lss .i64 (.t 21) (.t 20)⟩])
def zvU:List (Nat × Tr):=[]
set_option maxRecDepth 100000 in
set_option maxHeartbeats 4000000 in
theorem zvV:cC Tryz.prog 58 [] zvU zrF=some zvT:=by kernel_rfl
def zpl:C :=
 (.cond (.t 22) .skip (.exit 0))
def zuA:List (Nat × Tr):=[]
set_option maxRecDepth 100000 in
set_option maxHeartbeats 4000000 in
theorem zuB:cC Tryz.prog 58 [] zuA zpj=some zpl:=by kernel_rfl
def zvW:C :=
 (.reg [⟨some 23,none,.mv (.t 21)⟩,⟨some 24,none,.ia 4 (.t 19) (.t 21)⟩,⟨some 25,none,.lda 4 [.int .u64,.int .u64,.int .u64,.int .u64] (.t 24)⟩,⟨some 7,none,.alc 7 zj [.int .i64 0]⟩,⟨some 8,none,.alc 8 zh [.int .u64 0,.int .u64 0,.int .u64 0,.int .u64 0]⟩,⟨none,none,.st 1 (.t 7) (.t 23)⟩,⟨none,none,.st 4 (.t 8) (.t 25)⟩])
def zvX:List (Nat × Tr):=[]
set_option maxRecDepth 100000 in
set_option maxHeartbeats 4000000 in
theorem zvY:cC Tryz.prog 58 [] zvX zrG=some zvW:=by kernel_rfl
def zrM:C :=
 (.reg [⟨some 26,none,.lda 4 [.int .u64,.int .u64,.int .u64,.int .u64] (.t 8)⟩,⟨some 27,none,.call uP [.t 26]⟩])
def zvZ:List (Nat × Tr):=[]
set_option maxRecDepth 100000 in
set_option maxHeartbeats 4000000 in
theorem zv0:cC Tryz.prog 58 [] zvZ zrH=some zrM:=by kernel_rfl
def zrN:C :=
 (.seq (.reg [⟨some 34,none,.mv (.t 0)⟩,⟨some 35,none,.lens (.t 34)⟩,⟨some 36,none,.mv (.c (.int .i64 0))⟩]) (.blk 4 (.loop (.seq (.reg [⟨some 37,none,.cmp .lss .i64 (.t 36) (.t 35)⟩]) (.seq (.cond (.t 37) .skip (.exit 4)) (.seq (.blk 5 (.seq (.reg [⟨some 38,none,.mv (.t 36)⟩,⟨some 39,none,.ia 4 (.t 34) (.t 36)⟩,⟨some 40,none,.lda 4 [.int .u64,.int .u64,.int .u64,.int .u64] (.t 39)⟩,⟨some 11,none,.alc 11 zh [.int .u64 0,.int .u64 0,.int .u64 0,.int .u64 0]⟩,⟨some 10,none,.mv (.t 38)⟩,⟨none,none,.st 4 (.t 11) (.t 40)⟩]) (.seq (.reg [⟨some 41,none,.lda 4 [.int .u64,.int .u64,.int .u64,.int .u64] (.t 11)⟩,⟨some 42,none,.lda 4 [.int .u64,.int .u64,.int .u64,.int .u64] (.t 8)⟩,⟨some 43,none,.call kK [.t 41,.t 42]⟩,⟨some 44,none,.bld [.int .u64 0,.int .u64 0,.int .u64 0,.int .u64 0] []⟩,⟨some 45,none,.eqa true [.int .u64,.int .u64,.int .u64,.int .u64] (.t 43) (.t 44)⟩]) (.cond (.t 45) (.drw [⟨some 46,none,.mv (.t 6)⟩,⟨some 47,none,.ld (.int .i64) (.t 7)⟩,⟨some 48,none,.ia 1 (.t 46) (.t 47)⟩,⟨some 49,none,.ld (.int .u64) (.t 48)⟩,⟨some 50,none,.mv (.t 10)⟩,⟨some 51,none,.sh true .u64 (.c (.int .u64 1)) (.t 50)⟩,⟨some 52,none,.bit .or .u64 (.t 49) (.t 51)⟩,⟨some 53,none,.ia 1 (.t 46) (.t 47)⟩,⟨none,none,.st 1 (.t 53) (.t 52)⟩] (.mov 0 (.take 1 (.take 2 (.take 3 (.mov 4 (.take 5 (.take 6 (.take 7 (.bar 8 .done)))))))))) .skip)))) (.reg [⟨some 54,none,.ar .add .i64 (.t 36) (.c (.int .i64 1))⟩,⟨some 36,none,.mv (.t 54)⟩])))))))
def zv1:List (Nat × Tr):=[(14,(.mov 0 (.take 1 (.take 2 (.take 3 (.mov 4 (.take 5 (.take 6 (.take 7 (.bar 8 .done))))))))))]
set_option maxRecDepth 100000 in
set_option maxHeartbeats 4000000 in
theorem zv2:cC Tryz.prog 58 [] zv1 zrI=some zrN:=by kernel_rfl
def zuC:C :=
 (.reg [⟨some 55,none,.ar .add .i64 (.t 21) (.c (.int .i64 1))⟩,⟨some 21,none,.mv (.t 55)⟩])
def zuD:List (Nat × Tr):=[]
set_option maxRecDepth 100000 in
set_option maxHeartbeats 4000000 in
theorem zuE:cC Tryz.prog 58 [] zuD zpk=some zuC:=by kernel_rfl
def zv3:C :=
 (.seq (.reg [⟨some 56,none,.lda 4 [.int .i64,.slc,.slc,.slc] (.t 4)⟩,⟨some 57,none,.mv (.t 6)⟩,⟨none,none,.st 4 (.t 2) (.t 56)⟩,⟨some 3,none,.mv (.t 57)⟩]) .ret)
def zv4:List (Nat × Tr):=[]
set_option maxRecDepth 100000 in
set_option maxHeartbeats 4000000 in
theorem zv5:cC Tryz.prog 58 [] zv4 zrE=some zv3:=by kernel_rfl
set_option maxRecDepth 100000 in
theorem zv6:zcy=.seq zrz (.seq zrA (.seq zrB (.seq zrC zf7))):=by kernel_rfl
set_option maxRecDepth 100000 in
theorem zv7:zf7=.seq (.seq zrD (.block 0 (.loop zd5))) zrE:=by kernel_rfl
set_option maxRecDepth 100000 in
theorem zv8:zd5=.seq zrF (.seq zpj (.seq (.block 1 k64_in) zpk)):=by kernel_rfl
set_option maxRecDepth 100000 in
theorem zv9:k64_in=.seq zrG (.seq (.seq zrH (.block 2 zjC)) zrI):=by kernel_rfl
end Go.Proofs.YtjmlialibdobpaaGreatDoor
