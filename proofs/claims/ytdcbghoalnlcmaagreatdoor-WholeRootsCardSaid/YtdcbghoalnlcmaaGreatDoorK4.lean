/- Arithmetic modulo 2^61 - 1, of numbers. Plain Lean: no program in sight. -/
import Derived.Test.YtdcbghoalnlcmaaGreatDoorK2
import Derived.Test.YtdcbghoalnlcmaaGreatDoorK3
import Derived.Lib.TrailingZeros
set_option linter.unusedSectionVars false
set_option linter.unusedVariables false
set_option linter.unusedSimpArgs false
namespace Go.Proofs.YtdcbghoalnlcmaaGreatDoor
section
open Go.EG
abbrev PP:Nat:=2305843009213693951
theorem ztk (q r:Nat):(q*2305843009213693952+r)%PP=(q+r)%PP:=by
 rw [show q*2305843009213693952+r=PP*q+(q+r) by unfold PP;omega,Nat.mul_add_mod]
theorem zwZ (x:Nat):x%PP=(x/2305843009213693952+x%2305843009213693952)%PP:=by
 rw [←ztk]
 congr 1
 omega
theorem ztl {x s:Nat} (hx:x<18446744073709551616) (hs:s=x%2305843009213693952+x/2305843009213693952):x%PP=if PP<=s then s - PP else s:=by
 rw [zwZ,Nat.add_comm,←hs]
 have h1:s<PP+8:=by unfold PP;omega
 split
 ·rename_i h
  rw [Nat.mod_eq_sub_mod h,Nat.mod_eq_of_lt (by unfold PP at *;omega)]
 ·rename_i h
  exact Nat.mod_eq_of_lt (by omega)
theorem ztm (a b:Nat):a*b=(a/4294967296*(b/4294967296))*18446744073709551616+(a/4294967296*(b%4294967296)+a%4294967296*(b/4294967296))*4294967296+a%4294967296*(b%4294967296):=by
 conv=>lhs;rw [←Nat.div_add_mod a 4294967296,←Nat.div_add_mod b 4294967296]
 generalize a/4294967296=x1
 generalize a%4294967296=x0
 generalize b/4294967296=y1
 generalize b%4294967296=y0
 rw [Nat.add_mul,Nat.mul_add,Nat.mul_add]
 have e1:4294967296*x1*(4294967296*y1)=x1*y1*18446744073709551616:=by
  rw [Nat.mul_mul_mul_comm];omega
 have e2:4294967296*x1*y0=x1*y0*4294967296:=by rw [Nat.mul_assoc,Nat.mul_comm]
 have e3:x0*(4294967296*y1)=x0*y1*4294967296:=by rw [Nat.mul_left_comm,Nat.mul_comm]
 rw [e1,e2,e3]
 omega
theorem zh5 {a b c d:Nat} (h:a<=c) (k:b<=d):a*b<=c*d:=Nat.mul_le_mul h k
theorem zxo {a b x0 x1 y0 y1 w0 t w1 w2 v1:Nat} (ha:a<18446744073709551616) (hb:b<18446744073709551616) (hx0:x0=a%4294967296) (hx1:x1=a/4294967296) (hy0:y0=b%4294967296) (hy1:y1=b/4294967296)
 (hw0:w0=x0*y0) (ht:t=x1*y0+w0/4294967296) (hw1:w1=t%4294967296) (hw2:w2=t/4294967296) (hv1:v1=w1+x0*y1) :
 t<18446744073709551616/\v1<18446744073709551616/\x1*y1+w2+v1/4294967296=a*b/18446744073709551616/\x0*y0<18446744073709551616/\x1*y0<18446744073709551616/\x0*y1<18446744073709551616/\x1*y1+w2+v1/4294967296<18446744073709551616/\x1*y1+w2<18446744073709551616/\x1*y1<18446744073709551616:=by
 have hs:=ztm a b
 rw [←hx0,←hx1,←hy0,←hy1] at hs
 have h00:x0*y0<=4294967295*4294967295:=zh5 (by omega) (by omega)
 have h10:x1*y0<=4294967295*4294967295:=zh5 (by omega) (by omega)
 have h01:x0*y1<=4294967295*4294967295:=zh5 (by omega) (by omega)
 have h11:x1*y1<=4294967295*4294967295:=zh5 (by omega) (by omega)
 generalize x0*y0=p00 at *
 generalize x1*y0=p10 at *
 generalize x0*y1=p01 at *
 generalize x1*y1=p11 at *
 generalize a*b=m at *
 omega
theorem zxB {x y hi lo:Nat} (hx:x<PP) (hy:y<PP) (hhi:hi=x*y/18446744073709551616) (hlo:lo=x*y%18446744073709551616) :
 hi*8+lo/2305843009213693952+lo%2305843009213693952<18446744073709551616/\hi*8<18446744073709551616/\hi*8+lo/2305843009213693952<18446744073709551616/\(hi*8+lo/2305843009213693952+lo%2305843009213693952)%PP=x*y%PP:=by
 have h1:x*y<=2305843009213693950*2305843009213693950:=zh5 (by unfold PP at hx;omega) (by unfold PP at hy;omega)
 refine ⟨by omega,by omega,by omega,?_⟩
 rw [←ztk]
 congr 1
 generalize x*y=m at *
 omega
theorem zoC (a n:Nat):a ^ n=(a*a) ^ (n/2)*a ^ (n%2):=by
 conv=>lhs;rw [←Nat.div_add_mod n 2]
 rw [Nat.pow_add,Nat.pow_mul,Nat.pow_two]
theorem zff (a b:Nat):(a%PP)*(b%PP)%PP=a*b%PP:=(Nat.mul_mod a b PP).symm
theorem zoD (a b:Nat):(a%PP)*b%PP=a*b%PP:=by rw [Nat.mul_mod,Nat.mod_mod,←Nat.mul_mod]
theorem zaz (a b:Nat):a*(b%PP)%PP=a*b%PP:=by rw [Nat.mul_mod,Nat.mod_mod,←Nat.mul_mod]
theorem ziQ (a n:Nat):(a%PP) ^ n%PP=a ^ n%PP:=(Nat.pow_mod a n PP).symm
theorem zd4 (a b:Nat):(a%PP+b%PP)%PP=(a+b)%PP:=(Nat.add_mod a b PP).symm
theorem zr3 {r a n t:Nat} (h:r*a ^ n%PP=t) (hn:n%2=1):(r*a%PP)*(a*a%PP) ^ (n/2)%PP=t:=by
 rw [←h,zoD,←zaz,ziQ,zaz]
 rw [zoC a n,hn,Nat.pow_one]
 congr 1
 ac_rfl
theorem zr4 {r a n t:Nat} (h:r*a ^ n%PP=t) (hn:n%2≠1):r*(a*a%PP) ^ (n/2)%PP=t:=by
 rw [←h,←zaz,ziQ,zaz]
 rw [zoC a n,show n%2=0 by omega,Nat.pow_zero,Nat.mul_one]
abbrev BB:Nat:=1103515245
def zeO (v:Nat) (t:List Nat):Nat:=t.foldl (fun v b=>v*BB+(b+1)) v
def zfg (t:List Nat):Nat:=zeO 0 t
theorem zjU:∀ (t:List Nat) (v:Nat),zeO v t=v*BB ^ t.length+zfg t
 | [],v=>by simp [zeO,zfg]
 | b :: t,v => by
   have h1:=zjU t (v*BB+(b+1))
   have h2:=zjU t (0*BB+(b+1))
   have e1:zeO v (b::t)=zeO (v*BB+(b+1)) t:=rfl
   have e2:zfg (b::t)=zeO (0*BB+(b+1)) t:=rfl
   rw [e1,e2,h1,h2,List.length_cons,Nat.pow_succ,Nat.add_mul,Nat.zero_mul,Nat.zero_add,Nat.mul_assoc,Nat.mul_comm BB,Nat.add_assoc]
theorem zqo (s t:List Nat):zfg (s++t)=zfg s*BB ^ t.length+zfg t:=by
 rw [←zjU]
 simp [zfg,zeO,List.foldl_append]
def zV (t:List Nat):Nat:=t.count 10
def yf (t:List Nat):Nat:=(t.takeWhile (· != 10)).length
def qT (t:List Nat):Nat:=(t.reverse.takeWhile (· != 10)).length
theorem zh6 (s t:List Nat):zV (s++t)=zV s+zV t:=List.count_append
theorem zhv {p:Nat->Bool}:∀ {s:List Nat},(∀ x∈s,p x=true)->∀ t,(s++t).takeWhile p=s++t.takeWhile p
 | [],_,t=>rfl
 | x :: s,h,t => by
   rw [List.cons_append,List.takeWhile_cons,if_pos (h x g5q),zhv (fun y hy=>h y (g4q _ hy)),List.cons_append]
theorem zf1 {p:Nat->Bool}:∀ {s:List Nat} {x:Nat},x∈s->p x=false->∀ t,(s++t).takeWhile p=s.takeWhile p
 | y :: s,x,hx,hp,t => by
   rw [List.cons_append,List.takeWhile_cons,List.takeWhile_cons]
   by_cases hy:p y=true
   ·rw [if_pos hy,if_pos hy]
    rcases List.mem_cons.1 hx with rfl|hx
    ·rw [hp] at hy;cases hy
    ·rw [zf1 hx hp]
   ·rw [if_neg hy,if_neg hy]
theorem zw0 {s:List Nat} (h:zV s=0):∀ x∈s,(x != 10)=true:=fun x hx=>by
 have:x≠10:=fun hx10=>by
  subst hx10
  exact absurd hx (List.count_eq_zero.1 h)
 simpa using this
theorem zwr {s:List Nat} (h:zV s≠0):10∈s:=by
 apply Classical.byContradiction
 intro hn
 exact h (List.count_eq_zero.2 hn)
theorem zch (s t:List Nat):yf (s++t)=if zV s=0 then s.length+yf t else yf s:=by
 unfold yf
 split
 ·rename_i h
  rw [zhv (zw0 h),g6q]
 ·rename_i h
  rw [zf1 (zwr h) rfl]
theorem zno (s:List Nat):zV s.reverse=zV s:=List.count_reverse
theorem zas (s t:List Nat):qT (s++t)=if zV t=0 then t.length+qT s else qT t:=by
 have:=zch t.reverse s.reverse
 unfold yf at this
 unfold qT
 rw [List.reverse_append,this,zno,List.length_reverse]
theorem zcC {t:List Nat} (h:zV t=0):yf t=t.length:=by
 have:=zch t []
 rw [if_pos h,List.append_nil] at this
 simpa [yf] using this
theorem zcD {t:List Nat} (h:zV t=0):qT t=t.length:=by
 have:=zas [] t
 rw [if_pos h,List.nil_append] at this
 simpa [qT] using this
theorem zcE:∀ t:List Nat,zV t≠0->yf t+zV t+qT t<=t.length/\(zV t=1->yf t+1+qT t=t.length)
 | [],h=>absurd rfl h
 | x :: t,h => by
   by_cases hx:x=10
   ·subst hx
    have e1:yf (10::t)=0:=rfl
    have e2:zV (10::t)=zV t+1:=by simp [zV]
    have e3:qT (10::t)=if zV t=0 then t.length+qT [10] else qT t:=zas [10] t
    have e4:qT [10]=0:=rfl
    by_cases h0:zV t=0
    ·rw [if_pos h0,e4] at e3
     rw [e1,e2,e3,h0,List.length_cons];omega
    ·rw [if_neg h0] at e3
     have:=zcE t h0
     rw [e1,e2,e3,List.length_cons];omega
   ·have e1:yf (x::t)=yf t+1:=by
     unfold yf
     rw [List.takeWhile_cons,if_pos (by simpa using hx),List.length_cons]
    have e2:zV (x::t)=zV t:=by simp [zV,hx]
    have e3:qT (x::t)=if zV t=0 then t.length+qT [x] else qT t:=zas [x] t
    rw [e2] at h ⊢
    rw [if_neg h] at e3
    have:=zcE t h
    rw [e1,e3,List.length_cons];omega
def rep (k:Nat) (t:List Nat):List Nat:=(List.replicate k t).flatten
theorem zoE (t:List Nat):rep 0 t=[]:=rfl
theorem xM (t:List Nat):rep 1 t=t:=by simp [rep]
theorem vN (k:Nat) (t:List Nat):rep (k+1) t=t++rep k t:=by simp [rep,List.replicate_succ]
theorem zf2 (j k:Nat) (t:List Nat):rep (j+k) t=rep j t++rep k t:=by
 rw [rep,←List.replicate_append_replicate,List.flatten_append];rfl
theorem qL (k:Nat) (t:List Nat):(rep k t).length=k*t.length:=by simp [rep]
theorem ztn (k:Nat) (t:List Nat):zV (rep k t)=k*zV t:=by
 induction k with
 | zero=>simp [zoE,zV]
 | succ k ih=>rw [vN,zh6,ih,Nat.succ_mul];omega
theorem zuW {k:Nat} (hk:0<k) (t:List Nat) (h:zV t≠0):yf (rep k t)=yf t:=by
 obtain ⟨j,rfl⟩:∃ j,k=j+1:=⟨k - 1,by omega⟩
 rw [vN,zch,if_neg h]
theorem zuX {k:Nat} (hk:0<k) (t:List Nat) (h:zV t≠0):qT (rep k t)=qT t:=by
 obtain ⟨j,rfl⟩:∃ j,k=j+1:=⟨k - 1,by omega⟩
 rw [zf2,xM,zas,if_neg h]
def vu (t:List Nat):Nat:=zfg t%PP
def yr (t:List Nat):Nat:=BB ^ t.length%PP
theorem zws (t:List Nat):vu t<PP:=Nat.mod_lt _ (by decide)
theorem zqp (s t:List Nat):(vu s*yr t%PP+vu t)%PP=vu (s++t):=by
 unfold vu yr
 rw [zqo,zff,zd4]
theorem znp (s t:List Nat):yr s*yr t%PP=yr (s++t):=by
 unfold yr
 rw [zff,g6q,Nat.pow_add]
end
section
open Go.EG
attribute [local irreducible] z8 yN Go.Calls
set_option maxRecDepth 20000
theorem zoF (x:Nat):x&&&2305843009213693951=x%2305843009213693952:=Nat.and_two_pow_sub_one_eq_mod x 61
theorem zr5 (x:Nat):x&&&4294967295=x%4294967296:=Nat.and_two_pow_sub_one_eq_mod x 32
theorem vi (x:Nat) (hx:x<18446744073709551616) (w:World):Calls Tryz.prog qK #[.int .u64 x] w fun e w'=>e=.returned (.int .u64 (x%PP:Nat))/\Ext w w':=by
 refine zN [.v (.int .u64 x)] w zi0 (by simp) ?_
 have e1:(((x:Int).toNat&&&(2305843009213693951:Int).toNat:Nat):Int)=((x%2305843009213693952:Nat):Int):=by
  rw [g7q];exact congrArg _ (zoF x)
 have e2:(x:Int)/((2 ^ (61:Int).toNat:Nat):Int)=((x/2305843009213693952:Nat):Int):=by
  rw [Int.natCast_ediv];rfl
 have hr:=ztl hx rfl
 generalize hs:x%2305843009213693952+x/2305843009213693952=s at *
 have hss:((x%2305843009213693952:Nat):Int)+((x/2305843009213693952:Nat):Int)=(s:Int):=by omega
 have hsb:s<2305843009213693960:=by omega
 unfold PP at hr
 (repeat' ((conv=>whnf);first|rw [e1]|rw [e2]|rw [hss]|((first|apply zb|apply za|apply zc)<;>intro h<;>try (exfalso;omega))|refine pay ?_|refine And.intro (by first|exact ⟨by omega,by omega,by decide,by decide⟩|exact ⟨by decide,by show _<=(64:Int);decide⟩) ?_|intro _));(all_goals (conv=>whnf))
 all_goals (refine ⟨?_⟩;rw [hr];congr 1;split<;>omega)
theorem zqq (a b:Nat) (ha:a<18446744073709551616) (hb:b<18446744073709551616) (w:World):Calls Tryz.prog jI #[.int .u64 a,.int .u64 b] w fun e w'=>e=.returned (.tuple #[.int .u64 (a*b/18446744073709551616:Nat),.int .u64 (a*b%18446744073709551616:Nat)])/\Ext w w':=by
 refine zN [.v (.int .u64 a),.v (.int .u64 b)] w zh4 (by simp) ?_
 have hand:∀ x:Nat,(((x:Int).toNat&&&(4294967295:Int).toNat:Nat):Int)=((x%4294967296:Nat):Int):=fun x=>by
  rw [g7q];exact congrArg _ (zr5 x)
 have hsh:∀ x:Nat,(x:Int)/((2 ^ (32:Int).toNat:Nat):Int)=((x/4294967296:Nat):Int):=fun x=>by
  rw [Int.natCast_ediv];rfl
 obtain ⟨x0,hx0⟩:∃ x0,x0=a%4294967296:=⟨_,rfl⟩
 obtain ⟨x1,hx1⟩:∃ x1,x1=a/4294967296:=⟨_,rfl⟩
 obtain ⟨y0,hy0⟩:∃ y0,y0=b%4294967296:=⟨_,rfl⟩
 obtain ⟨y1,hy1⟩:∃ y1,y1=b/4294967296:=⟨_,rfl⟩
 obtain ⟨w0,hw0⟩:∃ w0,w0=x0*y0:=⟨_,rfl⟩
 obtain ⟨t,ht⟩:∃ t,t=x1*y0+w0/4294967296:=⟨_,rfl⟩
 obtain ⟨w1,hw1⟩:∃ w1,w1=t%4294967296:=⟨_,rfl⟩
 obtain ⟨w2,hw2⟩:∃ w2,w2=t/4294967296:=⟨_,rfl⟩
 obtain ⟨v1,hv1⟩:∃ v1,v1=w1+x0*y1:=⟨_,rfl⟩
 obtain ⟨k1,k2,k3,k4,k5,k6,k7,k8,k9⟩:=zxo ha hb hx0 hx1 hy0 hy1 hw0 ht hw1 hw2 hv1
 have wr:∀ n:Nat,n<18446744073709551616->(n:Int)%18446744073709551616=n:=fun n hn=>by omega
 have q1:=hand a
 have q2:=hsh a
 have q3:=hand b
 have q4:=hsh b
 rw [←hx0] at q1
 rw [←hx1] at q2
 rw [←hy0] at q3
 rw [←hy1] at q4
 have q5:(x0:Int)*(y0:Int)%18446744073709551616=(w0:Int):=by rw [hw0,←Int.natCast_mul,wr _ k4]
 have q6:(x1:Int)*(y0:Int)%18446744073709551616=((x1*y0:Nat):Int):=by rw [←Int.natCast_mul,wr _ k5]
 have q7:=hsh w0
 have q8:(((x1*y0:Nat):Int)+((w0/4294967296:Nat):Int))%18446744073709551616=(t:Int):=by rw [←Int.natCast_add,←ht,wr _ k1]
 have q9:=hand t
 have q10:=hsh t
 rw [←hw1] at q9
 rw [←hw2] at q10
 have q11:(x0:Int)*(y1:Int)%18446744073709551616=((x0*y1:Nat):Int):=by rw [←Int.natCast_mul,wr _ k6]
 have q12:((w1:Int)+((x0*y1:Nat):Int))%18446744073709551616=(v1:Int):=by rw [←Int.natCast_add,←hv1,wr _ k2]
 have q13:(x1:Int)*(y1:Int)%18446744073709551616=((x1*y1:Nat):Int):=by rw [←Int.natCast_mul,wr _ k9]
 have q14:(((x1*y1:Nat):Int)+(w2:Int))%18446744073709551616=((x1*y1+w2:Nat):Int):=by rw [←Int.natCast_add,wr _ k8]
 have q15:=hsh v1
 have q16:(((x1*y1+w2:Nat):Int)+((v1/4294967296:Nat):Int))%18446744073709551616=((a*b/18446744073709551616:Nat):Int):=by rw [←Int.natCast_add,k3,wr _ (by omega)]
 have q17:(a:Int)*(b:Int)%18446744073709551616=((a*b%18446744073709551616:Nat):Int):=by rw [←Int.natCast_mul];omega
 have bx0:x0<=4294967295:=by omega
 clear hw0 ht hv1 hx0 hx1 hy0 hy1 hw1 hw2
 (repeat' ((conv=>whnf);first|rw [q1]|rw [q2]|rw [q3]|rw [q4]|rw [q5]|rw [q6]|rw [q7]|rw [q8]|rw [q9]|rw [q10]|rw [q11]|rw [q12]|rw [q13]|rw [q14]|rw [q15]|rw [q16]|rw [q17]|((first|apply zb|apply za|apply zc)<;>intro h<;>try (exfalso;omega))|refine pay ?_|refine And.intro (by first|exact ⟨by omega,by omega,by decide,by decide⟩|exact ⟨by decide,by show _<=(64:Int);decide⟩) ?_|intro _));(all_goals (conv=>whnf))
 exact ⟨rfl⟩
theorem zgQ (a b:Nat) (ha:a<18446744073709551616) (hb:b<18446744073709551616) (w:World):Calls Tryz.prog un #[.int .u64 a,.int .u64 b] w fun e w'=>e=.returned (.int .u64 ((a+b)%PP:Nat))/\Ext w w':=by
 refine zN [.v (.int .u64 a),.v (.int .u64 b)] w zlK (by simp) ?_
 have h1:a%PP<PP:=Nat.mod_lt _ (by decide)
 have h2:b%PP<PP:=Nat.mod_lt _ (by decide)
 have hs:(((a%PP:Nat):Int)+((b%PP:Nat):Int))%18446744073709551616=((a%PP+b%PP:Nat):Int):=by unfold PP at *;omega
 rw [←zd4]
 have hlt:a%PP+b%PP<18446744073709551616:=by unfold PP at *;omega
 generalize a%PP+b%PP=s at *
 (repeat' ((conv=>whnf);first|rw [hs]|refine zv (.v _) (fun w hR=>vi a ha w) ?_|refine zv (.v _) (fun w hR=>vi b hb w) ?_|refine zv (.v _) (fun w hR=>vi s hlt w) ?_|((first|apply zb|apply za|apply zc)<;>intro h<;>try (exfalso;omega))|refine pay ?_|intro _));(all_goals (conv=>whnf))
 exact ⟨rfl⟩
theorem zab (a b:Nat) (ha:a<18446744073709551616) (hb:b<18446744073709551616) (w:World):Calls Tryz.prog yV #[.int .u64 a,.int .u64 b] w fun e w'=>e=.returned (.int .u64 (a*b%PP:Nat))/\Ext w w':=by
 refine zN [.v (.int .u64 a),.v (.int .u64 b)] w zlI (by simp) ?_
 rw [←zff]
 have h1:a%PP<PP:=Nat.mod_lt _ (by decide)
 have h2:b%PP<PP:=Nat.mod_lt _ (by decide)
 have c1:=vi a ha
 have c2:=vi b hb
 generalize a%PP=x at *
 generalize b%PP=y at *
 have c3:=zqq x y (Nat.lt_trans h1 (by decide)) (Nat.lt_trans h2 (by decide))
 obtain ⟨k1,k2,k3,k4⟩:=zxB h1 h2 rfl rfl
 rw [←k4]
 generalize hhi:x*y/18446744073709551616=hi at *
 generalize hlo:x*y%18446744073709551616=lo at *
 have hlo2:lo<18446744073709551616:=by omega
 have c4:=vi _ k1
 have q1:(hi:Int)*((2 ^ (3:Int).toNat:Nat):Int)%18446744073709551616=((hi*8:Nat):Int):=by
  show (hi:Int)*8%18446744073709551616=_
  omega
 have q2:(lo:Int)/((2 ^ (61:Int).toNat:Nat):Int)=((lo/2305843009213693952:Nat):Int):=by rw [Int.natCast_ediv];rfl
 have q3:(((hi*8:Nat):Int)+((lo/2305843009213693952:Nat):Int))%18446744073709551616=((hi*8+lo/2305843009213693952:Nat):Int):=by omega
 have q4:(((lo:Int).toNat&&&(2305843009213693951:Int).toNat:Nat):Int)=((lo%2305843009213693952:Nat):Int):=by rw [g7q];exact congrArg _ (zoF lo)
 have q5:(((hi*8+lo/2305843009213693952:Nat):Int)+((lo%2305843009213693952:Nat):Int))%18446744073709551616=((hi*8+lo/2305843009213693952+lo%2305843009213693952:Nat):Int):=by omega
 (repeat' ((conv=>whnf);first|rw [q1]|rw [q2]|rw [q3]|rw [q4]|rw [q5]|refine zv (.v _) (fun w hR=>c1 w) ?_|refine zv (.v _) (fun w hR=>c2 w) ?_|refine zv (.v _) (fun w hR=>c3 w) ?_|refine zv (.v _) (fun w hR=>c4 w) ?_|((first|apply zb|apply za|apply zc)<;>intro h<;>try (exfalso;omega))|refine pay ?_|refine And.intro (by first|exact ⟨by omega,by omega,by decide,by decide⟩|exact ⟨by decide,by show _<=(64:Int);decide⟩) ?_|intro _));(all_goals (conv=>whnf))
 exact ⟨rfl⟩
structure PowG where
 r:Nat
 a:Nat
 n:Nat
theorem zkU (a n:Nat) (ha:a<18446744073709551616) (hn:n<18446744073709551616) (w:World):Calls Tryz.prog zaa #[.int .u64 a,.int .u64 n] w fun e w'=>e=.returned (.int .u64 (a ^ n%PP:Nat))/\Ext w w':=by
 refine zN [.v (.int .u64 a),.v (.int .u64 n)] w zlM (by simp) ?_
 (repeat' ((conv=>whnf);first|refine zv (.v _) (fun w hR=>vi a ha w) ?_|((first|apply zb|apply za|apply zc)<;>intro h<;>try (exfalso;omega))|refine pay ?_|intro _));(all_goals (conv=>whnf))
 refine zP PowG (fun g=>[(0,.v (.int .u64 g.a)),(1,.v (.int .u64 g.n)),(5,.v (.int .u64 g.r))]) (fun _=>[]) (fun g=>g.r<PP/\g.a<PP/\g.n<18446744073709551616/\g.r*g.a ^ g.n%PP=a ^ n%PP) (fun g=>g.n) ⟨1,a%PP,n⟩ ⟨by dsimp only;decide,Nat.mod_lt _ (by decide),hn,by dsimp only;rw [Nat.one_mul,ziQ]⟩ (by (repeat ((conv=>whnf);refine vS ?_));exact trivial) (Ref.refl _) ?_
 rintro ⟨r,x,m⟩ ⟨hr,hx,hm,hi⟩
 dsimp only at hr hx hm hi ⊢
 have c1:=zab r x (Nat.lt_trans hr (by decide)) (Nat.lt_trans hx (by decide))
 have c2:=zab x x (Nat.lt_trans hx (by decide)) (Nat.lt_trans hx (by decide))
 have hm2:(m:Int)/2=((m/2:Nat):Int):=by omega
 (repeat' ((conv=>whnf);first|refine zv (.v _) (fun w hR=>c1 w) ?_|refine zv (.v _) (fun w hR=>c2 w) ?_|rw [hm2]|((first|apply zb|apply za|apply zc)<;>intro h<;>try (exfalso;omega))|refine pay ?_|intro _));(all_goals (conv=>whnf))
 ·refine zm ⟨r*x%PP,x*x%PP,m/2⟩ (by dsimp only;exact ⟨Nat.mod_lt _ (by decide),Nat.mod_lt _ (by decide),by omega,zr3 hi (by omega)⟩) (by ((try dsimp only);omega)) (by (repeat ((conv=>whnf);refine vS ?_));exact trivial) (Ref.refl _)
 ·refine zm ⟨r,x*x%PP,m/2⟩ (by dsimp only;exact ⟨hr,Nat.mod_lt _ (by decide),by omega,zr4 hi (by omega)⟩) (by ((try dsimp only);omega)) (by (repeat ((conv=>whnf);refine vS ?_));exact trivial) (Ref.refl _)
 ·have hm0:m=0:=by omega
  subst hm0
  rw [Nat.pow_zero,Nat.mul_one,Nat.mod_eq_of_lt hr] at hi
  rw [←hi]
  exact ⟨rfl⟩
def zgR (k x y:Nat):Nat:=(k+(1234567890123456789*x+987654321987654321*y)) ^ 17%PP
theorem zl6 (k x y:Nat):zgR k x y<PP:=Nat.mod_lt _ (by decide)
theorem zwt (k x y:Nat):((k+(1234567890123456789*x%PP+987654321987654321*y%PP)%PP)%PP) ^ 17%PP=zgR k x y:=by
 unfold zgR
 rw [zd4,ziQ]
 conv=>lhs;rw [Nat.pow_mod,Nat.add_mod,Nat.mod_mod,←Nat.add_mod,←Nat.pow_mod]
theorem zgS (k x y:Nat) (hk:k<18446744073709551616) (hx:x<18446744073709551616) (hy:y<18446744073709551616) (w:World):Calls Tryz.prog um #[.int .u64 k,.int .u64 x,.int .u64 y] w fun e w'=>e=.returned (.int .u64 (zgR k x y))/\Ext w w':=by
 refine zN [.v (.int .u64 k),.v (.int .u64 x),.v (.int .u64 y)] w zlO (by simp) ?_
 rw [←zwt]
 have c1:=zab 1234567890123456789 x (by decide) hx
 have c2:=zab 987654321987654321 y (by decide) hy
 have h1:1234567890123456789*x%PP<PP:=Nat.mod_lt _ (by decide)
 have h2:987654321987654321*y%PP<PP:=Nat.mod_lt _ (by decide)
 generalize 1234567890123456789*x%PP=p at *
 generalize 987654321987654321*y%PP=q at *
 have c3:=zgQ p q (Nat.lt_trans h1 (by decide)) (Nat.lt_trans h2 (by decide))
 have h3:(p+q)%PP<PP:=Nat.mod_lt _ (by decide)
 generalize (p+q)%PP=s at *
 have c4:=zgQ k s hk (Nat.lt_trans h3 (by decide))
 have h4:(k+s)%PP<PP:=Nat.mod_lt _ (by decide)
 generalize (k+s)%PP=t at *
 have c5:=zkU t 17 (Nat.lt_trans h4 (by decide)) (by decide)
 (repeat' ((conv=>whnf);first|refine zv (.v _) (fun w hR=>c1 w) ?_|refine zv (.v _) (fun w hR=>c2 w) ?_|refine zv (.v _) (fun w hR=>c3 w) ?_|refine zv (.v _) (fun w hR=>c4 w) ?_|refine zv (.v _) (fun w hR=>c5 w) ?_|((first|apply zb|apply za|apply zc)<;>intro h<;>try (exfalso;omega))|refine pay ?_|intro _));(all_goals (conv=>whnf))
 exact ⟨rfl⟩
abbrev LM:Nat:=1152921504606846976
abbrev jK (n:Int):Value:=.iface zp (.int .i64 n)
abbrev zbT (t:List Nat):Value:=.agg #[.int .u64 (vu t),.int .u64 (yr t)]
abbrev wtV (t:List Nat):Value:=.agg #[.int .i64 t.length,.int .i64 (zV t),.int .i64 (yf t),.int .i64 (qT t),.int .u64 (vu t),.int .u64 (yr t)]
theorem jL (n:Int) (w:World):Calls Tryz.prog xj #[.int .i64 n] w fun e w'=>e=.returned (.bool (decide (0<=n/\n<=1152921504606846976)))/\Ext w w':=by
 refine zN [.v (.int .i64 n)] w zkL (by simp) ?_
 (repeat' ((conv=>whnf);first|((first|apply zb|apply za|apply zc)<;>intro h<;>try (exfalso;omega))|refine pay ?_|intro _));(all_goals (conv=>whnf))
 all_goals (refine ⟨?_⟩;congr 1;simp;omega)
theorem zjl (n lo hi:Int) (w:World):Calls Tryz.prog j7 #[.int .i64 n,.int .i64 lo,.int .i64 hi] w fun e w'=>e=.returned (.int .i64 (if n<lo then lo else if n>hi then hi else n))/\Ext w w':=by
 refine zN [.v (.int .i64 n),.v (.int .i64 lo),.v (.int .i64 hi)] w zlV (by simp) ?_
 (repeat' ((conv=>whnf);first|((first|apply zb|apply za|apply zc)<;>intro h<;>try (exfalso;omega))|refine pay ?_|intro _));(all_goals (conv=>whnf))
 all_goals (refine ⟨?_⟩;congr 1;repeat' split<;>omega)
def zgT (a b:Nat):Value:=if a+b<=LM then .tuple #[.int .i64 ((a+b:Nat):Int),.nilIface] else .tuple #[.int .i64 0,jK 2]
theorem zbi (a b:Nat) (ha:a<=LM) (hb:b<=LM) (w:World):Calls Tryz.prog vy #[.int .i64 a,.int .i64 b] w fun e w'=>e=.returned (zgT a b)/\Ext w w':=by
 refine zN [.v (.int .i64 a),.v (.int .i64 b)] w znh (by simp) ?_
 unfold LM at ha hb
 have c1:=jL a
 have c2:=jL b
 rw [decide_eq_true (by omega)] at c1 c2
 (repeat' ((conv=>whnf);first|refine zv (.v _) (fun w hR=>c1 w) ?_|refine zv (.v _) (fun w hR=>c2 w) ?_|((first|apply zb|apply za|apply zc)<;>intro h<;>try (exfalso;omega))|refine pay ?_|intro _));(all_goals (conv=>whnf))
 all_goals (refine ⟨?_⟩;unfold zgT LM;first|rw [if_pos (by omega)]|rw [if_neg (by omega)])
 all_goals first|rfl|(congr 4;omega)
def zjV (a k:Nat):Value:=if a*k<=LM then .tuple #[.int .i64 ((a*k:Nat):Int),.nilIface] else .tuple #[.int .i64 0,jK 2]
theorem zdq (a k:Nat) (ha:a<=LM) (hk:k<=9223372036854775807) (w:World):Calls Tryz.prog uW #[.int .i64 a,.int .i64 k] w fun e w'=>e=.returned (zjV a k)/\Ext w w':=by
 refine zN [.v (.int .i64 a),.v (.int .i64 k)] w znj (by simp) ?_
 unfold LM at ha
 have c1:=jL a
 rw [decide_eq_true (by omega)] at c1
 have hd:(1152921504606846976:Int)/(a:Int)=((1152921504606846976/a:Nat):Int):=by rw [Int.natCast_ediv];rfl
 have hm:(a:Int)*(k:Int)=((a*k:Nat):Int):=by simp
 have hiff:0<a->(k<=1152921504606846976/a↔a*k<=1152921504606846976):=fun h=>by
  rw [Nat.le_div_iff_mul_le h,Nat.mul_comm]
 generalize 1152921504606846976/a=q at *
 have hz:a=0->a*k=0:=fun h=>by rw [h,Nat.zero_mul]
 rw [show zjV a k=if a*k<=LM then .tuple #[.int .i64 ((a*k:Nat):Int),.nilIface] else .tuple #[.int .i64 0,jK 2] from rfl]
 unfold LM
 generalize a*k=p at *
 have hw1:0<a->k<=q->p<=1152921504606846976:=fun h1 h2=>(hiff h1).1 h2
 have hw2:0<a->q<k->1152921504606846976<p:=fun h1 h2=>by have:=(hiff h1).2;omega
 (repeat' ((conv=>whnf);first|rw [hd]|rw [hm]|refine zv (.v _) (fun w hR=>c1 w) ?_|((first|apply zb|apply za|apply zc)<;>intro h<;>try (exfalso;omega))|refine pay ?_|refine And.intro (by first|exact ⟨by omega,by omega,by omega⟩|(have:=hw1 (by omega) (by omega);omega)) ?_|intro _));(all_goals (conv=>whnf))
 ·refine ⟨?_⟩
  rw [if_pos (by have:=hz (by omega);omega),hz (by omega)];rfl
 ·refine ⟨?_⟩
  rw [if_neg (by have:=hw2 (by omega) (by omega);omega)];exact rfl
 ·refine ⟨?_⟩
  rw [if_pos (by have:=hw1 (by omega) (by omega);omega)]
theorem zjm (w:World):Calls Tryz.prog j9 #[] w fun e w'=>e=.returned (zbT [])/\Ext w w':=by
 refine zN [] w zlQ (by simp) ?_
 (repeat' ((conv=>whnf);first|((first|apply zb|apply za|apply zc)<;>intro h<;>try (exfalso;omega))|refine pay ?_|intro _));(all_goals (conv=>whnf))
 exact ⟨rfl⟩
theorem znq (b:Nat) (hb:b<256) (w:World):Calls Tryz.prog uJ #[.int .u8 b] w fun e w'=>e=.returned (zbT [b])/\Ext w w':=by
 refine zN [.v (.int .u8 b)] w zjK (by simp) ?_
 have e1:vu [b]=b+1:=by
  have:zfg [b]=b+1:=by simp [zfg,zeO]
  rw [vu,this];exact Nat.mod_eq_of_lt (by unfold PP;omega)
 have e2:yr [b]=1103515245:=rfl
 have q:((b:Int)+1)%18446744073709551616=((b+1:Nat):Int):=by omega
 have q2:(b:Int)%18446744073709551616=b:=by omega
 unfold zbT
 rw [e1,e2]
 (repeat' ((conv=>whnf);first|rw [q]|rw [q2]|((first|apply zb|apply za|apply zc)<;>intro h<;>try (exfalso;omega))|refine pay ?_|intro _));(all_goals (conv=>whnf))
 exact ⟨rfl⟩
theorem zuY {n:Nat}:n%PP<18446744073709551616:=Nat.lt_trans (Nat.mod_lt n (by decide)) (by decide)
theorem zoG (t:List Nat):vu t<18446744073709551616:=zuY
theorem zgU (t:List Nat):yr t<18446744073709551616:=zuY
theorem zfh (s t:List Nat) (w:World):Calls Tryz.prog ul #[zbT s,zbT t] w fun e w'=>e=.returned (zbT (s++t))/\Ext w w':=by
 refine zN [.v (zbT s),.v (zbT t)] w zlT (by simp) ?_
 have c1:=zab (vu s) (yr t) (zoG _) (zgU _)
 have c2:=zgQ (vu s*yr t%PP) (vu t) zuY (zoG _)
 have c3:=zab (yr s) (yr t) (zgU _) (zgU _)
 rw [zqp] at c2
 rw [znp] at c3
 (repeat' ((conv=>whnf);first|refine zv (.v _) (fun w hR=>c1 w) ?_|refine zv (.v _) (fun w hR=>c2 w) ?_|refine zv (.v _) (fun w hR=>c3 w) ?_|refine xg (.v _) (fun w hR=>c1 w) ?_|refine xg (.v _) (fun w hR=>c2 w) ?_|refine xg (.v _) (fun w hR=>c3 w) ?_|((first|apply zb|apply za|apply zc)<;>intro h<;>try (exfalso;omega))|refine pay ?_|intro _));(all_goals (conv=>whnf))
 exact ⟨rfl⟩
structure RepG where
 m:Nat
 i:Nat
 k:Nat
theorem zuZ (m k p:Nat):m+k%2*p+k/2*(p+p)=m+k*p:=by
 conv=>rhs;rw [←Nat.div_add_mod k 2]
 rw [Nat.add_mul,Nat.mul_assoc,Nat.mul_left_comm,Nat.two_mul]
 omega
theorem znr (t:List Nat) (k:Nat) (hk:k<=9223372036854775807) (w:World):Calls Tryz.prog zaI #[zbT t,.int .i64 k] w fun e w'=>e=.returned (zbT (rep k t))/\Ext w w':=by
 refine zN [.v (zbT t),.v (.int .i64 k)] w zjM (by simp) ?_
 (repeat' ((conv=>whnf);first|refine zv (.v _) (fun w hR=>zjm w) ?_|((first|apply zb|apply za|apply zc)<;>intro h<;>try (exfalso;omega))|refine pay ?_|intro _));(all_goals (conv=>whnf))
 rename_i b2 b4 b5
 refine zP RepG (fun g=>[(1,.v (.int .i64 g.k)),(2,.ptr 2 b2 0),(5,.ptr 5 b5 0),(4,.ptr 4 b4 0)])
  (fun g=>[Ent.box 5 b5 [.int .u64 (vu (rep g.m t)),.int .u64 (yr (rep g.m t))] yc,Ent.box 4 b4 [.int .u64 0,.int .u64 0] yc,Ent.box 2 b2 [.int .u64 (vu (rep g.i t)),.int .u64 (yr (rep g.i t))] yc])
  (fun g=>g.m+g.k*g.i=k/\g.k<=9223372036854775807) (fun g=>g.k) ⟨0,1,k⟩ ⟨by dsimp only;omega,hk⟩ (by (repeat ((conv=>whnf);refine vS ?_));exact trivial) (by dsimp only;rw [zoE,xM];exact Ref.refl _) ?_
 rintro ⟨m,i,j⟩ ⟨hi,hj⟩
 dsimp only at hi hj ⊢
 have c1:=zfh (rep m t) (rep i t)
 have c2:=zfh (rep i t) (rep i t)
 rw [←zf2] at c1 c2
 have q1:(j:Int)/2=((j/2:Nat):Int):=by omega
 have hh:=zuZ m j i
 (repeat' ((conv=>whnf);first|rw [q1]|refine zv (.v _) (fun w hR=>c1 w) ?_|refine zv (.v _) (fun w hR=>c2 w) ?_|((first|apply zb|apply za|apply zc)<;>intro h<;>try (exfalso;omega))|refine pay ?_|intro _));(all_goals (conv=>whnf))
 ·refine zm ⟨m+i,i+i,j/2⟩ (by dsimp only;rw [show j%2=1 by omega] at hh;omega) (by ((try dsimp only);omega)) (by (repeat ((conv=>whnf);refine vS ?_));exact trivial) (Ref.refl _)
 ·refine zm ⟨m,i+i,j/2⟩ (by dsimp only;rw [show j%2=0 by omega] at hh;omega) (by ((try dsimp only);omega)) (by (repeat ((conv=>whnf);refine vS ?_));exact trivial) (Ref.refl _)
 ·have:j=0:=by omega
  subst this
  rw [Nat.zero_mul,Nat.add_zero] at hi
  subst hi
  exact ⟨rfl⟩
theorem zjn (w:World):Calls Tryz.prog j8 #[] w fun e w'=>e=.returned (wtV [])/\Ext w w':=by
 refine zN [] w zlX (by simp) ?_
 (repeat' ((conv=>whnf);first|refine zv (.v _) (fun w hR=>zjm w) ?_|((first|apply zb|apply za|apply zc)<;>intro h<;>try (exfalso;omega))|refine pay ?_|intro _));(all_goals (conv=>whnf))
 exact ⟨rfl⟩
theorem zns (b:Nat) (hb:b<256) (w:World):Calls Tryz.prog zaG #[.int .u8 b] w fun e w'=>e=.returned (wtV [b])/\Ext w w':=by
 refine zN [.v (.int .u8 b)] w zjO (by simp) ?_
 have e0:b≠10->zV [b]=0/\yf [b]=1/\qT [b]=1:=fun h=>by
  have h0:zV [b]=0:=by simp [zV,h]
  exact ⟨h0,zcC h0,zcD h0⟩
 (repeat' ((conv=>whnf);first|refine zv (.v _) (fun w hR=>znq b hb w) ?_|((first|apply zb|apply za|apply zc)<;>intro h<;>try (exfalso;omega))|refine pay ?_|intro _));(all_goals (conv=>whnf))
 ·refine ⟨?_⟩
  have:b=10:=by omega
  subst this
  rfl
 ·refine ⟨?_⟩
  obtain ⟨e1,e2,e3⟩:=e0 (by omega)
  unfold wtV
  rw [e1,e2,e3]
  rfl
theorem zd5 (t:List Nat) (ht:t.length<=LM) (w:World):Calls Tryz.prog vE #[wtV t] w fun e w'=>e=.returned (.bool true)/\Ext w w':=by
 refine zN [.v (wtV t)] w zkQ (by simp) ?_
 unfold LM at ht
 have c1:=jL t.length
 rw [decide_eq_true (by omega)] at c1
 have c2:=zkU 1103515245 t.length (by decide) (by omega)
 have h0:zV t=0->yf t=t.length/\qT t=t.length:=fun h=>⟨zcC h,zcD h⟩
 have h1:=zcE t
 have h2:=zws t
 have h3:t.length=0->vu t=0:=fun h=>by rw [List.eq_nil_of_length_eq_zero h];rfl
 have h4:yr t=1103515245 ^ t.length%PP:=rfl
 rw [←h4] at c2
 have q1:(t.length:Int)%18446744073709551616=t.length:=by omega
 clear h4
 unfold PP at h2
 unfold wtV
 generalize t.length=n at *
 generalize zV t=l at *
 generalize yf t=hd at *
 generalize qT t=tl at *
 generalize vu t=v at *
 generalize yr t=sc at *
 (repeat' ((conv=>whnf);first|rw [q1]|refine zv (.v _) (fun w hR=>c1 w) ?_|refine xg (.v _) (fun w hR=>c2 w) ?_|((first|apply zb|apply za|apply zc)<;>intro h<;>try (exfalso;omega))|refine pay ?_|intro _));(all_goals (conv=>whnf))
 all_goals (refine ⟨?_⟩;first|rfl|(exfalso;omega)|(congr 1;simp))
theorem zqr (s t:List Nat) (h:s.length+t.length<=LM) (w:World):Calls Tryz.prog zbQ #[wtV s,wtV t] w fun e w'=>e=.returned (.tuple #[wtV (s++t),.nilIface])/\Ext w w':=by
 refine zN [.v (wtV s),.v (wtV t)] w zl0 (by simp) ?_
 have c1:=zd5 s (by omega)
 have c2:=zd5 t (by omega)
 have c3:=zbi s.length t.length (by omega) (by omega)
 rw [show zgT s.length t.length=.tuple #[.int .i64 ((s.length+t.length:Nat):Int),.nilIface] from if_pos h] at c3
 have c4:=zfh s t
 have e1:=zh6 s t
 have e2:=zch s t
 have e3:=zas s t
 have b1:=zcE s
 have b2:=zcE t
 have z1:zV s=0->yf s=s.length/\qT s=s.length:=fun h=>⟨zcC h,zcD h⟩
 have z2:zV t=0->yf t=t.length/\qT t=t.length:=fun h=>⟨zcC h,zcD h⟩
 unfold LM at h
 unfold wtV at *
 unfold zbT at c4
 rw [g6q,e1,e2,e3]
 generalize vu (s++t)=v at *
 generalize yr (s++t)=sc at *
 clear e1 e2 e3
 generalize s.length=n at *
 generalize t.length=n' at *
 generalize zV s=l at *
 generalize zV t=l' at *
 generalize yf s=hd at *
 generalize yf t=hd' at *
 generalize qT s=tl at *
 generalize qT t=tl' at *
 (repeat' ((conv=>whnf);first|refine zv (.v _) (fun w hR=>c1 w) ?_|refine zv (.v _) (fun w hR=>c2 w) ?_|refine zv (.v _) (fun w hR=>c3 w) ?_|refine xg (.v _) (fun w hR=>c1 w) ?_|refine xg (.v _) (fun w hR=>c2 w) ?_|refine xg (.v _) (fun w hR=>c4 w) ?_|((first|apply zb|apply za|apply zc)<;>intro h<;>try (exfalso;omega))|refine pay ?_|intro _));(all_goals (conv=>whnf))
 all_goals (refine ⟨?_⟩)
 all_goals (try rw [if_pos (by omega:l=0)]) 
 all_goals (try rw [if_neg (by omega:¬l=0)])
 all_goals (try rw [if_pos (by omega:l'=0)])
 all_goals (try rw [if_neg (by omega:¬l'=0)])
 all_goals exact rfl
theorem znt (t:List Nat) (k:Nat) (hk:k<=9223372036854775807) (h:t.length*k<=LM) (ht:t.length<=LM) (w:World):Calls Tryz.prog zaH #[wtV t,.int .i64 k] w fun e w'=>e=.returned (.tuple #[wtV (rep k t),.nilIface])/\Ext w w':=by
 refine zN [.v (wtV t),.v (.int .i64 k)] w zjR (by simp) ?_
 have c1:=zd5 t ht
 have c3:=zdq t.length k ht hk
 rw [show zjV t.length k=.tuple #[.int .i64 ((t.length*k:Nat):Int),.nilIface] from if_pos h] at c3
 have c4:=znr t k hk
 have c5:=zjn
 have e1:=ztn k t
 have e0:=qL k t
 have hm:(zV t:Int)*(k:Int)=((zV t*k:Nat):Int):=by simp
 have hlk:zV t*k<=t.length*k:=Nat.mul_le_mul_right _ (List.count_le_length)
 by_cases hz:t.length*k=0
 ·have hr:rep k t=[]:=List.eq_nil_of_length_eq_zero (by rw [e0,Nat.mul_comm];exact hz)
  rw [hr] at *
  rw [hz] at c3
  (repeat' ((conv=>whnf);first|refine zv (.v _) (fun w hR=>c1 w) ?_|refine zv (.v _) (fun w hR=>c3 w) ?_|refine zv (.v _) (fun w hR=>c5 w) ?_|((first|apply zb|apply za|apply zc)<;>intro h<;>try (exfalso;omega))|refine pay ?_|intro _));(all_goals (conv=>whnf))
  exact ⟨rfl⟩
 ·have hk0:0<k:=by
   rcases Nat.eq_zero_or_pos k with h|h
   ·rw [h,Nat.mul_zero] at hz;exact absurd rfl hz
   ·exact h
  have e2:zV t≠0->yf (rep k t)=yf t:=zuW hk0 t
  have e3:zV t≠0->qT (rep k t)=qT t:=zuX hk0 t
  have e4:zV t=0->yf (rep k t)=t.length*k/\qT (rep k t)=t.length*k:=fun h=>by
   have h0:zV (rep k t)=0:=by rw [e1,h,Nat.mul_zero]
   rw [zcC h0,zcD h0,e0,Nat.mul_comm];exact ⟨rfl,rfl⟩
  rw [Nat.mul_comm] at e0 e1
  unfold LM at h
  unfold wtV at *
  unfold zbT at c4
  rw [e0,e1]
  clear e0 e1
  generalize vu (rep k t)=v at *
  generalize yr (rep k t)=sc at *
  generalize yf (rep k t)=hh at *
  generalize qT (rep k t)=tt at *
  generalize t.length*k=nk at *
  generalize hlk2:zV t*k=lk at *
  generalize zV t=l at *
  have hl0:l=0->lk=0:=fun h=>by rw [←hlk2,h,Nat.zero_mul]
  (repeat' ((conv=>whnf);first|rw [hm]|refine zv (.v _) (fun w hR=>c1 w) ?_|refine zv (.v _) (fun w hR=>c3 w) ?_|refine zv (.v _) (fun w hR=>c4 w) ?_|refine xg (.v _) (fun w hR=>c1 w) ?_|refine xg (.v _) (fun w hR=>c4 w) ?_|((first|apply zb|apply za|apply zc)<;>intro h<;>try (exfalso;omega))|refine pay ?_|intro _));(all_goals (conv=>whnf))
  ·refine ⟨?_⟩
   obtain ⟨h1,h2⟩:=e4 (by omega)
   rw [h1,h2]
   exact rfl
  ·refine ⟨?_⟩
   rw [e2 (by omega),e3 (by omega)]
   exact rfl
structure Rul where
 k:Int
 l:Int
 a:Int
 b:Int
 t:Int
deriving DecidableEq
abbrev ruC (r:Rul):List Value:=[.int .i64 r.k,.int .u8 r.l,.int .i64 r.a,.int .i64 r.b,.int .i64 r.t]
abbrev ruV (r:Rul):Value:=.agg #[.int .i64 r.k,.int .u8 r.l,.int .i64 r.a,.int .i64 r.b,.int .i64 r.t]
def okR (r:Rul) (n:Int):Prop :=
 (r.k=1/\r.a=0/\r.b=0/\r.t=0/\1<=n)∨(r.k=2/\r.l=0/\r.t=0/\1<=r.a/\r.a<n/\1<=r.b/\r.b<n)∨(r.k=3/\r.l=0/\r.b=0/\2<=r.t/\1<=r.a/\r.a<n)
instance (r:Rul) (n:Int):Decidable (okR r n):=by unfold okR;exact inferInstance
def yZ (r:Rul):List Int:=if r.k=2 then [r.a,r.b] else if r.k=3 then [r.a] else []
theorem zr6 (r:Rul) (w:World):Calls Tryz.prog zdW #[ruV r] w (zlG zr 1 (yZ r).length (zt .i64 (yZ r)) w):=by
 refine zdm [.v (ruV r)] w zoz (by simp) ?_
 have e2:r.k=2->yZ r=[r.a,r.b]:=fun h=>if_pos h
 have e3:r.k=3->yZ r=[r.a]:=fun h=>by rw [yZ,if_neg (by omega),if_pos h]
 have e0:r.k≠2->r.k≠3->yZ r=[]:=fun h h'=>by rw [yZ,if_neg h,if_neg h']
 (repeat' ((conv=>whnf);first|((first|apply zb|apply za|apply zc)<;>intro h<;>try (exfalso;omega))|refine pay ?_|intro _));(all_goals (conv=>whnf))
 ·refine ⟨?_⟩
  rw [e2 (by omega)]
  exact ⟨_,_,rfl,Thin.ref (.keep rfl (fun _ h=>h) (.nil _))⟩
 ·refine ⟨?_⟩
  rw [e3 (by omega)]
  exact ⟨_,_,rfl,Thin.ref (.keep rfl (fun _ h=>h) (.nil _))⟩
 ·refine ⟨?_⟩
  rw [e0 (by omega) (by omega)]
  exact ⟨none,0,rfl,fun w' h=>(h.sub (List.nil_sublist _)).ownNil 0 zr 1⟩
theorem zoH {r:Rul} {n:Int} (h:okR r n):∀ i:Nat,i<(yZ r).length->1<=(yZ r).getD i 0/\(yZ r).getD i 0<n:=by
 intro i hi
 rcases h with ⟨h1,_⟩|⟨h1,_,_,h2,h3,h4,h5⟩|⟨h1,_,_,_,h2,h3⟩
 ·rw [yZ,if_neg (by omega),if_neg (by omega)] at hi;simp at hi
 ·rw [yZ,if_pos h1] at hi ⊢
  match i,hi with
  | 0,_=>exact ⟨h2,h3⟩
  | 1,_=>exact ⟨h4,h5⟩
 ·rw [yZ,if_neg (by omega),if_pos h1] at hi ⊢
  match i,hi with
  | 0,_=>exact ⟨h2,h3⟩
theorem zto (r:Rul):(yZ r).length<=2:=by
 unfold yZ
 split
 ·exact Nat.le_refl 2
 ·split<;>simp
end
section
open Go.EG
inductive Tm where
 | nil
 | lt (l:Nat)
 | pr (a b:Tm)
 | pw (a:Tm) (k:Nat)
deriving DecidableEq
def Tm.txt:Tm->List Nat
 | .nil=>[]
 | .lt l=>[l]
 | .pr a b=>a.txt++b.txt
 | .pw a k=>rep k a.txt
def Tm.dep:Tm->Nat
 | .nil=>0
 | .lt _=>0
 | .pr a b=>1+max a.dep b.dep
 | .pw a _=>1+a.dep
def Tm.evn:Tm->Bool
 | .nil=>true
 | .lt _=>true
 | .pr a b=>a.evn&&b.evn&&decide (a.dep<=b.dep+1)&&decide (b.dep<=a.dep+1)
 | .pw _ _=>false
def Tm.len (m:Tm):Nat:=m.txt.length
structure Entr where
 r:Rul
 m:Tm
def vO:Entr:=⟨⟨0,0,0,0,0⟩,.nil⟩
def atE (E:List Entr) (n:Int):Entr:=if n<=0 then vO else E.getD (n.toNat - 1) vO
def tm (E:List Entr) (n:Int):Tm:=(atE E n).m
def mkT (E:List Entr) (r:Rul):Tm:=if r.k=1 then .lt r.l.toNat else if r.k=2 then .pr (tm E r.a) (tm E r.b) else .pw (tm E r.a) r.t.toNat
def mkE (E:List Entr) (r:Rul):Entr:=⟨r,mkT E r⟩
def idx (r:Rul):Nat->List Entr->Nat
 | _,[]=>0
 | i,x::E=>if r=x.r then i+1 else idx r (i+1) E
abbrev yS (r:Rul) (E:List Entr):Nat:=idx r 0 E
structure Sto where
 most:Nat
 E:List Entr
abbrev uK (S:Sto) (x:Entr):Sto:=⟨S.most,S.E++[x]⟩
structure WF (S:Sto):Prop where
 most:S.most<=1048576
 len:S.E.length<=S.most
 rul:∀ i,i<S.E.length->okR (S.E.getD i vO).r (i+1)
 let_:∀ i,i<S.E.length->0<=(S.E.getD i vO).r.l/\(S.E.getD i vO).r.l<256
 tms:∀ i,i<S.E.length->(S.E.getD i vO).m=mkT S.E (S.E.getD i vO).r
 leng:∀ i,i<S.E.length->(S.E.getD i vO).m.len<=LM
 uniq:∀ i,i<S.E.length->yS (S.E.getD i vO).r S.E=i+1
def known (S:Sto) (n:Int):Prop:=0<=n/\n<=S.E.length
instance (S:Sto) (n:Int):Decidable (known S n):=by unfold known;exact inferInstance
def qo (S:Sto) (r:Rul):Sto × Int × Nat :=
 if yS r S.E=0 then (if S.most<=S.E.length then (S,0,3) else (uK S (mkE S.E r),((S.E.length+1:Nat):Int),0)) else (S,((yS r S.E:Nat):Int),0)
def zd6 (l:Nat):Rul:=⟨1,l,0,0,0⟩
def uf (i j:Int):Rul:=⟨2,0,i,j,0⟩
def uL (i k:Int):Rul:=⟨3,0,i,0,k⟩
def zf3 (S:Sto) (i j:Int):Sto × Int × Nat :=
 if ¬known S i∨¬known S j then (S,0,1)
 else if i=0 then (S,j,0)
 else if j=0 then (S,i,0)
 else if LM<(tm S.E i).len+(tm S.E j).len then (S,0,2)
 else qo S (uf i j)
def zbU (S:Sto) (i k:Int):Sto × Int × Nat :=
 if ¬known S i∨k<0 then (S,0,1)
 else if k=0∨i=0 then (S,0,0)
 else if k=1 then (S,i,0)
 else if LM<(tm S.E i).len*k.toNat then (S,0,2)
 else qo S (uL i k)
theorem zgV (E:List Entr) (i:Nat):atE E ((i:Int)+1)=E.getD i vO:=by
 unfold atE
 rw [if_neg (by omega),show ((i:Int)+1).toNat - 1=i by omega]
theorem zrh {E:List Entr} {n:Int} (h:0<n):atE E n=E.getD (n.toNat - 1) vO:=if_neg (by omega)
theorem zri (E:List Entr):tm E 0=.nil:=rfl
theorem qY {α:Type} {l l':List α} {i:Nat} {d:α} (h:i<l.length):(l++l').getD i d=l.getD i d:=by
 simp [g1q,List.getElem?_append,h]
theorem zkV {E E':List Entr} {n:Int} (h:n<=E.length):atE (E++E') n=atE E n:=by
 unfold atE
 split
 ·rfl
 ·rw [qY (by omega)]
theorem zcF {E E':List Entr} {n:Int} (h:n<=E.length):tm (E++E') n=tm E n:=by unfold tm;rw [zkV h]
theorem zkW {E E':List Entr} {r:Rul} {n:Int} (h:okR r (n+1)) (hn:n<=E.length):mkT (E++E') r=mkT E r:=by
 unfold mkT
 rcases h with h|⟨h1,h2,h3,h4,h5,h6,h7⟩|⟨h1,h2,h3,h4,h5,h6⟩
 ·rw [if_pos h.1,if_pos h.1]
 ·rw [if_neg (by omega),if_pos h1,if_neg (by omega),if_pos h1,zcF (by omega),zcF (by omega)]
 ·rw [if_neg (by omega),if_neg (by omega),if_neg (by omega),if_neg (by omega),zcF (by omega)]
theorem zkX {r:Rul}:∀ {E:List Entr} {i:Nat},idx r i E≠0->∀ E',idx r i (E++E')=idx r i E
 | [],_,h,_=>absurd rfl h
 | x :: E,i,h,E' => by
   simp only [List.cons_append,idx] at h ⊢
   split
   ·rfl
   ·rename_i hr
    rw [if_neg hr] at h
    exact zkX h E'
theorem zoI {r:Rul}:∀ {E:List Entr} {i:Nat},idx r i E=0->∀ {E':List Entr},idx r i (E++E')=idx r (i+E.length) E'
 | [],i,_,E'=>by simp
 | x :: E,i,h,E' => by
   simp only [idx] at h
   split at h
   ·omega
   ·rename_i hr
    simp only [List.cons_append,idx,if_neg hr,List.length_cons]
    rw [zoI h]
    congr 1
    omega
theorem ztp {r:Rul}:∀ {E:List Entr} {i:Nat},idx r i E<=i+E.length
 | [],_=>by simp [idx]
 | x :: E,i => by
   simp only [idx,List.length_cons]
   split
   ·omega
   ·have:=ztp (r:=r) (E:=E) (i:=i+1);omega
theorem zoJ {r:Rul}:∀ {E:List Entr} {i:Nat},idx r i E≠0->i<idx r i E/\(E.getD (idx r i E - 1 - i) vO).r=r
 | [],_,h=>absurd rfl h
 | x :: E,i,h => by
   by_cases hr:r=x.r
   ·have e:idx r i (x::E)=i+1:=if_pos hr
    rw [e]
    refine ⟨by omega,?_⟩
    rw [show i+1 - 1 - i=0 by omega]
    exact hr.symm
   ·have e:idx r i (x::E)=idx r (i+1) E:=if_neg hr
    rw [e] at h ⊢
    have ⟨h1,h2⟩:=zoJ h
    refine ⟨by omega,?_⟩
    rw [show idx r (i+1) E - 1 - i=(idx r (i+1) E - 1 - (i+1))+1 by omega,List.getD_cons_succ]
    exact h2
theorem zwu {r:Rul} {E:List Entr} (h:yS r E≠0):(atE E (yS r E)).r=r/\yS r E<=E.length:=by
 have h1:=zoJ h
 have h2:=ztp (r:=r) (E:=E) (i:=0)
 refine ⟨?_,by unfold yS;omega⟩
 rw [zrh (by unfold yS;omega)]
 have:((yS r E:Nat):Int).toNat - 1=idx r 0 E - 1 - 0:=by unfold yS;omega
 rw [this]
 exact h1.2
section
variable {S:Sto} (h:WF S)
theorem WF.at_ {n:Int} (h:WF S) (h0:1<=n) (h1:n<=S.E.length):okR (atE S.E n).r n/\(0<=(atE S.E n).r.l/\(atE S.E n).r.l<256)/\tm S.E n=mkT S.E (atE S.E n).r/\(tm S.E n).len<=LM/\yS (atE S.E n).r S.E=n.toNat:=by
 rw [show tm S.E n=(atE S.E n).m from rfl,zrh (by omega)]
 have hi:n.toNat - 1<S.E.length:=by omega
 refine ⟨?_,h.let_ _ hi,h.tms _ hi,h.leng _ hi,?_⟩
 ·have:=h.rul _ hi
  rwa [show ((n.toNat - 1:Nat):Int)+1=n by omega] at this
 ·rw [h.uniq _ hi];omega
theorem WF.le {n:Int} (h:WF S) (h1:n<=S.E.length):(tm S.E n).len<=LM:=by
 by_cases h0:n<=0
 ·rw [tm,atE,if_pos h0];exact Nat.zero_le _
 ·exact (h.at_ (by omega) h1).2.2.2.1
theorem ziR (k:Nat) (t:List Nat):(rep k t).length=k*t.length:=qL k t
theorem WF.pos (h:WF S):∀ (k:Nat) (n:Int),n=k->1<=n->n<=S.E.length->1<=(tm S.E n).len/\(tm S.E n).dep<k:=by
 intro k
 induction k using Nat.strongRecOn with
 | ind k ih =>
   intro n hk h0 h1
   obtain ⟨hr,_,ht,_⟩:=h.at_ h0 h1
   rw [ht]
   unfold mkT
   rcases hr with hr|⟨h1',h2',h3',h4',h5',h6',h7'⟩|⟨h1',h2',h3',h4',h5',h6'⟩
   ·rw [if_pos hr.1];exact ⟨Nat.le_refl 1,by simp only [Tm.dep];omega⟩
   ·rw [if_neg (by omega),if_pos h1']
    have i1:=ih (atE S.E n).r.a.toNat (by omega) (atE S.E n).r.a (by omega) h4' (by omega)
    have i2:=ih (atE S.E n).r.b.toNat (by omega) (atE S.E n).r.b (by omega) h6' (by omega)
    refine ⟨?_,?_⟩
    ·have:=i1.1
     unfold Tm.len at this ⊢
     rw [Tm.txt,g6q];omega
    ·simp only [Tm.dep];omega
   ·rw [if_neg (by omega),if_neg (by omega)]
    have i1:=ih (atE S.E n).r.a.toNat (by omega) (atE S.E n).r.a (by omega) h5' (by omega)
    refine ⟨?_,?_⟩
    ·have:=i1.1
     unfold Tm.len at this ⊢
     rw [Tm.txt,ziR]
     exact Nat.mul_pos (by omega) this
    ·simp only [Tm.dep];omega
theorem WF.pos1 {n:Int} (h:WF S) (h0:1<=n) (h1:n<=S.E.length):1<=(tm S.E n).len:=(h.pos n.toNat n (by omega) h0 h1).1
theorem WF.dep {n:Int} (h:WF S) (h1:n<=S.E.length):(tm S.E n).dep<=1048576:=by
 by_cases h0:n<=0
 ·rw [tm,atE,if_pos h0];exact Nat.zero_le _
 ·have:=(h.pos n.toNat n (by omega) (by omega) h1).2
  have:=h.most
  have:=h.len
  omega
theorem WF.small (h:WF S):S.E.length<=1048576:=Nat.le_trans h.len h.most
end
structure Fit (S:Sto) (r:Rul):Prop where
 ok:okR r (S.E.length+1)
 let_:0<=r.l/\r.l<256
 len:(mkT S.E r).len<=LM
theorem zoK {α:Type} {l:List α} {x d:α} {i:Nat} (h:i<l.length):(l++[x]).getD i d=l.getD i d:=qY h
theorem WF.add {S:Sto} {r:Rul} (h:WF S) (hr:Fit S r) (hn:yS r S.E=0) (hm:S.E.length<S.most):WF (uK S (mkE S.E r)):=by
 have key:∀ i,i<(S.E++[mkE S.E r]).length->(i<S.E.length/\(S.E++[mkE S.E r]).getD i vO=S.E.getD i vO)∨(i=S.E.length/\(S.E++[mkE S.E r]).getD i vO=mkE S.E r):=fun i hi=>by
  rw [g6q] at hi
  simp only [List.length_cons,List.length_nil] at hi
  by_cases h:i<S.E.length
  ·exact .inl ⟨h,zoK h⟩
  ·exact .inr ⟨by omega,jH (by omega)⟩
 refine ⟨h.most,by simp only [uK,g6q,List.length_cons,List.length_nil];omega,fun i hi=>?_,fun i hi=>?_,fun i hi=>?_,fun i hi=>?_,fun i hi=>?_⟩
 ·rcases key i hi with ⟨h1,h2⟩|⟨h1,h2⟩
  ·simp only [uK,h2];exact h.rul i h1
  ·simp only [uK,h2];rw [h1];exact hr.ok
 ·rcases key i hi with ⟨h1,h2⟩|⟨h1,h2⟩
  ·simp only [uK,h2];exact h.let_ i h1
  ·simp only [uK,h2];exact hr.let_
 ·rcases key i hi with ⟨h1,h2⟩|⟨h1,h2⟩
  ·simp only [uK,h2]
   rw [zkW (h.rul i h1) (by omega)]
   exact h.tms i h1
  ·simp only [uK,h2]
   rw [show (mkE S.E r).r=r from rfl,zkW hr.ok (by omega)];rfl
 ·rcases key i hi with ⟨h1,h2⟩|⟨h1,h2⟩
  ·simp only [uK,h2];exact h.leng i h1
  ·simp only [uK,h2];exact hr.len
 ·rcases key i hi with ⟨h1,h2⟩|⟨h1,h2⟩
  ·simp only [uK,h2]
   have:=h.uniq i h1
   unfold yS at this ⊢
   rw [zkX (by omega)];exact this
  ·simp only [uK,h2]
   rw [h1]
   unfold yS at hn ⊢
   rw [show (mkE S.E r).r=r from rfl,zoI hn]
   simp [idx,mkE]
theorem WF.new (most:Nat) (h:most<=1048576):WF ⟨most,[]⟩:=by
 refine ⟨h,Nat.zero_le _,?_,?_,?_,?_,?_⟩<;>(intro i hi;exact absurd hi (Nat.not_lt_zero _))
def Grow (S S':Sto):Prop:=∃ E',S'=⟨S.most,S.E++E'⟩
theorem Grow.refl (S:Sto):Grow S S:=⟨[],by simp⟩
theorem Grow.trans {S S' S'':Sto} (h:Grow S S') (k:Grow S' S''):Grow S S'':=by
 obtain ⟨E',rfl⟩:=h
 obtain ⟨E'',rfl⟩:=k
 exact ⟨E'++E'',by simp⟩
theorem Grow.tm {S S':Sto} (h:Grow S S') {n:Int} (hn:n<=S.E.length):tm S'.E n=tm S.E n:=by
 obtain ⟨E',rfl⟩:=h
 exact zcF hn
theorem Grow.len {S S':Sto} (h:Grow S S'):S.E.length<=S'.E.length:=by
 obtain ⟨E',rfl⟩:=h
 simp
theorem Grow.most {S S':Sto} (h:Grow S S'):S'.most=S.most:=by
 obtain ⟨E',rfl⟩:=h
 rfl
theorem zkY {S:Sto} {r:Rul} (h:WF S) (hr:Fit S r):WF (qo S r).1/\Grow S (qo S r).1/\((qo S r).2.2=0->1<=(qo S r).2.1/\known (qo S r).1 (qo S r).2.1/\tm (qo S r).1.E (qo S r).2.1=mkT S.E r/\(atE (qo S r).1.E (qo S r).2.1).r=r)/\((qo S r).2.2≠0->(qo S r).2.2=3/\S.most<=S.E.length/\(qo S r).2.1=0)/\(qo S r).1.E.length<=S.E.length+1:=by
 unfold qo
 by_cases h0:yS r S.E=0
 ·rw [if_pos h0]
  by_cases h1:S.most<=S.E.length
  ·rw [if_pos h1]
   exact ⟨h,Grow.refl S,fun (h:(3:Nat)=0)=>absurd h (by decide),fun _=>⟨rfl,h1,rfl⟩,Nat.le_succ _⟩
  ·rw [if_neg h1]
   refine ⟨h.add hr h0 (by omega),⟨_,rfl⟩,fun _=>⟨by simp only;omega,⟨by simp only;omega,by simp [uK]⟩,?_,?_⟩,fun hn=>absurd rfl hn,by simp [uK]⟩
   ·show tm (S.E++[mkE S.E r]) ((S.E.length+1:Nat):Int)=_
    rw [tm,show ((S.E.length+1:Nat):Int)=((S.E.length:Nat):Int)+1 by omega,zgV,jH rfl];rfl
   ·show (atE (S.E++[mkE S.E r]) ((S.E.length+1:Nat):Int)).r=_
    rw [show ((S.E.length+1:Nat):Int)=((S.E.length:Nat):Int)+1 by omega,zgV,jH rfl];rfl
 ·rw [if_neg h0]
  have h1:=zwu h0
  refine ⟨h,Grow.refl S,fun _=>⟨by simp only;omega,⟨by simp only;omega,by simp only;omega⟩,?_,h1.1⟩,fun hn=>absurd rfl hn,by simp⟩
  have h2:=(h.at_ (n:=(yS r S.E:Nat)) (by omega) (by omega)).2.2.1
  rw [h1.1] at h2
  exact h2
theorem zwv (S:Sto) {l:Nat} (hl:l<256):Fit S (zd6 l):=by
 refine ⟨.inl ⟨rfl,rfl,rfl,rfl,by omega⟩,⟨by simp [zd6],by simp [zd6];omega⟩,?_⟩
 show (Tm.lt _).len<=LM
 exact (by decide:1<=LM)
theorem zu0 {S:Sto} {i j:Int} (h1:1<=i) (h2:i<=S.E.length) (h3:1<=j) (h4:j<=S.E.length) (h:(tm S.E i).len+(tm S.E j).len<=LM):Fit S (uf i j):=by
 refine ⟨.inr (.inl ⟨rfl,rfl,rfl,h1,by simp only [uf];omega,h3,by simp only [uf];omega⟩),⟨by simp [uf],by simp [uf]⟩,?_⟩
 show (Tm.pr (tm S.E i) (tm S.E j)).len<=LM
 unfold Tm.len at *
 rw [Tm.txt,g6q];exact h
theorem zrj {S:Sto} {i k:Int} (h1:1<=i) (h2:i<=S.E.length) (h3:2<=k) (h:(tm S.E i).len*k.toNat<=LM):Fit S (uL i k):=by
 refine ⟨.inr (.inr ⟨rfl,rfl,rfl,h3,h1,by simp only [uL];omega⟩),⟨by simp [uL],by simp [uL]⟩,?_⟩
 show (Tm.pw (tm S.E i) k.toNat).len<=LM
 unfold Tm.len at *
 rw [Tm.txt,ziR,Nat.mul_comm];exact h
end
section
open Go.EG
attribute [local irreducible] z8 yN Go.Calls
set_option maxRecDepth 20000
abbrev zh7 (x:Entr):List Value:=[.int .i64 x.r.k,.int .u8 x.r.l,.int .i64 x.r.a,.int .i64 x.r.b,.int .i64 x.r.t,.int .i64 x.m.txt.length,.int .i64 (zV x.m.txt),.int .i64 (yf x.m.txt),.int .i64 (qT x.m.txt),.int .u64 (vu x.m.txt),.int .u64 (yr x.m.txt),.int .i64 x.m.dep,.bool x.m.evn]
abbrev zoL (x:Entr):Value:=.agg #[.int .i64 x.r.k,.int .u8 x.r.l,.int .i64 x.r.a,.int .i64 x.r.b,.int .i64 x.r.t,.int .i64 x.m.txt.length,.int .i64 (zV x.m.txt),.int .i64 (yf x.m.txt),.int .i64 (qT x.m.txt),.int .u64 (vu x.m.txt),.int .u64 (yr x.m.txt),.int .i64 x.m.dep,.bool x.m.evn]
def zd7 (E:List Entr):List Value:=E.flatMap zh7
theorem ztq (E:List Entr) (x:Entr):zd7 E++zh7 x=zd7 (E++[x]):=by simp [zd7]
theorem zl7:∀ {E:List Entr} {i:Nat},i<E.length->((zd7 E).drop (i*13)).take 13=zh7 (E.getD i vO)
 | x::E,0,_=>by simp [zd7,zh7]
 | x :: E,i + 1,h => by
   have ih:=zl7 (E:=E) (i:=i) (by simpa using h)
   have e1:zd7 (x::E)=zh7 x++zd7 E:=by simp [zd7]
   rw [e1,show (i+1)*13=(zh7 x).length+i*13 by simp [zh7];omega,←List.drop_drop,List.drop_left]
   simpa using ih
def zfi:Nat->List Entr->List (Value × Value)
 | _,[]=>[]
 | i,x::E=>(ruV x.r,.int .i64 ((i+1:Nat):Int))::zfi (i+1) E
abbrev zkx (E:List Entr):List (Value × Value):=zfi 0 E
abbrev kkR:KK:=.agg [.int .i64,.int .u8,.int .i64,.int .i64,.int .i64]
def fS (b:Nat) (S:Sto) (x:Option Addr × Nat × Nat):List Ent :=
 [.box 1000 b [.int .i64 S.most,.slice x.1 S.E.length x.2.1,.map (some x.2.2)] zbg,.own 1001 x.1 S.E.length x.2.1 qS 13 (zd7 S.E),.mapE 1002 x.2.2 kkR (zkx S.E)]
theorem zdr (b:Nat) (S:Sto) (a:Option Addr) (c mb:Nat):fS b S (a,c,mb)=[.box 1000 b [.int .i64 S.most,.slice a S.E.length c,.map (some mb)] zbg,.own 1001 a S.E.length c qS 13 (zd7 S.E),.mapE 1002 mb kkR (zkx S.E)]:=rfl
def zu1 (key b:Nat) (S:Sto) (r v:Value) (L1:List Ent):Prop:=v=r/\∃ fp',L1=[packE key fp' (fS b S)]
abbrev StR (w:World) (key:Nat) (fp:List Nat) (b:Nat) (S:Sto):Prop:=R w fp [packE key fp (fS b S)] w
theorem zgW {key b:Nat} {S:Sto} {r v:Value} {w0:World} {fp0:List Nat} {L:List Ent} (a:Option Addr) (c mb:Nat) (h:Thin L (fS b S (a,c,mb))) (hv:v=r):∃ L1,Ref w0 fp0 L L1/\zu1 key b S r v L1 :=
 ⟨_,Ref.pack (a,c,mb) h,hv,_,rfl⟩
theorem StR.key {w:World} {key fp b S} (h:StR w key fp b S) (k':Nat):StR w k' fp b S:=(Thin.packE (.nil [])).ref w h
theorem qe {key k' b:Nat} {fp'':List Nat} {S:Sto} {r v:Value} {w0:World} {fp0:List Nat} {L:List Ent} (h:Thin L [packE k' fp'' (fS b S)]) (hv:v=r):∃ L1,Ref w0 fp0 L L1/\zu1 key b S r v L1 :=
 ⟨[packE key fp'' (fS b S)],fun w hR=>(Thin.packE (.nil [])).ref w (h.ref w hR),hv,_,rfl⟩
def SC (f:Nat) (args:Array Value) (b:Nat) (S S':Sto) (r:Value):Prop :=
 ∀ (key:Nat) (fp:List Nat) (w:World),StR w key fp b S->Calls Tryz.prog f args w fun e w'=>∃ v L1,e=.returned v/\R w fp L1 w'/\zu1 key b S' r v L1
theorem SC.go {f:Nat} {args:List Value} {b:Nat} {S S':Sto} {r:Value} {w0:World} {fp0 fp:List Nat} {L Lr:List Ent} {k:SV->List Ent->Prop} (key:Nat) (h:SC f args.toArray b S S' r) (hp:zax key L=some (packE key fp (fS b S),Lr)) (hk:∀ fp',k (.v r) ([packE key fp' (fS b S')]++Lr)):z8 Tryz.prog w0 fp0 f args L k :=
 qx hp (fun w hR h0=>h _ _ _ h0) (by rintro _ _ ⟨rfl,fp',rfl⟩;exact ⟨.v _,rfl,hk fp'⟩)
abbrev pS (b:Nat):Value:=.pointer (some ⟨b,0,none⟩)
def zxC:Nat->Value
 | 0=>.nilIface
 | n+1=>jK ((n+1:Nat):Int)
def zr7 (p:Int × Nat):Value:=.tuple #[.int .i64 p.1,zxC p.2]
theorem zjo (b:Nat) (S:Sto) (n:Int) :
 SC zY #[pS b,.int .i64 n] b S S (.bool (decide (0<=n/\n<=S.E.length))):=by
 intro key fp w hR
 refine zaX [.ptr 1000 b 0,.v (.int .i64 n)] zet (by simp) hR ?_
 rintro ⟨a,c,mb⟩ hfp hR'
 rw [zdr]
 (repeat' ((conv=>whnf);first|refine zg ?_|((first|apply zb|apply za|apply zc)<;>intro h<;>try (exfalso;omega))|refine pay ?_|intro _));(all_goals (conv=>whnf))
 all_goals (refine ⟨zgW a c mb (.refl _) ?_⟩;congr 1;simp;omega)
theorem zds (b:Nat) (S:Sto) :
 SC yo #[pS b] b S S (.int .i64 S.E.length):=by
 intro key fp w hR
 refine zaX [.ptr 1000 b 0] zfX (by simp) hR ?_
 rintro ⟨a,c,mb⟩ hfp hR'
 rw [zdr]
 (repeat' ((conv=>whnf);first|refine zg ?_|((first|apply zb|apply za|apply zc)<;>intro h<;>try (exfalso;omega))|refine pay ?_|intro _));(all_goals (conv=>whnf))
 all_goals (exact ⟨zgW a c mb (.refl _) rfl⟩)
theorem ztr (b:Nat) (S:Sto) :
 SC qk #[pS b,.int .i64 0] b S S (zoL vO):=by
 intro key fp w hR
 refine zaX [.ptr 1000 b 0,.v (.int .i64 0)] zbh (by simp) hR ?_
 rintro ⟨a,c,mb⟩ hfp hR'
 rw [zdr]
 (repeat' ((conv=>whnf);first|refine zg ?_|refine zv (.v _) (fun w hR=>zjn w) ?_|((first|apply zb|apply za|apply zc)<;>intro h<;>try (exfalso;omega))|refine pay ?_|intro _));(all_goals (conv=>whnf))
 all_goals (exact ⟨zgW a c mb (.skip (.refl _)) rfl⟩)
theorem zu2 (b:Nat) (S:Sto) (i:Nat) (hi:i<S.E.length) (hE:S.E.length<=1048576) :
 SC qk #[pS b,.int .i64 ((i:Int)+1)] b S S (zoL (S.E.getD i vO)):=by
 intro key fp w hR
 refine zaX [.ptr 1000 b 0,.v (.int .i64 ((i:Int)+1))] zbh (by simp) hR ?_
 rintro ⟨a,c,mb⟩ hfp hR'
 rw [zdr] at hR' ⊢
 have hne:=xZ (key:=1001) hR' rfl (by omega)
 have e1:((i:Int)+1 - 1).toNat=i:=by omega
 have hat:=zl7 hi
 (repeat' ((conv=>whnf);first|refine zg ?_|rw [e1]|refine ⟨zh7 (S.E.getD i vO),rfl,Rd.own (key:=1001) rfl (Nat.succ_pos _) hat,?_⟩|((first|apply zb|apply za|apply zc)<;>intro h<;>try (exfalso;omega))|refine pay ?_|refine And.intro (by first|exact hne) ?_|intro _));(all_goals (conv=>whnf))
 all_goals (exact ⟨zgW a c mb (.skip (.refl _)) rfl⟩)
theorem ruV_inj {r r':Rul}:y9 (ruV r) (ruV r')=true↔r=r':=by
 obtain ⟨k,l,a,b,t⟩:=r
 obtain ⟨k',l',a',b',t'⟩:=r'
 simp [y9,zW]
theorem zoM (r:Rul):qj kkR (ruV r):=⟨_,rfl,⟨⟨rfl,rfl⟩,⟨rfl,rfl⟩,⟨rfl,rfl⟩,⟨rfl,rfl⟩,⟨rfl,rfl⟩,trivial⟩⟩
theorem zoN (r:Rul):∀ (E:List Entr) (i:Nat),uE (zfi i E) (ruV r)=if idx r i E=0 then none else some (.int .i64 (idx r i E))
 | [],i=>rfl
 | x :: E,i => by
   simp only [zfi,uE]
   by_cases h:r=x.r
   ·have hi:idx r i (x::E)=i+1:=if_pos h
    rw [if_pos (ruV_inj.2 h),hi,if_neg (by omega)]
   ·have hi:idx r i (x::E)=idx r (i+1) E:=if_neg h
    rw [if_neg (fun hk=>h (ruV_inj.1 hk)),hi]
    exact zoN r E (i+1)
theorem zoO (r:Rul) (u:Value):∀ (E:List Entr) (i:Nat),idx r i E=0->uF (zfi i E) (ruV r) u=zfi i E++[(ruV r,u)]
 | [],i,_=>rfl
 | x :: E,i,h => by
   simp only [idx] at h
   split at h
   ·omega
   ·rename_i hr
    simp only [zfi,uF,if_neg (fun hk=>hr (ruV_inj.1 hk)),zoO r u E (i+1) h,List.cons_append]
theorem zmJ (x:Entr):∀ (E:List Entr) (i:Nat),zfi i E++[(ruV x.r,.int .i64 ((i+E.length+1:Nat):Int))]=zfi i (E++[x])
 | [],i=>rfl
 | y :: E,i => by
   have ih:=zmJ x E (i+1)
   rw [show i+1+E.length+1=i+(y::E).length+1 by rw [List.length_cons];omega] at ih
   simp only [zfi,List.cons_append]
   rw [←ih]
def zeP (S:Sto) (r:Rul):Value :=
 if yS r S.E=0 then (if S.most<=S.E.length then .tuple #[.int .i64 0,jK 3] else .tuple #[.int .i64 0,.nilIface]) else .tuple #[.int .i64 (yS r S.E),.nilIface]
theorem zgX (b:Nat) (S:Sto) (r:Rul) :
 SC yF #[pS b,ruV r] b S S (zeP S r):=by
 intro key fp w hR
 refine zaX [.ptr 1000 b 0,.v (ruV r)] ze9 (by simp) hR ?_
 rintro ⟨a,c,mb⟩ hfp hR'
 rw [zdr] at hR' ⊢
 have hm:=zoN r S.E 0
 have hk:=zoM r
 unfold zeP
 by_cases h0:yS r S.E=0
 ·rw [if_pos h0] at hm ⊢
  (repeat' ((conv=>whnf);first|refine zfS hm ?_|refine ⟨.mp 1002 _,⟨rfl,rfl⟩,?_⟩|refine zg ?_|((first|apply zb|apply za|apply zc)<;>intro h<;>try (exfalso;omega))|refine pay ?_|refine And.intro (by first|exact ⟨rfl,rfl,hk⟩) ?_|intro _));(all_goals (conv=>whnf))
  ·refine ⟨zgW a c mb (.skip (.refl _)) ?_⟩
   rw [if_pos (by omega)];rfl
  ·refine ⟨zgW a c mb (.skip (.refl _)) ?_⟩
   rw [if_neg (by omega)]
 ·rw [if_neg h0] at hm ⊢
  (repeat' ((conv=>whnf);first|refine j6 hm ?_|refine ⟨.mp 1002 _,⟨rfl,rfl⟩,?_⟩|refine zg ?_|((first|apply zb|apply za|apply zc)<;>intro h<;>try (exfalso;omega))|refine pay ?_|refine And.intro (by first|exact ⟨rfl,rfl,hk⟩) ?_|intro _));(all_goals (conv=>whnf))
  exact ⟨zgW a c mb (.skip (.refl _)) rfl⟩
theorem zh8 (b:Nat) (S:Sto) (x:Entr) (hx:yS x.r S.E=0) (hE:S.E.length<=1048576) :
 SC yp #[pS b,zoL x] b S (uK S x) (.int .i64 (S.E.length+1:Nat)):=by
 intro key fp w hR
 refine zaX [.ptr 1000 b 0,.v (zoL x)] zfV (by simp) hR ?_
 rintro ⟨a,c,mb⟩ hfp hR'
 rw [zdr] at hR' ⊢
 have hm:=zoO x.r (.int .i64 ((S.E.length+1:Nat):Int)) S.E 0 hx
 have hk:=zoM x.r
 have hs:=zmJ x S.E 0
 rw [Nat.zero_add] at hs
 rw [hs] at hm
 have hsn:=ztq S.E x
 (repeat' ((conv=>whnf);first|rw [hm]|rw [hsn]|refine ⟨.sl 1001 _ _ _,⟨rfl,rfl,rfl,rfl⟩,?_⟩|refine ⟨.mp 1002 _,⟨rfl,rfl⟩,?_⟩|refine zg ?_|((first|apply zb|apply za|apply zc)<;>intro h<;>try (exfalso;omega))|refine pay ?_|refine And.intro (by first|exact ⟨rfl,rfl,hk⟩|exact ⟨by omega,by unfold maxLen;omega⟩|exact ⟨by unfold maxLen;omega,by omega⟩) ?_|intro _));(all_goals (conv=>whnf))
 rename_i b3 b12 a' c'
 have hlen:(S.E++[x]).length=S.E.length+1:=by simp
 refine ⟨zgW a' c' mb (.skip (.skip ?_)) rfl⟩
 rw [zdr]
 simp only [hlen]
 exact Thin.refl _
theorem yI (b:Nat) (S:Sto) {n:Int} (h:known S n):SC zY #[pS b,.int .i64 n] b S S (.bool true):=by
 have c:=zjo b S n
 rwa [decide_eq_true (by exact h)] at c
theorem jM (b:Nat) (S:Sto) {n:Int} (h:¬known S n):SC zY #[pS b,.int .i64 n] b S S (.bool false):=by
 have c:=zjo b S n
 rwa [decide_eq_false (by exact h)] at c
theorem ux (b:Nat) (S:Sto) {n:Int} (h:known S n) (hE:S.E.length<=1048576):SC qk #[pS b,.int .i64 n] b S S (zoL (atE S.E n)):=by
 by_cases h0:n=0
 ·subst h0
  exact ztr b S
 ·have h1:=h.1
  have h2:=h.2
  obtain ⟨i,rfl⟩:∃ i:Nat,n=(i:Int)+1:=⟨n.toNat - 1,by omega⟩
  rw [zgV]
  exact zu2 b S i (by omega) hE
theorem zgY {S:Sto} {r:Rul} (h:yS r S.E=0) (h1:S.most<=S.E.length):qo S r=(S,0,3):=by rw [qo,if_pos h,if_pos h1]
theorem zh9 {S:Sto} {r:Rul} (h:yS r S.E=0) (h1:¬S.most<=S.E.length):qo S r=(uK S (mkE S.E r),((S.E.length+1:Nat):Int),0):=by rw [qo,if_pos h,if_neg h1]
theorem zia {S:Sto} {r:Rul} (h:yS r S.E≠0):qo S r=(S,((yS r S.E:Nat):Int),0):=by rw [qo,if_neg h]
theorem zgZ {S:Sto} {r:Rul} (h:yS r S.E=0) (h1:S.most<=S.E.length):zeP S r=.tuple #[.int .i64 0,jK 3]:=by rw [zeP,if_pos h,if_pos h1]
theorem zib {S:Sto} {r:Rul} (h:yS r S.E=0) (h1:¬S.most<=S.E.length):zeP S r=.tuple #[.int .i64 0,.nilIface]:=by rw [zeP,if_pos h,if_neg h1]
theorem zic {S:Sto} {r:Rul} (h:yS r S.E≠0):zeP S r=.tuple #[.int .i64 (yS r S.E:Nat),.nilIface]:=by rw [zeP,if_neg h]
theorem zid (b:Nat) (S:Sto) (l:Nat) (hl:l<256) (hE:S.E.length<=1048576):SC xh #[pS b,.int .u8 l] b S (qo S (zd6 l)).1 (zr7 (qo S (zd6 l)).2):=by
 intro key fp w hR
 refine zf [.v (pS b),.v (.int .u8 l)] zd0 (by simp) (hR.key 77) ?_
 have c1:=zgX b S (zd6 l)
 have c3:=zns l hl
 by_cases h0:yS (zd6 l) S.E=0
 ·by_cases h1:S.most<=S.E.length
  ·rw [zgZ h0 h1] at c1
   rw [zgY h0 h1]
   (repeat' ((conv=>whnf);first|refine SC.go 77 c1 rfl fun fp'=>?_|((first|apply zb|apply za|apply zc)<;>intro h<;>try (exfalso;omega))|refine pay ?_|intro _));(all_goals (conv=>whnf))
   exact ⟨qe (by (repeat (first|exact Thin.nil _|exact Thin.refl _|refine Thin.keep rfl (fun _ h=>h) ?_|refine Thin.skip ?_))) rfl⟩
  ·rw [zib h0 h1] at c1
   rw [zh9 h0 h1]
   have c2:=zh8 b S (mkE S.E (zd6 l)) h0 hE
   (repeat' ((conv=>whnf);first|refine SC.go 77 c1 rfl fun fp'=>?_|refine SC.go 77 c2 rfl fun fp'=>?_|(refine xg (.v _) (fun w hR=>c3 w) ?_)|((first|apply zb|apply za|apply zc)<;>intro h<;>try (exfalso;omega))|refine pay ?_|intro _));(all_goals (conv=>whnf))
   exact ⟨qe (by (repeat (first|exact Thin.nil _|exact Thin.refl _|refine Thin.keep rfl (fun _ h=>h) ?_|refine Thin.skip ?_))) rfl⟩
 ·rw [zic h0] at c1
  rw [zia h0]
  (repeat' ((conv=>whnf);first|refine SC.go 77 c1 rfl fun fp'=>?_|((first|apply zb|apply za|apply zc)<;>intro h<;>try (exfalso;omega))|refine pay ?_|intro _));(all_goals (conv=>whnf))
  exact ⟨qe (by (repeat (first|exact Thin.nil _|exact Thin.refl _|refine Thin.keep rfl (fun _ h=>h) ?_|refine Thin.skip ?_))) rfl⟩
theorem zxp {a b:Bool} {p q:Nat} (ha:a=true) (hb:b=true) (h:-1<=(p:Int) - (q:Int)):decide ((p:Int) - (q:Int)<=1)=(a&&b&&decide (p<=q+1)&&decide (q<=p+1)):=by
 subst ha hb
 rw [decide_eq_true (p:=q<=p+1) (by omega),Bool.and_true,Bool.true_and,Bool.true_and,decide_eq_decide]
 omega
theorem zxq {a b:Bool} {p q:Nat} (h:¬-1<=(p:Int) - (q:Int)):false=(a&&b&&decide (p<=q+1)&&decide (q<=p+1)):=by
 rw [decide_eq_false (p:=q<=p+1) (by omega),Bool.and_false]
theorem zxr {a b:Bool} {p q:Nat} (h:b=false):false=(a&&b&&decide (p<=q+1)&&decide (q<=p+1)):=by
 subst h;simp
theorem zxs {a b:Bool} {p q:Nat} (h:a=false):false=(a&&b&&decide (p<=q+1)&&decide (q<=p+1)):=by
 subst h;simp
theorem zoP (b:Nat) (S:Sto) (i j:Int) (hi:known S i) (hj:known S j) (hi0:i≠0) (hj0:j≠0) (hE:S.E.length<=1048576) (hl:(tm S.E i).len+(tm S.E j).len<=LM) (hd:(tm S.E i).dep<=1048576) (hd':(tm S.E j).dep<=1048576) :
 SC zU #[pS b,.int .i64 i,.int .i64 j] b S (qo S (uf i j)).1 (zr7 (qo S (uf i j)).2):=by
 intro key fp w hR
 refine zf [.v (pS b),.v (.int .i64 i),.v (.int .i64 j)] yH (by simp) (hR.key 77) ?_
 have c1:=zgX b S (uf i j)
 have c3:=yI b S hi
 have c4:=yI b S hj
 have c5:=ux b S hi hE
 have c6:=ux b S hj hE
 have hpe:mkE S.E (uf i j)=⟨uf i j,.pr (tm S.E i) (tm S.E j)⟩:=rfl
 unfold tm at *
 generalize atE S.E i=x at *
 generalize atE S.E j=y at *
 unfold Tm.len at hl
 have c7:=zbi x.m.txt.length y.m.txt.length (by omega) (by omega)
 rw [show zgT x.m.txt.length y.m.txt.length=.tuple #[.int .i64 ((x.m.txt.length+y.m.txt.length:Nat):Int),.nilIface] from if_pos hl] at c7
 have c8:=zqr x.m.txt y.m.txt hl
 by_cases h0:yS (uf i j) S.E=0
 ·by_cases h1:S.most<=S.E.length
  ·rw [zgZ h0 h1] at c1
   rw [zgY h0 h1]
   (repeat' ((conv=>whnf);first|refine SC.go 77 c1 rfl fun fp'=>?_|refine SC.go 77 c3 rfl fun fp'=>?_|refine SC.go 77 c4 rfl fun fp'=>?_|refine SC.go 77 c5 rfl fun fp'=>?_|refine SC.go 77 c6 rfl fun fp'=>?_|(first|refine puK c7 ?_|refine quK c7 ?_)|((first|apply zb|apply za|apply zc)<;>intro h<;>try (exfalso;omega))|refine pay ?_|intro _));(all_goals (conv=>whnf))
   exact ⟨qe (by (repeat (first|exact Thin.nil _|exact Thin.refl _|refine Thin.keep rfl (fun _ h=>h) ?_|refine Thin.skip ?_))) rfl⟩
  ·rw [zib h0 h1] at c1
   rw [zh9 h0 h1,hpe]
   have c2:∀ (d':Int) (e':Bool),d'=((1+max x.m.dep y.m.dep:Nat):Int)->e'=(x.m.evn&&y.m.evn&&decide (x.m.dep<=y.m.dep+1)&&decide (y.m.dep<=x.m.dep+1))->SC yp #[pS b,.agg #[.int .i64 2,.int .u8 0,.int .i64 i,.int .i64 j,.int .i64 0,.int .i64 (x.m.txt++y.m.txt).length,.int .i64 (zV (x.m.txt++y.m.txt)),.int .i64 (yf (x.m.txt++y.m.txt)),.int .i64 (qT (x.m.txt++y.m.txt)),.int .u64 (vu (x.m.txt++y.m.txt)),.int .u64 (yr (x.m.txt++y.m.txt)),.int .i64 d',.bool e']] b S (uK S ⟨uf i j,.pr x.m y.m⟩) (.int .i64 (S.E.length+1:Nat)):=fun d' e' h1 h2=>by subst h1 h2;exact zh8 b S ⟨uf i j,.pr x.m y.m⟩ h0 hE
   (repeat' ((conv=>whnf);first|refine SC.go 77 c1 rfl fun fp'=>?_|(refine qx (key:=77) rfl (fun w hR h0=>c2 _ _ (by omega) (by first|exact zxp (by assumption) (by assumption) (by assumption)|exact zxq (by assumption)|exact zxr (by assumption)|exact zxs (by assumption)) _ _ _ h0) ?_;rintro _ _ ⟨rfl,fp',rfl⟩;refine ⟨.v _,rfl,?_⟩)|refine SC.go 77 c3 rfl fun fp'=>?_|refine SC.go 77 c4 rfl fun fp'=>?_|refine SC.go 77 c5 rfl fun fp'=>?_|refine SC.go 77 c6 rfl fun fp'=>?_|(first|refine puK c7 ?_|refine quK c7 ?_)|(first|refine puK c8 ?_|refine quK c8 ?_)|((first|apply zb|apply za|apply zc)<;>intro h<;>try (exfalso;omega))|refine pay ?_|intro _));(all_goals (conv=>whnf))
   all_goals (exact ⟨qe (by (repeat (first|exact Thin.nil _|exact Thin.refl _|refine Thin.keep rfl (fun _ h=>h) ?_|refine Thin.skip ?_))) rfl⟩)
 ·rw [zic h0] at c1
  rw [zia h0]
  (repeat' ((conv=>whnf);first|refine SC.go 77 c1 rfl fun fp'=>?_|refine SC.go 77 c3 rfl fun fp'=>?_|refine SC.go 77 c4 rfl fun fp'=>?_|refine SC.go 77 c5 rfl fun fp'=>?_|refine SC.go 77 c6 rfl fun fp'=>?_|(first|refine puK c7 ?_|refine quK c7 ?_)|((first|apply zb|apply za|apply zc)<;>intro h<;>try (exfalso;omega))|refine pay ?_|intro _));(all_goals (conv=>whnf))
  exact ⟨qe (by (repeat (first|exact Thin.nil _|exact Thin.refl _|refine Thin.keep rfl (fun _ h=>h) ?_|refine Thin.skip ?_))) rfl⟩
theorem xk (b:Nat) (S:Sto) (hw:WF S) (i j:Int):SC zU #[pS b,.int .i64 i,.int .i64 j] b S (zf3 S i j).1 (zr7 (zf3 S i j).2):=by
 unfold zf3
 have hE:=hw.small
 by_cases hu:¬known S i∨¬known S j
 ·rw [if_pos hu]
  intro key fp w hR
  refine zf [.v (pS b),.v (.int .i64 i),.v (.int .i64 j)] yH (by simp) (hR.key 77) ?_
  by_cases hi:known S i
  ·have c1:=yI b S hi
   have c2:=jM b S (by rcases hu with h|h;exact absurd hi h;exact h)
   (repeat' ((conv=>whnf);first|refine SC.go 77 c1 rfl fun fp'=>?_|refine SC.go 77 c2 rfl fun fp'=>?_|((first|apply zb|apply za|apply zc)<;>intro h<;>try (exfalso;omega))|refine pay ?_|intro _));(all_goals (conv=>whnf))
   exact ⟨qe (by (repeat (first|exact Thin.nil _|exact Thin.refl _|refine Thin.keep rfl (fun _ h=>h) ?_|refine Thin.skip ?_))) rfl⟩
  ·have c1:=jM b S hi
   (repeat' ((conv=>whnf);first|refine SC.go 77 c1 rfl fun fp'=>?_|((first|apply zb|apply za|apply zc)<;>intro h<;>try (exfalso;omega))|refine pay ?_|intro _));(all_goals (conv=>whnf))
   exact ⟨qe (by (repeat (first|exact Thin.nil _|exact Thin.refl _|refine Thin.keep rfl (fun _ h=>h) ?_|refine Thin.skip ?_))) rfl⟩
 ·rw [if_neg hu]
  have hi:known S i:=Decidable.byContradiction fun h=>hu (.inl h)
  have hj:known S j:=Decidable.byContradiction fun h=>hu (.inr h)
  have c1:=yI b S hi
  have c2:=yI b S hj
  by_cases hi0:i=0
  ·rw [if_pos hi0]
   intro key fp w hR
   refine zf [.v (pS b),.v (.int .i64 i),.v (.int .i64 j)] yH (by simp) (hR.key 77) ?_
   (repeat' ((conv=>whnf);first|refine SC.go 77 c1 rfl fun fp'=>?_|refine SC.go 77 c2 rfl fun fp'=>?_|((first|apply zb|apply za|apply zc)<;>intro h<;>try (exfalso;omega))|refine pay ?_|intro _));(all_goals (conv=>whnf))
   exact ⟨qe (by (repeat (first|exact Thin.nil _|exact Thin.refl _|refine Thin.keep rfl (fun _ h=>h) ?_|refine Thin.skip ?_))) rfl⟩
  ·rw [if_neg hi0]
   by_cases hj0:j=0
   ·rw [if_pos hj0]
    intro key fp w hR
    refine zf [.v (pS b),.v (.int .i64 i),.v (.int .i64 j)] yH (by simp) (hR.key 77) ?_
    (repeat' ((conv=>whnf);first|refine SC.go 77 c1 rfl fun fp'=>?_|refine SC.go 77 c2 rfl fun fp'=>?_|((first|apply zb|apply za|apply zc)<;>intro h<;>try (exfalso;omega))|refine pay ?_|intro _));(all_goals (conv=>whnf))
    exact ⟨qe (by (repeat (first|exact Thin.nil _|exact Thin.refl _|refine Thin.keep rfl (fun _ h=>h) ?_|refine Thin.skip ?_))) rfl⟩
   ·rw [if_neg hj0]
    by_cases hl:LM<(tm S.E i).len+(tm S.E j).len
    ·rw [if_pos hl]
     intro key fp w hR
     refine zf [.v (pS b),.v (.int .i64 i),.v (.int .i64 j)] yH (by simp) (hR.key 77) ?_
     have c5:=ux b S hi hE
     have c6:=ux b S hj hE
     have l1:=hw.le hi.2
     have l2:=hw.le hj.2
     unfold tm at *
     generalize atE S.E i=x at *
     generalize atE S.E j=y at *
     unfold Tm.len at hl l1 l2
     have c7:=zbi x.m.txt.length y.m.txt.length l1 l2
     rw [show zgT x.m.txt.length y.m.txt.length=.tuple #[.int .i64 0,jK 2] from if_neg (by omega)] at c7
     (repeat' ((conv=>whnf);first|refine SC.go 77 c1 rfl fun fp'=>?_|refine SC.go 77 c2 rfl fun fp'=>?_|refine SC.go 77 c5 rfl fun fp'=>?_|refine SC.go 77 c6 rfl fun fp'=>?_|(first|refine puK c7 ?_|refine quK c7 ?_)|((first|apply zb|apply za|apply zc)<;>intro h<;>try (exfalso;omega))|refine pay ?_|intro _));(all_goals (conv=>whnf))
     exact ⟨qe (by (repeat (first|exact Thin.nil _|exact Thin.refl _|refine Thin.keep rfl (fun _ h=>h) ?_|refine Thin.skip ?_))) rfl⟩
    ·rw [if_neg hl]
     exact zoP b S i j hi hj hi0 hj0 hE (by omega) (hw.dep hi.2) (hw.dep hj.2)
theorem zfj (b:Nat) (S:Sto) (hw:WF S) (i k:Int) (hk:k<=9223372036854775807):SC yx #[pS b,.int .i64 i,.int .i64 k] b S (zbU S i k).1 (zr7 (zbU S i k).2):=by
 unfold zbU
 have hE:=hw.small
 by_cases hi:known S i
 case neg =>
  rw [if_pos (.inl hi)]
  have c1:=jM b S hi
  intro key fp w hR
  refine zf [.v (pS b),.v (.int .i64 i),.v (.int .i64 k)] qX (by simp) (hR.key 77) ?_
  (repeat' ((conv=>whnf);first|refine SC.go 77 c1 rfl fun fp'=>?_|((first|apply zb|apply za|apply zc)<;>intro h<;>try (exfalso;omega))|refine pay ?_|intro _));(all_goals (conv=>whnf))
  exact ⟨qe (by (repeat (first|exact Thin.nil _|exact Thin.refl _|refine Thin.keep rfl (fun _ h=>h) ?_|refine Thin.skip ?_))) rfl⟩
 have c1:=yI b S hi
 by_cases hk0:k<0
 ·rw [if_pos (.inr hk0)]
  intro key fp w hR
  refine zf [.v (pS b),.v (.int .i64 i),.v (.int .i64 k)] qX (by simp) (hR.key 77) ?_
  (repeat' ((conv=>whnf);first|refine SC.go 77 c1 rfl fun fp'=>?_|((first|apply zb|apply za|apply zc)<;>intro h<;>try (exfalso;omega))|refine pay ?_|intro _));(all_goals (conv=>whnf))
  exact ⟨qe (by (repeat (first|exact Thin.nil _|exact Thin.refl _|refine Thin.keep rfl (fun _ h=>h) ?_|refine Thin.skip ?_))) rfl⟩
 ·rw [if_neg (by rintro (h|h);exact h hi;exact hk0 h)]
  by_cases hz:k=0∨i=0
  ·rw [if_pos hz]
   intro key fp w hR
   refine zf [.v (pS b),.v (.int .i64 i),.v (.int .i64 k)] qX (by simp) (hR.key 77) ?_
   (repeat' ((conv=>whnf);first|refine SC.go 77 c1 rfl fun fp'=>?_|((first|apply zb|apply za|apply zc)<;>intro h<;>try (exfalso;omega))|refine pay ?_|intro _));(all_goals (conv=>whnf))
   all_goals first|(exfalso;omega)|exact ⟨qe (by (repeat (first|exact Thin.nil _|exact Thin.refl _|refine Thin.keep rfl (fun _ h=>h) ?_|refine Thin.skip ?_))) rfl⟩
  ·rw [if_neg hz]
   by_cases h1:k=1
   ·rw [if_pos h1]
    intro key fp w hR
    refine zf [.v (pS b),.v (.int .i64 i),.v (.int .i64 k)] qX (by simp) (hR.key 77) ?_
    (repeat' ((conv=>whnf);first|refine SC.go 77 c1 rfl fun fp'=>?_|((first|apply zb|apply za|apply zc)<;>intro h<;>try (exfalso;omega))|refine pay ?_|intro _));(all_goals (conv=>whnf))
    exact ⟨qe (by (repeat (first|exact Thin.nil _|exact Thin.refl _|refine Thin.keep rfl (fun _ h=>h) ?_|refine Thin.skip ?_))) rfl⟩
   ·rw [if_neg h1]
    have l1:=hw.le hi.2
    have c5:=ux b S hi hE
    obtain ⟨k',hk'⟩:∃ k':Nat,k=k':=⟨k.toNat,by omega⟩
    have hpe:mkE S.E (uL i k)=⟨uL i k,.pw (tm S.E i) k.toNat⟩:=rfl
    have hdep:=hw.dep hi.2
    by_cases hl:LM<(tm S.E i).len*k.toNat
    ·rw [if_pos hl]
     intro key fp w hR
     refine zf [.v (pS b),.v (.int .i64 i),.v (.int .i64 k)] qX (by simp) (hR.key 77) ?_
     unfold tm at *
     generalize atE S.E i=x at *
     unfold Tm.len at hl l1
     subst hk'
     rw [g7q] at hl
     have c7:=zdq x.m.txt.length k' l1 (by omega)
     rw [show zjV x.m.txt.length k'=.tuple #[.int .i64 0,jK 2] from if_neg (by omega)] at c7
     (repeat' ((conv=>whnf);first|refine SC.go 77 c1 rfl fun fp'=>?_|refine SC.go 77 c5 rfl fun fp'=>?_|(first|refine puK c7 ?_|refine quK c7 ?_)|((first|apply zb|apply za|apply zc)<;>intro h<;>try (exfalso;omega))|refine pay ?_|intro _));(all_goals (conv=>whnf))
     exact ⟨qe (by (repeat (first|exact Thin.nil _|exact Thin.refl _|refine Thin.keep rfl (fun _ h=>h) ?_|refine Thin.skip ?_))) rfl⟩
    ·rw [if_neg hl]
     intro key fp w hR
     refine zf [.v (pS b),.v (.int .i64 i),.v (.int .i64 k)] qX (by simp) (hR.key 77) ?_
     have c2:=zgX b S (uL i k)
     unfold tm at *
     generalize atE S.E i=x at *
     unfold Tm.len at hl l1
     subst hk'
     rw [g7q] at hl hpe
     have c7:=zdq x.m.txt.length k' l1 (by omega)
     rw [show zjV x.m.txt.length k'=.tuple #[.int .i64 ((x.m.txt.length*k':Nat):Int),.nilIface] from if_pos (by omega)] at c7
     have c8:=znt x.m.txt k' (by omega) (by omega) l1
     by_cases h0:yS (uL i k') S.E=0
     ·by_cases h1:S.most<=S.E.length
      ·rw [zgZ h0 h1] at c2
       rw [zgY h0 h1]
       (repeat' ((conv=>whnf);first|refine SC.go 77 c1 rfl fun fp'=>?_|refine SC.go 77 c5 rfl fun fp'=>?_|(first|refine puK c7 ?_|refine quK c7 ?_)|refine SC.go 77 c2 rfl fun fp'=>?_|((first|apply zb|apply za|apply zc)<;>intro h<;>try (exfalso;omega))|refine pay ?_|intro _));(all_goals (conv=>whnf))
       exact ⟨qe (by (repeat (first|exact Thin.nil _|exact Thin.refl _|refine Thin.keep rfl (fun _ h=>h) ?_|refine Thin.skip ?_))) rfl⟩
      ·rw [zib h0 h1] at c2
       rw [zh9 h0 h1,hpe]
       have c3:=zh8 b S ⟨uL i k',.pw x.m k'⟩ h0 hE
       have q1:(1:Int)+(x.m.dep:Int)=((1+x.m.dep:Nat):Int):=by omega
       (repeat' ((conv=>whnf);first|rw [q1]|refine SC.go 77 c1 rfl fun fp'=>?_|refine SC.go 77 c5 rfl fun fp'=>?_|(first|refine puK c7 ?_|refine quK c7 ?_)|(first|refine puK c8 ?_|refine quK c8 ?_)|refine SC.go 77 c2 rfl fun fp'=>?_|refine SC.go 77 c3 rfl fun fp'=>?_|((first|apply zb|apply za|apply zc)<;>intro h<;>try (exfalso;omega))|refine pay ?_|intro _));(all_goals (conv=>whnf))
       exact ⟨qe (by (repeat (first|exact Thin.nil _|exact Thin.refl _|refine Thin.keep rfl (fun _ h=>h) ?_|refine Thin.skip ?_))) rfl⟩
     ·rw [zic h0] at c2
      rw [zia h0]
      (repeat' ((conv=>whnf);first|refine SC.go 77 c1 rfl fun fp'=>?_|refine SC.go 77 c5 rfl fun fp'=>?_|(first|refine puK c7 ?_|refine quK c7 ?_)|refine SC.go 77 c2 rfl fun fp'=>?_|((first|apply zb|apply za|apply zc)<;>intro h<;>try (exfalso;omega))|refine pay ?_|intro _));(all_goals (conv=>whnf))
      exact ⟨qe (by (repeat (first|exact Thin.nil _|exact Thin.refl _|refine Thin.keep rfl (fun _ h=>h) ?_|refine Thin.skip ?_))) rfl⟩
end
section
open Go.EG
def zw1:Rul:=⟨0,0,0,0,0⟩
theorem zxD {S:Sto} {r:Rul} (h:WF S) (hr:Fit S r) (hroom:S.E.length<S.most):∃ S' id,qo S r=(S',id,0)/\WF S'/\Grow S S'/\1<=id/\id<=S'.E.length/\tm S'.E id=mkT S.E r/\S'.E.length<=S.E.length+1:=by
 obtain ⟨w1,g1,h0,hn,hl⟩:=zkY h hr
 have hc:(qo S r).2.2=0:=Decidable.byContradiction fun hc=>by
  have:=(hn hc).2.1
  omega
 obtain ⟨a,b,c,d⟩:=h0 hc
 exact ⟨(qo S r).1,(qo S r).2.1,by rw [←hc],w1,g1,a,b.2,c,hl⟩
end
section
open Go.EG
attribute [local irreducible] z8 yN Go.Calls
set_option maxRecDepth 20000
def zr8 (S:Sto) (n:Int):Value:=if 1<=n/\n<=S.E.length then .tuple #[ruV (atE S.E n).r,.nilIface] else .tuple #[ruV zw1,jK 1]
theorem yy {S:Sto} {n:Int} (h:1<=n) (h':n<=S.E.length):zr8 S n=.tuple #[ruV (atE S.E n).r,.nilIface]:=if_pos ⟨h,h'⟩
theorem zts {E:List Entr} {i:Nat} (h:i<E.length):((zd7 E).drop (i*13)).take 5=ruC (E.getD i vO).r:=by
 have:=congrArg (List.take 5) (zl7 h)
 rw [List.take_take] at this
 exact this
theorem qZ (b:Nat) (S:Sto) (n:Int) (hE:S.E.length<=1048576):SC zO #[pS b,.int .i64 n] b S S (zr8 S n):=by
 intro key fp w hR
 refine zf [.ptr 1000 b 0,.v (.int .i64 n)] zfc (by simp) (hR.key 77) ?_
 by_cases hn:1<=n/\n<=S.E.length
 ·rw [yy hn.1 hn.2]
  have c1:=yI b S (n:=n) ⟨by omega,by omega⟩
  obtain ⟨i,rfl⟩:∃ i:Nat,n=(i:Int)+1:=⟨n.toNat - 1,by omega⟩
  rw [zgV]
  have e1:((i:Int)+1 - 1).toNat=i:=by omega
  have hat:=zts (E:=S.E) (i:=i) (by omega)
  (repeat' ((conv=>whnf);first|(refine zql (key:=77) rfl (fun w hR h0=>c1 _ _ _ h0) ?_;rintro ⟨a',c',mb'⟩ w' hRu;rw [zdr];refine ⟨.v _,rfl,?_⟩)|rw [e1]|refine ⟨ruC (S.E.getD i vO).r,rfl,Rd.own (key:=1001) rfl (Nat.succ_pos _) hat,?_⟩|refine zg ?_|((first|apply zb|apply za|apply zc)<;>intro h<;>try (exfalso;omega))|refine pay ?_|refine And.intro (by first|exact xZ (key:=1001) hRu rfl (by omega)) ?_|intro _));(all_goals (conv=>whnf))
  exact ⟨zgW _ _ _ (by (repeat (first|exact Thin.nil _|exact Thin.refl _|refine Thin.keep rfl (fun _ h=>h) ?_|refine Thin.skip ?_))) rfl⟩
 ·rw [show zr8 S n=.tuple #[ruV zw1,jK 1] from if_neg hn]
  by_cases h0:n=0
  ·(repeat' ((conv=>whnf);first|((first|apply zb|apply za|apply zc)<;>intro h<;>try (exfalso;omega))|refine pay ?_|intro _));(all_goals (conv=>whnf))
   exact ⟨qe (by (repeat (first|exact Thin.nil _|exact Thin.refl _|refine Thin.keep rfl (fun _ h=>h) ?_|refine Thin.skip ?_))) rfl⟩
  ·have c1:=jM b S (n:=n) (fun h=>by have:=h.1;have:=h.2;omega)
   (repeat' ((conv=>whnf);first|refine SC.go 77 c1 rfl fun fp'=>?_|((first|apply zb|apply za|apply zc)<;>intro h<;>try (exfalso;omega))|refine pay ?_|intro _));(all_goals (conv=>whnf))
   exact ⟨qe (by (repeat (first|exact Thin.nil _|exact Thin.refl _|refine Thin.keep rfl (fun _ h=>h) ?_|refine Thin.skip ?_))) rfl⟩
def zxE (key:Nat) (S:Sto) (v:Value) (L1:List Ent):Prop:=∃ b fp',v=pS b/\L1=[packE key fp' (fS b S)]
def ziS (m:Int):Nat:=(if m<0 then 0 else if m>1048576 then 1048576 else m).toNat
theorem zmK (m:Int) (key:Nat) (w:World):Calls Tryz.prog zay #[.int .i64 m] w fun e w'=>∃ v L1,e=.returned v/\R w [] L1 w'/\zxE key ⟨ziS m,[]⟩ v L1:=by
 refine zbO [.v (.int .i64 m)] znl (by simp) ?_
 have c1:=zjl m 0 1048576
 have e1:(if m<0 then 0 else if m>1048576 then 1048576 else m)=((ziS m:Nat):Int):=by unfold ziS;split;rfl;split<;>omega
 rw [e1] at c1
 (repeat' ((conv=>whnf);first|(first|refine puK c1 ?_|refine quK c1 ?_)|((first|apply zb|apply za|apply zc)<;>intro h<;>try (exfalso;omega))|refine pay ?_|intro _));(all_goals (conv=>whnf))
 rename_i mb b
 exact ⟨⟨_,(Ref.ownNil 1001 qS 13).trans ((Ref.perm (.swap _ _ _)).trans (Ref.pack (key:=key) (f:=fS b ⟨ziS m,[]⟩) (none,0,mb) (by rw [zdr];exact .keep rfl (fun _ h=>h) (.keep rfl (fun _ h=>h) (.keep rfl (fun _ h=>h) (.nil _)))))),_,_,rfl,rfl⟩⟩
theorem zci {k:IntKind} {xs:List Int} {j:Nat} {z:Int} (h:j<xs.length):zD (zt k xs) j [.int k z]=zt k (xs.set j z):=by
 unfold zD zt
 rw [List.set_eq_take_append_cons_drop,if_pos h]
 simp
set_option maxHeartbeats 1000000
end
section
open Go.EG
end
section
def runs:List Int->List (Int × Int)
 | []=>[]
 | x :: xs => match runs xs with
   | []=>[(x,1)]
   | (y,t)::r=>if x=y then (y,t+1)::r else (x,1)::(y,t)::r
theorem zeQ:∀ (xs:List Int),(runs xs).head?.map (·.1)=xs.head?
 | []=>rfl
 | x :: xs => by
   simp only [runs]
   cases h:runs xs with
   | nil=>rfl
   | cons g r =>
     obtain ⟨y,t⟩:=g
     by_cases hxy:x=y
     ·simp [hxy]
     ·simp [hxy]
theorem zfk:∀ (xs:List Int),(runs xs).length<=xs.length
 | []=>Nat.le_refl _
 | x :: xs => by
   have ih:=zfk xs
   simp only [runs]
   cases h:runs xs with
   | nil=>simp
   | cons g r =>
     obtain ⟨y,t⟩:=g
     rw [h] at ih
     by_cases hxy:x=y
     ·simp only [hxy,if_true,List.length_cons] at ih ⊢;omega
     ·simp only [hxy,if_false,List.length_cons] at ih ⊢;omega
theorem zoQ (x:Int) (ys:List Int) (h:ys.head?≠some x):∀ m:Nat,runs (List.replicate (m+1) x++ys)=(x,(m:Int)+1)::runs ys
 | 0 => by
   have h1:=zeQ ys
   simp only [List.replicate_succ,List.replicate_zero,List.cons_append,List.nil_append,runs]
   cases hr:runs ys with
   | nil=>rfl
   | cons g r =>
     obtain ⟨y,t⟩:=g
     rw [hr] at h1
     have hxy:¬x=y:=by
      rintro rfl
      exact h h1.symm
     simp [hxy]
 | m + 1 => by
   have ih:=zoQ x ys h m
   rw [List.replicate_succ,List.cons_append]
   simp only [runs]
   rw [ih]
   simp
theorem zoR (xs:List Int) (x:Int):∀ (m i:Nat),i+m<=xs.length->(∀ j,j<m->xs.getD (i+j) 0=x)->xs.drop i=List.replicate m x++xs.drop (i+m)
 | 0,i,_,_=>by simp
 | m + 1,i,hl,h => by
   have hi:i<xs.length:=by omega
   rw [List.drop_eq_getElem_cons hi,zoR xs x m (i+1) (by omega) (fun j hj=>by rw [show i+1+j=i+(j+1) from by omega];exact h _ (by omega))]
   have h0:=h 0 (by omega)
   simp only [Nat.add_zero,g1q,g2q hi,Option.getD_some] at h0
   rw [h0,List.replicate_succ,List.cons_append,show i+1+m=i+(m+1) from by omega]
theorem ztt (xs:List Int) (i:Nat):(xs.drop i).head?=xs[i]?:=by
 rw [List.head?_drop]
structure Block (xs:List Int) (i k:Nat):Prop where
 lt:i<k
 le:k<=xs.length
 all:∀ j,i<=j->j<k->xs.getD j 0=xs.getD i 0
 stop:k<xs.length->xs.getD k 0≠xs.getD i 0
theorem Block.runs {xs:List Int} {i k:Nat} (h:Block xs i k):runs (xs.drop i)=(xs.getD i 0,((k:Int) - i))::runs (xs.drop k):=by
 obtain ⟨h1,h2,h3,h4⟩:=h
 obtain ⟨m,rfl⟩:∃ m,k=i+(m+1):=⟨k - i - 1,by omega⟩
 rw [zoR xs (xs.getD i 0) (m+1) i (by omega) (fun j hj=>h3 _ (by omega) (by omega))]
 rw [zoQ]
 ·congr 2
  omega
 ·rw [ztt]
  intro he
  obtain ⟨hk,he⟩:=List.getElem?_eq_some_iff.1 he
  refine h4 hk ?_
  rw [←he]
  simp [g1q,g2q hk]
theorem zoS {xs:List Int} {i:Nat} (h:xs.length<=i):runs (xs.drop i)=[]:=by
 rw [List.drop_eq_nil_of_le h];rfl
def vv:Int->List (Int × Int)->List (Int × Int)
 | _,[]=>[]
 | o,(_,t)::r=>(if 1<t then [(o,t)] else [])++vv (o+t) r
def zK (xs:List Int):List (Int × Int):=vv 0 (runs xs)
theorem zjp:∀ (o:Int) (l:List (Int × Int)),(vv o l).length<=l.length
 | _,[]=>Nat.le_refl _
 | o,(_,t) :: r => by
   have:=zjp (o+t) r
   simp only [vv,g6q,List.length_cons]
   split<;>simp<;>omega
def xN (xs:List Int) (i:Nat):List (Int × Int):=vv i (runs (xs.drop i))
theorem zd8 (xs:List Int):xN xs 0=zK xs:=by simp [xN,zK]
theorem zfl {xs:List Int} {i:Nat} (h:xs.length<=i):xN xs i=[]:=by simp [xN,zoS h,vv]
theorem Block.str {xs:List Int} {i k:Nat} (h:Block xs i k):xN xs i=(if 1<(k:Int) - i then [((i:Int),(k:Int) - i)] else [])++xN xs k:=by
 unfold xN
 rw [h.runs]
 simp only [vv]
 rw [show (i:Int)+((k:Int) - i)=(k:Int) from by omega]
theorem Block.str1 {xs:List Int} {i k:Nat} {z:Int} (h:Block xs i k) (hz:(k:Int)=z) (h1:1<z - i) (out:List (Int × Int)):out++xN xs i=(out++[((i:Int),z - i)])++xN xs k:=by
 subst hz
 rw [h.str,if_pos h1,List.append_assoc]
theorem Block.str2 {xs:List Int} {i k:Nat} {z:Int} (h:Block xs i k) (hz:(k:Int)=z) (h1:¬1<z - i) (out:List (Int × Int)):out++xN xs i=out++xN xs k:=by
 subst hz
 rw [h.str,if_neg h1,List.nil_append]
theorem zl8 (xs:List Int) (i:Nat):(xN xs i).length<=xs.length:=by
 have h1:=zjp i (runs (xs.drop i))
 have h2:=zfk (xs.drop i)
 have h3:(xs.drop i).length<=xs.length:=by simp
 unfold xN
 omega
def pick (p:Nat->Bool):Nat->List Int
 | 0=>[]
 | i+1=>pick p i++if p i then [(i:Int)] else []
theorem zfm (p:Nat->Bool):∀ i,(pick p i).length<=i
 | 0=>Nat.le_refl _
 | i + 1 => by
   have:=zfm p i
   simp only [pick,g6q]
   split<;>simp<;>omega
theorem zg0 {p q:Nat->Bool}:∀ {i:Nat},(∀ j,j<i->p j=q j)->pick p i=pick q i
 | 0,_=>rfl
 | i+1,h=>by simp only [pick];rw [zg0 (fun j hj=>h j (by omega)),h i (by omega)]
theorem zmL {p:Nat->Bool} (h:∀ j,p j=false):∀ n,pick p n=[]
 | 0=>rfl
 | n+1=>by simp [pick,zmL h n,h n]
def qn (l:Int):Int:=(l/2 - 1)%123
def qr (l:Int):Bool:=decide (2<=l/\l%2=0)
def jp (x b:Int):Int:=x/((2 ^ b.toNat:Nat):Int)%2
def qE (l:Int):Bool:=qr l&&decide (qn l=122)
def zA (x y l:Int):Bool:=qr l&&(if qn l=122 then decide (x=y) else decide (jp x (qn l/2)=qn l%2)&&decide (jp y (qn l/2)=1 - qn l%2))
def ug (g:Int × Int):List Int:=(List.range (g.2/2).toNat).map fun q:Nat=>g.1+2*(q:Int)
def ya (l:List (Int × Int)):List Int:=l.flatMap ug
def zQ (xs:List Int) (l:Int):List Int :=
 if qr l=true then
  if qn l=122 then ya (zK xs) else pick (fun i=>zA (xs.getD i 0) (xs.getD (i+1) 0) l) (xs.length - 1)
 else []
theorem zg1 (l:Int):0<=qn l/\qn l<=122:=by unfold qn;omega
theorem zr9 (x b:Int):0<=jp x b/\jp x b<=1:=by unfold jp;omega
theorem zaY (x b:Int) (hx:0<=x):(((x/((2 ^ b.toNat:Nat):Int)).toNat&&&(1:Int).toNat:Nat):Int)=jp x b:=by
 have h:0<=x/((2 ^ b.toNat:Nat):Int):=Int.ediv_nonneg hx (Int.natCast_nonneg _)
 unfold jp
 generalize x/((2 ^ b.toNat:Nat):Int)=z at h ⊢
 show ((z.toNat&&&1:Nat):Int)=z%2
 rw [Nat.and_one_is_mod]
 omega
theorem zrk:∀ (l:List (Int × Int)) (o:Int),(∀ g∈l,0<=g.2)->(ya (vv o l)).length<=(l.map fun g=>g.2.toNat).sum
 | [],_,_=>by simp [vv,ya]
 | (y,t) :: r,o,h => by
   have ih:=zrk r (o+t) (fun g hg=>h g (g4q _ hg))
   have h0:=h (y,t) g5q
   have e:ya (vv o ((y,t)::r))=ya (if 1<t then [(o,t)] else [])++ya (vv (o+t) r):=by
    simp only [vv,ya,List.flatMap_append]
   rw [e,g6q]
   simp only [List.map_cons,List.sum_cons]
   simp only at h0
   split
   ·simp only [ya] at ih
    simp only [ya,ug,List.flatMap_cons,List.flatMap_nil,List.append_nil,g8q,List.length_range]
    omega
   ·simp only [ya] at ih
    simp only [ya,List.flatMap_nil,List.length_nil]
    omega
theorem kB:∀ (xs:List Int),∀ g∈runs xs,1<=g.2
 | [],g,h=>by cases h
 | x :: xs,g,h => by
   have ih:=kB xs
   simp only [runs] at h
   cases hr:runs xs with
   | nil=>rw [hr] at h;simp at h;subst h;simp
   | cons g' r =>
     obtain ⟨y,t⟩:=g'
     rw [hr] at h ih
     have h1:=ih (y,t) g5q
     by_cases hxy:x=y
     ·simp only [hxy,if_true,List.mem_cons] at h
      rcases h with rfl|h
      ·simp at h1 ⊢;omega
      ·exact ih g (g4q _ h)
     ·simp only [hxy,if_false,List.mem_cons] at h
      rcases h with rfl|rfl|h
      ·simp
      ·exact h1
      ·exact ih g (g4q _ h)
theorem zg2:∀ (xs:List Int),((runs xs).map fun g=>g.2.toNat).sum=xs.length
 | []=>rfl
 | x :: xs => by
   have ih:=zg2 xs
   have hp:=kB xs
   simp only [runs]
   cases hr:runs xs with
   | nil =>
     rw [hr] at ih
     simp only [List.map_nil,List.sum_nil] at ih
     simp only [List.map_cons,List.map_nil,List.sum_cons,List.sum_nil,List.length_cons,←ih]
     rfl
   | cons g' r =>
     obtain ⟨y,t⟩:=g'
     rw [hr] at ih hp
     have h1:=hp (y,t) g5q
     simp only at h1
     by_cases hxy:x=y
     ·simp only [hxy,if_true,List.map_cons,List.sum_cons,List.length_cons] at ih ⊢;omega
     ·simp only [hxy,if_false,List.map_cons,List.sum_cons,List.length_cons] at ih ⊢;omega
theorem zc3 (xs:List Int) (l:Int):(zQ xs l).length<=xs.length:=by
 unfold zQ
 split
 ·split
  ·have h1:=zrk (runs xs) 0 (fun g hg=>by have:=kB xs g hg;omega)
   rw [zg2] at h1
   exact h1
  ·have:=zfm (fun i=>zA (xs.getD i 0) (xs.getD (i+1) 0) l) (xs.length - 1)
   omega
 ·simp
theorem zjW:∀ (l:List (Int × Int)) (o:Int),(∀ g∈l,1<=g.2)->∀ g∈vv o l,o<=g.1/\2<=g.2/\g.1+g.2<=o+((l.map fun g=>g.2.toNat).sum:Nat)
 | [],_,_,g,hg=>by cases hg
 | (y,t) :: r,o,h,g,hg => by
   have h0:=h (y,t) g5q
   simp only at h0
   simp only [List.map_cons,List.sum_cons]
   simp only [vv,List.mem_append] at hg
   rcases hg with hg|hg
   ·split at hg
    ·simp only [List.mem_singleton] at hg
     subst hg
     simp only
     omega
    ·cases hg
   ·have:=zjW r (o+t) (fun g hg=>h g (g4q _ hg)) g hg
    omega
theorem zww {xs:List Int} {i:Nat} (h:i<(zK xs).length):0<=((zK xs).getD i (0,0)).1/\2<=((zK xs).getD i (0,0)).2/\((zK xs).getD i (0,0)).1+((zK xs).getD i (0,0)).2<=xs.length:=by
 have h1:(zK xs).getD i (0,0)∈zK xs:=by
  simp [h]
 have:=zjW (runs xs) 0 (kB xs) _ h1
 rw [zg2] at this
 omega
theorem zcj (a b:List (Int × Int)):ya (a++b)=ya a++ya b:=by simp [ya]
theorem ztu {st:List (Int × Int)} {i:Nat} (h:i<st.length):ya (st.take (i+1))=ya (st.take i)++ug (st.getD i (0,0)):=by
 rw [List.take_add_one,zcj]
 simp [h,ya]
theorem zoT (st:List (Int × Int)) (i:Nat):(ya (st.take i)).length<=(ya st).length:=by
 have:ya st=ya (st.take i)++ya (st.drop i):=by rw [←zcj,List.take_append_drop]
 rw [this,g6q];omega
def zaA (g:Int × Int) (q:Nat):List Int:=(List.range q).map fun q:Nat=>g.1+2*(q:Int)
theorem zkZ (g:Int × Int) (q:Nat):zaA g (q+1)=zaA g q++[g.1+2*(q:Int)]:=by
 simp [zaA,List.range_succ]
theorem zoU (g:Int × Int) (q:Nat):(zaA g q).length=q:=by simp [zaA]
theorem zmM (g:Int × Int):zaA g (g.2/2).toNat=ug g:=rfl
def yJ (l:List (Int × Int)):List Int:=l.flatMap fun g=>List.replicate g.2.toNat g.1
theorem zfn:∀ (xs:List Int),yJ (runs xs)=xs
 | []=>rfl
 | x :: xs => by
   have ih:=zfn xs
   have hp:=kB xs
   simp only [runs]
   cases hr:runs xs with
   | nil=>rw [hr] at ih;simp only [yJ,List.flatMap_nil] at ih;rw [←ih];rfl
   | cons g r =>
     obtain ⟨y,t⟩:=g
     rw [hr] at ih hp
     have h1:=hp (y,t) g5q
     simp only at h1
     by_cases hxy:x=y
     ·subst hxy
      simp only [if_true,yJ,List.flatMap_cons] at ih ⊢
      rw [show (t+1).toNat=t.toNat+1 from by omega,List.replicate_succ,List.cons_append,ih]
     ·simp only [hxy,if_false,yJ,List.flatMap_cons] at ih ⊢
      rw [ih];rfl
theorem zqs {st:List (Int × Int)} {i:Nat} (h:i<st.length):yJ (st.take (i+1))=yJ (st.take i)++List.replicate (st.getD i (0,0)).2.toNat (st.getD i (0,0)).1:=by
 have e:st[i]?=some (st.getD i (0,0)):=by simp [h]
 rw [List.take_add_one,e]
 simp only [yJ,List.flatMap_append,Option.toList_some,List.flatMap_cons,List.flatMap_nil,List.append_nil]
theorem zl9 (st:List (Int × Int)) (i:Nat):(yJ (st.take i)).length<=(yJ st).length:=by
 have:yJ st=yJ (st.take i)++yJ (st.drop i):=by unfold yJ;rw [←List.flatMap_append,List.take_append_drop]
 rw [this,g6q];omega
theorem zu3 {xs:List Int} {i:Nat} (h:i<(runs xs).length):1<=((runs xs).getD i (0,0)).2:=by
 have h1:(runs xs).getD i (0,0)∈runs xs:=by simp [h]
 exact kB xs _ h1
end
section
open Go.EG
attribute [local irreducible] z8 yN Go.Calls
set_option maxRecDepth 20000
def zjX (l:Int):Int:=if qr l=true then (if qn l=122 then 0 else qn l/2) else 0
def zd9 (l:Int):Int:=if qr l=true then (if qn l=122 then 0 else qn l%2) else 0
theorem ztv {l:Int} (h:2<=l) (h':l%2=0):qr l=true:=by unfold qr;simp;omega
theorem ztw {l:Int} (h:l<2∨l%2≠0):qr l=false:=by unfold qr;simp;omega
theorem ztx {l:Int} (h:qr l=true):2<=l/\l%2=0:=by unfold qr at h;simpa using h
theorem zbj (l:Int) (w:World) (h1:l<=9223372036854775807):Calls Tryz.prog yU #[.int .i64 l] w fun x w'=>x=.returned (.tuple #[.int .i64 (if qr l then qn l else 0),.bool (qr l)])/\Ext w w':=by
 refine zN [.v (.int .i64 l)] w zl2 (by simp) ?_
 (repeat' ((conv=>whnf);first|((first|apply zb|apply za|apply zc)<;>intro h<;>try (exfalso;omega))|refine pay ?_|intro _));(all_goals (conv=>whnf))
 ·refine ⟨?_⟩
  rw [ztw (.inl h)];rfl
 ·refine ⟨?_⟩
  rw [ztw (.inr h)];rfl
 ·refine ⟨?_⟩
  rw [ztv (by omega) h];rfl
theorem zea (l:Int) (w:World) (h1:l<=9223372036854775807):Calls Tryz.prog kY #[.int .i64 l] w fun x w'=>x=.returned (.tuple #[.int .i64 (zjX l),.int .u64 (zd9 l),.bool (qE l)])/\Ext w w':=by
 refine zN [.v (.int .i64 l)] w zl4 (by simp) ?_
 have hr:=zg1 l
 cases he:qr l with
 | true =>
   have hc:∀ w,Calls Tryz.prog yU #[.int .i64 l] w fun x w'=>x=.returned (.tuple #[.int .i64 (qn l),.bool true])/\Ext w w':=fun w=>by
    have:=zbj l w h1
    rw [he] at this;exact this
   (repeat' ((conv=>whnf);first|refine zv (.v _) (fun w hR=>hc w) ?_|((first|apply zb|apply za|apply zc)<;>intro h<;>try (exfalso;omega))|refine pay ?_|intro _));(all_goals (conv=>whnf))
   ·refine ⟨?_⟩
    simp [zjX,zd9,qE,he,h]
   ·refine ⟨?_⟩
    simp only [zjX,zd9,qE,he,h,if_true,if_false,decide_false,Bool.and_false]
    rw [show qn l%2%18446744073709551616=qn l%2 from by omega]
 | false =>
   have hc:∀ w,Calls Tryz.prog yU #[.int .i64 l] w fun x w'=>x=.returned (.tuple #[.int .i64 0,.bool false])/\Ext w w':=fun w=>by
    have:=zbj l w h1
    rw [he] at this;exact this
   (repeat' ((conv=>whnf);first|refine zv (.v _) (fun w hR=>hc w) ?_|((first|apply zb|apply za|apply zc)<;>intro h<;>try (exfalso;omega))|refine pay ?_|intro _));(all_goals (conv=>whnf))
   refine ⟨?_⟩
   simp [zjX,zd9,qE,he]
theorem zsa (x y l:Int) (w:World) (hx:0<=x/\x<=18446744073709551615) (hy:0<=y/\y<=18446744073709551615) (h1:l<=9223372036854775807):Calls Tryz.prog zdX #[.int .u64 x,.int .u64 y,.int .i64 l] w fun e w'=>e=.returned (.bool (zA x y l))/\Ext w w':=by
 refine zN [.v (.int .u64 x),.v (.int .u64 y),.v (.int .i64 l)] w zoB (by simp) ?_
 have hr:=zg1 l
 have hq:∀ z:Int,0<=z->z<=18446744073709551615->∀ b:Int,0<=z/((2 ^ b.toNat:Nat):Int)/\z/((2 ^ b.toNat:Nat):Int)<=18446744073709551615:=fun z h0 h2 b =>
  ⟨Int.ediv_nonneg h0 (Int.natCast_nonneg _),Int.le_trans (Int.ediv_le_self _ h0) h2⟩
 have q1:=hq x hx.1 hx.2 (qn l/2)
 have q2:=hq y hy.1 hy.2 (qn l/2)
 cases he:qr l with
 | true =>
   have hc:∀ w,Calls Tryz.prog yU #[.int .i64 l] w fun x w'=>x=.returned (.tuple #[.int .i64 (qn l),.bool true])/\Ext w w':=fun w=>by
    have:=zbj l w h1
    rw [he] at this;exact this
   (repeat' ((conv=>whnf);first|refine zv (.v _) (fun w hR=>hc w) ?_|((first|apply zb|apply za|apply zc)<;>intro h<;>try (exfalso;omega))|refine pay ?_|refine And.intro (by first|exact ⟨by omega,by show _<=(64:Int);omega⟩|(refine ⟨?_,?_,?_,?_⟩<;>first|exact q1.1|exact q1.2|exact q2.1|exact q2.2|decide)) ?_|intro _));(all_goals (conv=>whnf))
   ·refine ⟨?_⟩
    simp [zA,he,h]
   ·rename_i h2
    refine ⟨?_⟩
    rw [zaY _ _ hx.1] at h
    rw [zaY _ _ hy.1]
    have e1:jp x (qn l/2)=qn l%2:=by omega
    simp only [zA,he,h2,if_false,Bool.true_and,e1,decide_true]
    rw [show (1 - qn l%2%18446744073709551616)%18446744073709551616=1 - qn l%2 from by omega]
   ·rename_i h2
    refine ⟨?_⟩
    rw [zaY _ _ hx.1] at h
    have e1:¬jp x (qn l/2)=qn l%2:=by omega
    simp only [zA,he,h2,if_false,Bool.true_and,e1,decide_false,Bool.false_and]
 | false =>
   have hc:∀ w,Calls Tryz.prog yU #[.int .i64 l] w fun x w'=>x=.returned (.tuple #[.int .i64 0,.bool false])/\Ext w w':=fun w=>by
    have:=zbj l w h1
    rw [he] at this;exact this
   (repeat' ((conv=>whnf);first|refine zv (.v _) (fun w hR=>hc w) ?_|((first|apply zb|apply za|apply zc)<;>intro h<;>try (exfalso;omega))|refine pay ?_|intro _));(all_goals (conv=>whnf))
   refine ⟨?_⟩
   simp [zA,he]
theorem zoV (w:World) (a:Option Addr) (c:Nat) (xs:List Int) (hx:In w [] a (zt .u64 xs)) (hl:xs.length<=1000) :
 VC Tryz.prog w [] zbH (fnK [.t 2] (zr1 w xU 2 (zK xs).length (prs .i64 (zK xs)))) (vC 0 [.v (.slice a xs.length c)]) []:=by
 (repeat' ((conv=>whnf);first|((first|apply zb|apply za|apply zc)<;>intro h<;>try (exfalso;omega))|refine pay ?_|intro _));(all_goals (conv=>whnf))
 (conv=>whnf)
 refine zP (Nat × Nat × List (Int × Int) × Option Addr × Nat) (fun (i,f,out,a',c')=>[(0,.v (.slice a xs.length c)),(3,.sl 3 a' out.length c'),(4,.v (.int .i64 f)),(8,.v (.int .i64 xs.length)),(9,.v (.int .i64 i))])
  (fun (i,f,out,a',c')=>[.own 3 a' out.length c' xU 2 (prs .i64 out)])
  (fun (i,f,out,a',c')=>f<=i/\i<=xs.length/\out.length<=f/\zK xs=out++xN xs f/\(i=xs.length->f=i)/\∀ j,f<=j->j<=i->i<xs.length->xs.getD j 0=xs.getD f 0)
  (fun (i,f,out,a',c')=>xs.length - i) (0,0,[],none,0) ⟨by omega,by omega,by simp,by simp [zd8],by omega,fun j h1 h2 h3=>by rw [show j=0 from by omega]⟩ (by (repeat ((conv=>whnf);refine vS ?_));exact trivial) (Ref.ownNil 3 _ _) ?_
 rintro ⟨i,f,out,a',c'⟩ ⟨h1,h2,h3,h4,h5,h6⟩
 simp only at h1 h2 h3 h4 h5 h6 ⊢
 have hb:∀ (h:(i:Int)<xs.length) (hs:i+1<xs.length->xs.getD (i+1) 0≠xs.getD i 0),Block xs f (i+1):=fun h hs =>
  ⟨by omega,by omega,fun j ha hb=>h6 j ha (by omega) (by omega),fun hk=>by rw [←h6 i h1 (Nat.le_refl _) (by omega)];exact hs hk⟩
 have hnew:∀ j,i+1<=j->j<=i+1->i+1<xs.length->xs.getD j 0=xs.getD (i+1) 0:=fun j ha hb _=>by rw [show j=i+1 from by omega]
 have e1:((i:Int)+1).toNat=i+1:=by omega
 have hst:xs.getD (i+1) 0=xs.getD i 0->∀ j,f<=j->j<=i+1->i+1<xs.length->xs.getD j 0=xs.getD f 0:=fun h j ha hb _=>by
  rcases Nat.lt_succ_iff_lt_or_eq.1 (Nat.lt_succ_iff.2 hb) with h9|rfl
  ·exact h6 j ha (by omega) (by omega)
  ·rw [h];exact h6 i h1 (Nat.le_refl _) (by omega)
 (repeat' ((conv=>whnf);first|refine ⟨_,rdI hx (by omega),?_⟩|((first|apply zb|apply za|apply zc)<;>intro h<;>try (exfalso;omega))|refine pay ?_|refine And.intro (by first|exact neI hx (by omega)) ?_|intro _));(all_goals (conv=>whnf))
 ·rename_i h7 h8
  simp only [e1,g7q] at h
  refine zm (i+1,f,out,a',c') (by dsimp only;refine ⟨by omega,by omega,h3,h4,fun hh=>by omega,hst h⟩) (by ((try dsimp only);omega)) (by (repeat ((conv=>whnf);refine vS ?_));exact trivial) (.refl _)
 ·rename_i h7 h8 h9 b2 a2 b
  rw [e1,g7q] at h9
  have hB:=hb h7 (fun _=>h9)
  refine zm (i+1,i+1,out++[((f:Int),(i:Int)+1 - f)],a2,b) (by dsimp only;refine ⟨by omega,by omega,by simp;omega,by rw [h4];first|exact hB.str1 (by omega) h out|exact hB.str2 (by omega) h out,by omega,hnew⟩) (by ((try dsimp only);omega)) (by simp only [g6q,List.length_cons,List.length_nil];(repeat ((conv=>whnf);refine vS ?_));exact trivial) (Thin.ref (.skip (.own (by simp) zgN (.nil _))))
 ·rename_i h7 h8 h9
  rw [e1,g7q] at h9
  have hB:=hb h7 (fun _=>h9)
  refine zm (i+1,i+1,out,a',c') (by dsimp only;refine ⟨by omega,by omega,by omega,by rw [h4];first|exact hB.str1 (by omega) h out|exact hB.str2 (by omega) h out,by omega,hnew⟩) (by ((try dsimp only);omega)) (by (repeat ((conv=>whnf);refine vS ?_));exact trivial) (.refl _)
 ·rename_i h7 h8 b2 a2 b
  have hB:=hb h7 (fun _=>by omega)
  refine zm (i+1,i+1,out++[((f:Int),(i:Int)+1 - f)],a2,b) (by dsimp only;refine ⟨by omega,by omega,by simp;omega,by rw [h4];first|exact hB.str1 (by omega) h out|exact hB.str2 (by omega) h out,by omega,hnew⟩) (by ((try dsimp only);omega)) (by simp only [g6q,List.length_cons,List.length_nil];(repeat ((conv=>whnf);refine vS ?_));exact trivial) (Thin.ref (.skip (.own (by simp) zgN (.nil _))))
 ·rename_i h7 h8
  have hB:=hb h7 (fun _=>by omega)
  refine zm (i+1,i+1,out,a',c') (by dsimp only;refine ⟨by omega,by omega,by omega,by rw [h4];first|exact hB.str1 (by omega) h out|exact hB.str2 (by omega) h out,by omega,hnew⟩) (by ((try dsimp only);omega)) (by (repeat ((conv=>whnf);refine vS ?_));exact trivial) (.refl _)
 ·have e2:zK xs=out:=by rw [h4,zfl (by omega),List.append_nil]
  refine ⟨a',c',by rw [e2],?_⟩
  rw [e2]
  exact Thin.ref (.own rfl rfl (.nil _))
def zw2 (xs:List Int) (i:Nat) (out:List (Int × Int)):Prop :=
 (i=0/\out=[])∨∃ s init,s<i/\i<=xs.length/\init.length<=s/\out=init++[(xs.getD s 0,(i:Int) - s)]/\runs xs=init++runs (xs.drop s)/\∀ j,s<=j->j<i->xs.getD j 0=xs.getD s 0
theorem zwx (w:World) (a:Option Addr) (c:Nat) (xs:List Int) (hx:In w [] a (zt .i64 xs)) (hl:xs.length<=1000) :
 VC Tryz.prog w [] zf0 (fnK [.t 2] (zr1 w vh 2 (runs xs).length (prs .i64 (runs xs)))) (vC 0 [.v (.slice a xs.length c)]) []:=by
 (repeat' ((conv=>whnf);first|((first|apply zb|apply za|apply zc)<;>intro h<;>try (exfalso;omega))|refine pay ?_|intro _));(all_goals (conv=>whnf))
 refine zP (Nat × List (Int × Int) × Option Addr × Nat) (fun (i,out,a',c')=>[(0,.v (.slice a xs.length c)),(3,.sl 3 a' out.length c'),(6,.v (.slice a xs.length c)),(7,.v (.int .i64 xs.length)),(8,.v (.int .i64 i))])
  (fun (i,out,a',c')=>[.own 3 a' out.length c' vh 2 (prs .i64 out)])
  (fun (i,out,a',c')=>i<=xs.length/\zw2 xs i out)
  (fun (i,out,a',c')=>xs.length - i) (0,[],none,0) ⟨by omega,.inl ⟨rfl,rfl⟩⟩ (by (repeat ((conv=>whnf);refine vS ?_));exact trivial) (Ref.ownNil 3 _ _) ?_
 rintro ⟨i,out,a',c'⟩ ⟨h1,h2⟩
 dsimp only at h1 h2 ⊢
 rcases h2 with ⟨rfl,rfl⟩|⟨s,init,hs,_,hi,rfl,hr,hall⟩
 ·(repeat' ((conv=>whnf);first|rw [zgN]|(rw [zox];rotate_left;· simp)|(rw [zrg];rotate_left;· simp)|refine ⟨_,rdI hx (by omega),?_⟩|((first|apply zb|apply za|apply zc)<;>intro h<;>try (exfalso;omega))|refine pay ?_|refine And.intro (by first|exact neI hx (by omega)|exact jG (by simp)) ?_|intro _));(all_goals (conv=>whnf))
  ·exact zm (1,[]++[(xs.getD 0 0,0+1)],_,_) ⟨by ((try dsimp only);omega),.inr ⟨0,[],by omega,by ((try dsimp only);omega),by simp,rfl,by simp,fun j h1 h2=>by dsimp only at h2;rw [show j=0 from by omega]⟩⟩ (by ((try dsimp only);omega)) (by (repeat ((conv=>whnf);refine vS ?_));exact trivial) (Thin.ref (.skip (.own rfl rfl (.nil _))))
  ·rw [show xs=[] from List.eq_nil_of_length_eq_zero (by omega)]
   exact ⟨_,_,rfl,Thin.ref (.own rfl rfl (.nil _))⟩
 ·have e1:((i:Int) - 1).toNat=i - 1:=by omega
  have e2:xs.getD (i - 1) 0=xs.getD s 0:=hall (i - 1) (by omega) (by omega)
  (repeat' ((conv=>whnf);first|rw [zgN]|(rw [zox];rotate_left;· simp)|(rw [zrg];rotate_left;· simp)|refine ⟨_,rdI hx (by omega),?_⟩|((first|apply zb|apply za|apply zc)<;>intro h<;>try (exfalso;omega))|refine pay ?_|refine And.intro (by first|exact neI hx (by omega)|exact jG (by simp)|(dsimp only;omega)|(refine ⟨rfl,?_⟩;rw [zkG];simp;omega)) ?_|intro _));(all_goals (conv=>whnf))
  ·rename_i hin hi0 b2 a2 b
   simp only [g7q,e1,e2] at h
   have hB:Block xs s i:=⟨hs,h1,hall,fun _ hh=>h hh.symm⟩
   refine zm (i+1,(init++[(xs.getD s 0,(i:Int) - s)])++[(xs.getD i 0,0+1)],_,_) ⟨by ((try dsimp only);omega),.inr ⟨i,init++[(xs.getD s 0,(i:Int) - s)],by ((try dsimp only);omega),by ((try dsimp only);omega),by simp;omega,?_,?_,fun j h1 h2=>by dsimp only at h2;rw [show j=i from by omega]⟩⟩ (by ((try dsimp only);omega)) (by (try simp only [g6q,List.length_cons,List.length_nil]);(repeat ((conv=>whnf);refine vS ?_));exact trivial) (Thin.ref (.skip (.own (by simp) rfl (.nil _))))
   ·dsimp only
    rw [show ((i+1:Nat):Int) - i=0+1 from by omega]
   ·rw [hr,hB.runs,List.append_assoc];rfl
  ·rename_i hin hi0
   simp only [g7q,e1,e2] at h
   refine zm (i+1,init++[(xs.getD s 0,(i:Int) - s+1)],_,_) ⟨by ((try dsimp only);omega),.inr ⟨s,init,by ((try dsimp only);omega),by ((try dsimp only);omega),hi,?_,hr,fun j h1 h2=>?_⟩⟩ (by ((try dsimp only);omega)) (by (try simp only [g6q,List.length_cons,List.length_nil]);(repeat ((conv=>whnf);refine vS ?_));exact trivial) (Thin.ref (.own (by simp) rfl (.nil _)))
   ·dsimp only
    rw [show ((i+1:Nat):Int) - s=(i:Int) - s+1 from by omega]
   ·dsimp only at h2
    rcases Nat.lt_succ_iff_lt_or_eq.1 h2 with h9|rfl
    ·exact hall j h1 h9
    ·exact h.symm
  ·have hB:Block xs s i:=⟨hs,h1,hall,fun hh=>by omega⟩
   have e3:runs xs=init++[(xs.getD s 0,(i:Int) - s)]:=by rw [hr,hB.runs,zoS (by omega)]
   exact ⟨_,_,by rw [e3],by rw [e3];exact Thin.ref (.own rfl rfl (.nil _))⟩
theorem zk0 (w:World) (a:Option Addr) (c:Nat) (xs:List Int) (hx:In w [] a (zt .u64 xs)) (hl:xs.length<=1000) :
 Calls Tryz.prog jo #[.slice a xs.length c] w (zlG xU 2 (zK xs).length (prs .i64 (zK xs)) w) :=
 zdm [.v (.slice a xs.length c)] w zhG (by simp) (zoV w a c xs hx hl)
def zu4 (xs:List Int):Prop:=∀ i,0<=xs.getD i 0/\xs.getD i 0<=18446744073709551615
theorem zoW {z:Int} (h:0<=z/\z<=18446744073709551615) (b:Int):0<=z/((2 ^ b.toNat:Nat):Int)/\z/((2 ^ b.toNat:Nat):Int)<=18446744073709551615 :=
 ⟨Int.ediv_nonneg h.1 (Int.natCast_nonneg _),Int.le_trans (Int.ediv_le_self _ h.1) h.2⟩
theorem zw3 {z:Int} (h:0<=z/\z<=18446744073709551615) (b:Int):0<=z/((2 ^ b.toNat:Nat):Int)/\z/((2 ^ b.toNat:Nat):Int)<=18446744073709551615/\(0:Int)<=1/\(1:Int)<=18446744073709551615 :=
 ⟨(zoW h b).1,(zoW h b).2,by decide,by decide⟩
theorem zwy (xs:List Int):(zK xs).length<=xs.length:=by
 have:=zl8 xs 0
 rwa [zd8] at this
theorem ziT {x y l:Int} (he:qr l=true) (ht:¬qn l=122):zA x y l=(decide (jp x (qn l/2)=qn l%2)&&!decide (jp y (qn l/2)=qn l%2)):=by
 have h1:=zr9 y (qn l/2)
 have h2:qn l%2=0∨qn l%2=1:=by omega
 simp only [zA,he,ht,if_false,Bool.true_and]
 congr 1
 rw [Bool.eq_iff_iff]
 simp
 omega
theorem zu5 (w:World) (a:Option Addr) (c:Nat) (xs:List Int) (l:Int) (hx:In w [] a (zt .u64 xs)) (hl:xs.length<=1000) (hu:zu4 xs) (hl1:l<=9223372036854775807) :
 VC Tryz.prog w [] zeN (fnK [.t 4] (zr1 w zar 1 (zQ xs l).length (zt .i64 (zQ xs l)))) (vC 0 [.v (.slice a xs.length c),.v (.int .i64 l)]) []:=by
 have hr:=zg1 l
 have hst:=zwy xs
 by_cases he:qr l=true
 ·have he2:=ztx he
  by_cases ht:qn l=122
  ·have hc:∀ w,Calls Tryz.prog kY #[.int .i64 l] w fun x w'=>x=.returned (.tuple #[.int .i64 0,.int .u64 0,.bool true])/\Ext w w':=fun w=>by
    have:=zea l w hl1
    simp only [zjX,zd9,qE,he,ht,if_true,decide_true,Bool.and_true] at this;exact this
   have hp:zQ xs l=ya (zK xs):=by simp [zQ,he,ht]
   have hlen:=zc3 xs l
   rw [hp] at hlen
   rw [hp]
   (repeat' ((conv=>whnf);first|refine zv (.v _) (fun w hR=>hc w) ?_|refine zcg 28 (fun w' hR=>zk0 w' a c xs (hx.cast hR (by simp)) hl) ?_|((first|apply zb|apply za|apply zc)<;>intro h<;>try (exfalso;omega))|refine pay ?_|intro _));(all_goals (conv=>whnf))
   rename_i sa sc
   refine zP (Nat × List Int × Option Addr × Nat) (fun (i,out,a',c')=>[(28,.sl 28 sa (zK xs).length sc),(29,.v (.int .i64 (zK xs).length)),(5,.sl 5 a' out.length c'),(30,.v (.int .i64 i))])
    (fun (i,out,a',c')=>[.own 28 sa (zK xs).length sc xU 2 (prs .i64 (zK xs)),.own 5 a' out.length c' zar 1 (zt .i64 out)])
    (fun (i,out,a',c')=>i<=(zK xs).length/\out=ya ((zK xs).take i))
    (fun (i,out,a',c')=>(zK xs).length - i) (0,[],none,0) ⟨by ((try dsimp only);omega),rfl⟩ (by (repeat ((conv=>whnf);refine vS ?_));exact trivial) (Ref.trans (Ref.ownNil 5 _ _) (Ref.perm (.swap _ _ _))) ?_
   rintro ⟨i,out,a',c'⟩ ⟨h1,h2⟩
   dsimp only at h1 h2 ⊢
   by_cases hi:i<(zK xs).length
   ·have hg:=zww hi
    have hout:out.length<=1000:=by
     have:=zoT (zK xs) i
     rw [h2];omega
    have hnx:=ztu hi
    have e1:=zkH (k:=.i64) hi
    have e2:=zgO (k:=.i64) hi
    generalize hgg:(zK xs).getD i (0,0)=g at *
    (repeat' ((conv=>whnf);first|((first|apply zb|apply za|apply zc)<;>intro h<;>try (exfalso;omega))|refine pay ?_|refine And.intro (by first|exact ⟨zbN (by omega),jG (by omega),trivial⟩|(simp only [g7q];exact ⟨zbN (by omega),jG (by omega),trivial⟩)) ?_|intro _));(all_goals (conv=>whnf))
    rename_i b
    simp only [g7q,e1,e2]
    refine zP (Nat × List Int × Option Addr × Nat) (fun (q,out2,a2,c2)=>[(28,.sl 28 sa (zK xs).length sc),(29,.v (.int .i64 (zK xs).length)),(5,.sl 5 a2 out2.length c2),(30,.v (.int .i64 i)),(10,.ptr 10 b 0),(11,.v (.int .i64 (2*q)))])
     (fun (q,out2,a2,c2)=>[.box 10 b [.int .i64 g.1,.int .i64 g.2] xU,.own 28 sa (zK xs).length sc xU 2 (prs .i64 (zK xs)),.own 5 a2 out2.length c2 zar 1 (zt .i64 out2)])
     (fun (q,out2,a2,c2)=>(q:Int)<=g.2/2/\out2=out++zaA g q)
     (fun (q,out2,a2,c2)=>(g.2/2).toNat - q) (0,out,a',c') ⟨by ((try dsimp only);omega),by simp [zaA]⟩ (by (repeat ((conv=>whnf);refine vS ?_));exact trivial) (.refl _) ?_
    rintro ⟨q,out2,a2,c2⟩ ⟨k1,k2⟩
    dsimp only at k1 k2 ⊢
    have hl2:out2.length=out.length+q:=by rw [k2];simp [zoU]
    (repeat' ((conv=>whnf);first|((first|apply zb|apply za|apply zc)<;>intro h<;>try (exfalso;omega))|refine pay ?_|intro _));(all_goals (conv=>whnf))
    ·refine zm (q+1,out2++[g.1+2*(q:Int)],_,_) (by dsimp only;exact ⟨by omega,by rw [k2,zkZ,List.append_assoc]⟩) (by ((try dsimp only);omega)) (by (try simp only [g6q,List.length_cons,List.length_nil]);(repeat ((conv=>whnf);refine vS ?_));exact trivial) (Thin.ref (.skip (.box rfl (.own rfl rfl (.own (by simp) ints_snoc (.nil _))))))
    ·have hq:q=(g.2/2).toNat:=by omega
     refine zm (i+1,out2,a2,c2) (by dsimp only;exact ⟨by omega,by rw [k2,hnx,h2,hq,zmM]⟩) (by ((try dsimp only);omega)) (by (repeat ((conv=>whnf);refine vS ?_));exact trivial) (Thin.ref (.skip (.own rfl rfl (.own rfl rfl (.nil _)))))
   ·(repeat' ((conv=>whnf);first|((first|apply zb|apply za|apply zc)<;>intro h<;>try (exfalso;omega))|refine pay ?_|intro _));(all_goals (conv=>whnf))
    have ho:out=ya (zK xs):=by rw [h2,List.take_of_length_le (by omega)]
    subst ho
    exact ⟨a',c',rfl,Thin.ref (.skip (.own rfl rfl (.nil _)))⟩
  ·have hc:∀ w,Calls Tryz.prog kY #[.int .i64 l] w fun x w'=>x=.returned (.tuple #[.int .i64 (qn l/2),.int .u64 (qn l%2),.bool false])/\Ext w w':=fun w=>by
    have:=zea l w hl1
    simp only [zjX,zd9,qE,he,ht,if_true,if_false,decide_false,Bool.and_false] at this;exact this
   generalize hP:pick (fun i=>zA (xs.getD i 0) (xs.getD (i+1) 0) l)=P
   have hp:zQ xs l=P (xs.length - 1):=by rw [←hP];simp [zQ,he,ht]
   rw [hp]
   (repeat' ((conv=>whnf);first|refine zv (.v _) (fun w hR=>hc w) ?_|((first|apply zb|apply za|apply zc)<;>intro h<;>try (exfalso;omega))|refine pay ?_|intro _));(all_goals (conv=>whnf))
   refine zP (Nat × Option Addr × Nat) (fun (i,a',c')=>[(0,.v (.slice a xs.length c)),(6,.v (.int .i64 (qn l/2))),(7,.v (.int .u64 (qn l%2))),(5,.sl 5 a' (P i).length c'),(12,.v (.int .i64 i))])
    (fun (i,a',c')=>[.own 5 a' (P i).length c' zar 1 (zt .i64 (P i))])
    (fun (i,a',c')=>i<=xs.length - 1)
    (fun (i,a',c')=>xs.length - 1 - i) (0,none,0) (by ((try dsimp only);omega)) (by subst hP;(repeat ((conv=>whnf);refine vS ?_));exact trivial) (by subst hP;exact Ref.ownNil 5 _ _) ?_
   rintro ⟨i,a',c'⟩ h1
   dsimp only at h1 ⊢
   have hpl:(P i).length<=1000:=by
    subst hP
    have:=zfm (fun i=>zA (xs.getD i 0) (xs.getD (i+1) 0) l) i;omega
   have hnx:P (i+1)=P i++if zA (xs.getD i 0) (xs.getD (i+1) 0) l=true then [(i:Int)] else []:=by subst hP;rfl
   have e1:((i:Int)+1).toNat=i+1:=by omega
   (repeat' ((conv=>whnf);first|refine ⟨_,rdI hx (by omega),?_⟩|((first|apply zb|apply za|apply zc)<;>intro h<;>try (exfalso;omega))|refine pay ?_|refine And.intro (by first|exact neI hx (by omega)|exact ⟨by omega,by show _<=(64:Int);omega⟩|exact zw3 (hu _) _) ?_|intro _));(all_goals (conv=>whnf))
   ·rename_i h3 h4 b' a2 c2
    rw [zaY _ _ (hu _).1,g7q] at h4
    rw [zaY _ _ (hu _).1,e1] at h
    have hf:zA (xs.getD i 0) (xs.getD (i+1) 0) l=true:=by rw [ziT he ht];simp only [h4,h,decide_true,decide_false,Bool.not_true,Bool.not_false,Bool.and_self]
    rw [hf,if_pos rfl] at hnx
    exact zm (i+1,a2,c2) (by ((try dsimp only);omega)) (by ((try dsimp only);omega)) (by dsimp only;rw [hnx];(try simp only [g6q,List.length_cons,List.length_nil]);(repeat ((conv=>whnf);refine vS ?_));exact trivial) (by dsimp only;rw [hnx];exact Thin.ref (.skip (.own (by simp) ints_snoc (.nil _))))
   ·rename_i h3 h4
    rw [zaY _ _ (hu _).1,g7q] at h4
    rw [zaY _ _ (hu _).1,e1] at h
    have hf:zA (xs.getD i 0) (xs.getD (i+1) 0) l=false:=by rw [ziT he ht];simp only [h4,h,decide_true,decide_false,Bool.not_true,Bool.and_false]
    rw [hf,if_neg (by simp),List.append_nil] at hnx
    exact zm (i+1,a',c') (by ((try dsimp only);omega)) (by ((try dsimp only);omega)) (by dsimp only;rw [hnx];(repeat ((conv=>whnf);refine vS ?_));exact trivial) (by dsimp only;rw [hnx];exact .refl _)
   ·rename_i h3
    rw [zaY _ _ (hu _).1,g7q] at h
    have hf:zA (xs.getD i 0) (xs.getD (i+1) 0) l=false:=by rw [ziT he ht];simp only [h,decide_true,decide_false,Bool.not_true,Bool.and_false,Bool.false_and]
    rw [hf,if_neg (by simp),List.append_nil] at hnx
    exact zm (i+1,a',c') (by ((try dsimp only);omega)) (by ((try dsimp only);omega)) (by dsimp only;rw [hnx];(repeat ((conv=>whnf);refine vS ?_));exact trivial) (by dsimp only;rw [hnx];exact .refl _)
   ·rw [show xs.length - 1=i from by omega]
    exact ⟨a',c',rfl,Thin.ref (.own rfl rfl (.nil _))⟩
 ·have hp:zQ xs l=[]:=by simp [zQ,he]
  rw [hp]
  have he2:l<2∨l%2≠0:=by
   by_cases h:l<2
   ·exact .inl h
   ·exact .inr fun h'=>he (ztv (by omega) h')
  (repeat' ((conv=>whnf);first|((first|apply zb|apply za|apply zc)<;>intro h<;>try (exfalso;omega))|refine pay ?_|intro _));(all_goals (conv=>whnf))
  ·exact ⟨none,0,rfl,Ref.ownNil 0 _ _⟩
  ·exact ⟨none,0,rfl,Ref.ownNil 0 _ _⟩
end
section
theorem zk1 (xs:List Int) (i:Nat):∀ (m k:Nat),xs.length - k=m->i<k->k<=xs.length->(∀ j,i<=j->j<k->xs.getD j 0=xs.getD i 0)->∃ k',Block xs i k'
 | 0,k,hm,h1,h2,h3=>⟨k,h1,h2,h3,fun h=>by omega⟩
 | m + 1,k,hm,h1,h2,h3 => by
   by_cases h:xs.getD k 0=xs.getD i 0
   ·refine zk1 xs i m (k+1) (by omega) (by omega) (by omega) fun j hj hk=>?_
    rcases Nat.lt_succ_iff_lt_or_eq.1 hk with h9|rfl
    ·exact h3 j hj h9
    ·exact h
   ·exact ⟨k,h1,h2,h3,fun _=>h⟩
theorem zu6 {xs:List Int} {i:Nat} (h:i<xs.length):∃ k,Block xs i k :=
 zk1 xs i _ (i+1) rfl (by omega) (by omega) fun j hj hk=>by rw [show j=i from by omega]
theorem zoX (xs:List Int):∀ (m i:Nat),xs.length - i<=m->∀ g∈xN xs i,∀ j:Nat,g.1<=j->(j:Int)<g.1+g.2->xs.getD j 0=xs.getD g.1.toNat 0
 | 0,i,hm,g,hg,j,_,_=>by rw [zfl (by omega)] at hg;cases hg
 | m + 1,i,hm,g,hg,j,h1,h2 => by
   by_cases hi:i<xs.length
   ·obtain ⟨k,hB⟩:=zu6 hi
    rw [hB.str,List.mem_append] at hg
    rcases hg with hg|hg
    ·split at hg
     ·simp only [List.mem_singleton] at hg
      subst hg
      simp only at h1 h2 ⊢
      exact hB.all j (by omega) (by omega)
     ·cases hg
    ·have:=hB.lt
     exact zoX xs m k (by omega) g hg j h1 h2
   ·rw [zfl (by omega)] at hg;cases hg
theorem zty {xs:List Int} {p:Int} (h:p∈ya (zK xs)):0<=p/\p+1<xs.length/\xs.getD p.toNat 0=xs.getD (p+1).toNat 0:=by
 simp only [ya,List.mem_flatMap] at h
 obtain ⟨g,hg,hp⟩:=h
 simp only [ug,List.mem_map,List.mem_range] at hp
 obtain ⟨q,hq,rfl⟩:=hp
 have h1:=zjW (runs xs) 0 (kB xs) g hg
 rw [zg2] at h1
 have h2:=zoX xs xs.length 0 (by omega) g (by rw [zd8];exact hg)
 have e1:=h2 (g.1+2*(q:Int)).toNat (by omega) (by omega)
 have e2:=h2 (g.1+2*(q:Int)+1).toNat (by omega) (by omega)
 exact ⟨by omega,by omega,e1.trans e2.symm⟩
def zu7 (x y f:Int):Nat->Nat
 | 0=>0
 | j+1=>zu7 x y f j+if zA x y (f+2*(j:Int))=true then 1 else 0
theorem zwz (x y f:Int):∀ j,zu7 x y f j<=j
 | 0=>Nat.le_refl _
 | j+1=>by have:=zwz x y f j;simp only [zu7];split<;>omega
abbrev pF (xs:List Int) (l:Int):Nat->Bool:=fun i=>zA (xs.getD i 0) (xs.getD (i+1) 0) l
theorem zbk {xs:List Int} {l:Int} (ht:qE l=false):zQ xs l=pick (pF xs l) (xs.length - 1):=by
 cases he:qr l with
 | true =>
   have hn:¬qn l=122:=by unfold qE at ht;simpa [he] using ht
   unfold zQ
   rw [if_pos he,if_neg hn]
 | false=>rw [zmL (fun j=>by simp [pF,zA,he])];simp [zQ,he]
theorem zk2 (p:Nat->Bool) (m:Nat):∀ n,pick p (m+n)=pick p m++(pick (fun i=>p (m+i)) n).map fun z=>(m:Int)+z
 | 0=>by simp [pick]
 | n + 1 => by
   have ih:=zk2 p m n
   rw [←Nat.add_assoc]
   simp only [pick]
   rw [ih,List.map_append,List.append_assoc]
   congr 2
   split
   ·simp
   ·rfl
theorem zaJ {a b:List Int} {i:Nat} (h:i<a.length):(a++b).getD i 0=a.getD i 0:=by
 simp [g1q,List.getElem?_append,h]
theorem zan {a b:List Int} {i:Nat}:(a++b).getD (a.length+i) 0=b.getD i 0:=by
 rw [g1q,List.getElem?_append_right (by omega),Nat.add_sub_cancel_left,←g1q]
def znU (a b:List Int) (l:Int):List Int :=
 if 0<a.length/\0<b.length/\zA (a.getD (a.length - 1) 0) (b.getD 0 0) l=true then [((a.length - 1:Nat):Int)] else []
theorem zv1 {a b:List Int} {l:Int} (ht:qE l=false):zQ (a++b) l=(zQ a l++znU a b l)++(zQ b l).map fun z=>(a.length:Int)+z:=by
 rw [zbk ht,zbk ht,zbk ht]
 unfold znU
 by_cases ha:0<a.length
 ·by_cases hb:0<b.length
  ·have e1:(a++b).length - 1=(a.length - 1)+1+(b.length - 1):=by rw [g6q];omega
   rw [e1,zk2,pick]
   rw [show a.length - 1+1=a.length from by omega]
   congr 1
   ·congr 1
    ·refine zg0 fun j hj=>?_
     simp only [pF]
     rw [zaJ (by omega),zaJ (by omega)]
    ·have:pF (a++b) l (a.length - 1)=zA (a.getD (a.length - 1) 0) (b.getD 0 0) l:=by
      simp only [pF]
      rw [zaJ (by omega)]
      have:=zan (a:=a) (b:=b) (i:=0)
      rw [Nat.add_zero] at this
      rw [show a.length - 1+1=a.length from by omega,this]
     rw [this]
     simp [ha,hb]
   ·congr 1
    refine zg0 fun j hj=>?_
    simp only [pF]
    rw [zan,show a.length+j+1=a.length+(j+1) from by omega,zan]
  ·have:b=[]:=List.eq_nil_of_length_eq_zero (by omega)
   subst this
   simp [pick]
 ·have:a=[]:=List.eq_nil_of_length_eq_zero (by omega)
  subst this
  simp [pick]
def Gap:Int->List Int->Prop
 | _,[]=>True
 | o,z::l=>o<=z/\Gap (z+2) l
theorem Gap.mono {o o':Int} (h:o'<=o):∀ {l:List Int},Gap o l->Gap o' l
 | [],_=>trivial
 | _::_,k=>⟨Int.le_trans h k.1,k.2⟩
theorem Gap.append:∀ {l l':List Int} {o q:Int},Gap o l->(∀ z∈l,z+2<=q)->o<=q->Gap q l'->Gap o (l++l')
 | [],l',o,q,_,_,ho,h=>Gap.mono ho h
 | z::l,l',o,q,h,hz,ho,h'=>⟨h.1,Gap.append h.2 (fun z' hz'=>hz z' (g4q _ hz')) (hz z g5q) h'⟩
theorem Gap.get:∀ {l:List Int} {o:Int} {k:Nat},Gap o l->k<l.length->(if k=0 then o else l.getD (k - 1) 0+2)<=l.getD k 0
 | z::l,o,0,h,_=>by simpa using h.1
 | z :: l,o,k + 1,h,hk => by
   have:=Gap.get (k:=k) h.2 (by simpa using hk)
   simp only [List.getD_cons_succ]
   by_cases h0:k=0
   ·subst h0;simpa using this
   ·simp only [h0,if_false] at this
    simp only [Nat.succ_ne_zero,Nat.add_one_ne_zero,if_false]
    obtain ⟨k,rfl⟩:∃ k',k=k'+1:=⟨k - 1,by omega⟩
    simpa using this
theorem zoY {p:Nat->Bool}:∀ {n:Nat} {z:Int},z∈pick p n->∃ j:Nat,z=j/\j<n/\p j=true
 | 0,z,h=>by cases h
 | n + 1,z,h => by
   simp only [pick,List.mem_append] at h
   rcases h with h|h
   ·obtain ⟨j,h1,h2,h3⟩:=zoY h;exact ⟨j,h1,by omega,h3⟩
   ·split at h
    ·rename_i hp
     simp only [List.mem_singleton] at h
     exact ⟨n,h,by omega,hp⟩
    ·cases h
theorem zmN {x y z l:Int} (ht:qE l=false) (h:zA x y l=true):zA y z l=false:=by
 have he:qr l=true:=by
  cases he:qr l with
  | true=>rfl
  | false=>simp [zA,he] at h
 have hn:¬qn l=122:=by unfold qE at ht;simpa [he] using ht
 rw [ziT he hn] at h ⊢
 simp only [Bool.and_eq_true,decide_eq_true_eq,Bool.not_eq_true',decide_eq_false_iff_not] at h
 simp [h.2]
theorem zoZ {p:Nat->Bool} (h:∀ j,p j=true->p (j+1)=false):∀ n,Gap 0 (pick p n)/\∀ z∈pick p n,z+2<=n+(if n=0 then 0 else if p (n - 1)=true then 1 else 0)
 | 0=>⟨trivial,fun z hz=>by cases hz⟩
 | n + 1 => by
   obtain ⟨h1,h2⟩:=zoZ h n
   simp only [Nat.add_one_ne_zero,if_false,Nat.add_sub_cancel]
   simp only [pick]
   by_cases hp:p n=true
   ·simp only [hp,if_true]
    have hb:∀ z∈pick p n,z+2<=(n:Int):=fun z hz=>by
     have:=h2 z hz
     by_cases h0:n=0
     ·subst h0;simp [pick] at hz
     ·have hq:¬p (n - 1)=true:=fun hq=>by
       have:=h (n - 1) hq
       rw [show n - 1+1=n from by omega,hp] at this
       cases this
      rw [if_neg h0,if_neg hq] at this
      omega
    refine ⟨Gap.append h1 hb (by omega) ⟨by omega,trivial⟩,fun z hz=>?_⟩
    rcases List.mem_append.1 hz with hz|hz
    ·have:=hb z hz;omega
    ·simp only [List.mem_singleton] at hz;omega
   ·rw [if_neg hp,List.append_nil]
    refine ⟨h1,fun z hz=>?_⟩
    have:=h2 z hz
    rw [if_neg hp]
    split at this
    ·omega
    ·split at this<;>omega
theorem zmO (g:Int × Int):∀ q:Nat,Gap g.1 (zaA g q)/\∀ z∈zaA g q,z+2<=g.1+2*(q:Int)
 | 0=>⟨trivial,fun z hz=>by simp [zaA] at hz⟩
 | q + 1 => by
   obtain ⟨h1,h2⟩:=zmO g q
   rw [zkZ]
   refine ⟨Gap.append h1 h2 (by omega) ⟨by omega,trivial⟩,fun z hz=>?_⟩
   rcases List.mem_append.1 hz with hz|hz
   ·have:=h2 z hz;omega
   ·simp only [List.mem_singleton] at hz;omega
theorem zo0:∀ (l:List (Int × Int)) (o:Int),(∀ g∈l,1<=g.2)->Gap o (ya (vv o l))
 | [],_,_=>trivial
 | (y,t) :: r,o,h => by
   have h0:=h (y,t) g5q
   have ih:=zo0 r (o+t) (fun g hg=>h g (g4q _ hg))
   simp only at h0
   simp only [vv,zcj]
   split
   ·have e:ya [(o,t)]=zaA (o,t) (t/2).toNat:=by simp [ya,zmM];rfl
    rw [e]
    obtain ⟨h1,h2⟩:=zmO (o,t) (t/2).toNat
    exact Gap.append h1 (fun z hz=>by have:=h2 z hz;simp only at this;omega) (by omega) ih
   ·simp only [ya,List.flatMap_nil,List.nil_append]
    exact Gap.mono (by omega) ih
theorem ztz (xs:List Int) (l:Int):Gap 0 (zQ xs l):=by
 by_cases ht:qE l=true
 ·have he:qr l=true:=by unfold qE at ht;simp only [Bool.and_eq_true] at ht;exact ht.1
  have hn:qn l=122:=by unfold qE at ht;simpa [he] using ht
  simp only [zQ,he,hn,if_true]
  exact zo0 _ 0 (kB xs)
 ·have ht:qE l=false:=by simpa using ht
  rw [zbk ht]
  exact (zoZ (p:=pF xs l) (fun j hj=>zmN ht hj) _).1
theorem zie {xs:List Int} {l z:Int} (h:z∈zQ xs l):0<=z/\z+1<xs.length/\zA (xs.getD z.toNat 0) (xs.getD (z+1).toNat 0) l=true:=by
 by_cases ht:qE l=true
 ·have he:qr l=true:=by unfold qE at ht;simp only [Bool.and_eq_true] at ht;exact ht.1
  have hn:qn l=122:=by unfold qE at ht;simpa [he] using ht
  simp only [zQ,he,hn,if_true] at h
  obtain ⟨h1,h2,h3⟩:=zty h
  refine ⟨h1,h2,?_⟩
  simp only [zA,he,hn,if_true,Bool.true_and,decide_eq_true_eq]
  exact h3
 ·have ht:qE l=false:=by simpa using ht
  rw [zbk ht] at h
  obtain ⟨j,rfl,h1,h2⟩:=zoY h
  refine ⟨by omega,by omega,?_⟩
  rw [g7q,show ((j:Int)+1).toNat=j+1 from by omega]
  exact h2
def jN (x y c:Int):Bool:=if c=122 then decide (x=y) else decide (jp x (c/2)=c%2)&&decide (jp y (c/2)=1 - c%2)
theorem zo1 {x y l:Int} (h:qr l=true):zA x y l=jN x y (qn l):=by
 unfold zA jN;rw [h,Bool.true_and]
structure Least (x y c r:Int):Prop where
 none:r<0->∀ c',c<=c'->c'<=122->jN x y c'=false
 some:0<=r->c<=r/\r<=122/\jN x y r=true/\∀ c',c<=c'->c'<r->jN x y c'=false
 low:-1<=r
theorem zg3 (x b:Nat):jp x b=if x.testBit b then 1 else 0:=by
 have h0:jp x b=((x/2 ^ b%2:Nat):Int):=by
  unfold jp
  rw [g7q]
  norm_cast
 rw [h0,Nat.testBit_eq_decide_div_mod_eq]
 by_cases h:x/2 ^ b%2=1
 ·simp [h]
 ·have:x/2 ^ b%2=0:=by omega
  simp [this]
theorem zeb {x y b v:Nat} (hb:b<=60) (hv:v<=1):jN x y ((2*b+v:Nat):Int)=true↔(x.testBit b=decide (v=1)/\y.testBit b=!decide (v=1)):=by
 have e1:((2*b+v:Nat):Int)/2=(b:Nat):=by omega
 have e2:((2*b+v:Nat):Int)%2=(v:Nat):=by omega
 have e3:¬((2*b+v:Nat):Int)=122:=by omega
 unfold jN
 rw [if_neg e3,e1,e2,zg3,zg3]
 rcases (by omega:v=0∨v=1) with rfl|rfl<;>cases x.testBit b<;>cases y.testBit b<;>simp
def zac (x y c:Nat):Nat :=
 let d:=(((x ^^^ y)&&&2305843009213693951)/2 ^ (c/2))*2 ^ (c/2)
 if c%2=1/\x/2 ^ (c/2)%2=0 then d ^^^ (d&&&2 ^ (c/2)) else d
theorem zmP (x y c b:Nat):((((x ^^^ y)&&&2305843009213693951)/2 ^ (c/2))*2 ^ (c/2)).testBit b=(decide (c/2<=b)&&(decide (b<61)&&(x.testBit b ^^ y.testBit b))):=by
 rw [show (2305843009213693951:Nat)=2 ^ 61 - 1 from rfl,Nat.testBit_mul_two_pow,Nat.testBit_div_two_pow,Nat.testBit_and,Nat.testBit_xor,Nat.testBit_two_pow_sub_one]
 by_cases h:c/2<=b
 ·rw [show b - c/2+c/2=b from by omega]
  simp [h,Bool.and_comm]
 ·simp [h]
theorem diff_test {x y c b:Nat}:(zac x y c).testBit b=true↔(b<=60/\x.testBit b≠y.testBit b/\c<=2*b+(if x.testBit b then 1 else 0)):=by
 have hx2:x/2 ^ (c/2)%2=0↔x.testBit (c/2)=false:=by
  rw [Nat.testBit_eq_decide_div_mod_eq]
  simp
 unfold zac
 simp only
 split
 ·rename_i hc
  rw [Nat.testBit_xor,Nat.testBit_and,zmP,Nat.testBit_two_pow]
  have h0:=hx2.1 hc.2
  by_cases hb:b=c/2
  ·subst hb
   simp only [decide_true,Bool.and_true,Bool.xor_self,Bool.false_eq_true,false_iff,not_and,h0,if_false]
   intro _ _;omega
  ·have hb':¬c/2=b:=fun h=>hb h.symm
   simp only [hb',decide_false,Bool.and_false,Bool.xor_false,Bool.and_eq_true,decide_eq_true_eq]
   constructor
   ·rintro ⟨h1,h2,h3⟩
    exact ⟨by omega,by cases hx:x.testBit b<;>cases hy:y.testBit b<;>simp_all,by split<;>omega⟩
   ·rintro ⟨h1,h2,h3⟩
    refine ⟨by split at h3<;>omega,by omega,by cases hx:x.testBit b<;>cases hy:y.testBit b<;>simp_all⟩
 ·rename_i hc
  rw [zmP]
  simp only [Bool.and_eq_true,decide_eq_true_eq]
  constructor
  ·rintro ⟨h1,h2,h3⟩
   refine ⟨by omega,by cases hx:x.testBit b<;>cases hy:y.testBit b<;>simp_all,?_⟩
   split
   ·omega
   ·rename_i hxb
    by_cases hb:b=c/2
    ·subst hb
     have:¬c%2=1:=fun h=>hc ⟨h,hx2.2 (by simpa using hxb)⟩
     omega
    ·omega
  ·rintro ⟨h1,h2,h3⟩
   exact ⟨by split at h3<;>omega,by omega,by cases hx:x.testBit b<;>cases hy:y.testBit b<;>simp_all⟩
theorem zo2 {x:Nat} (h0:0<x) (h:x<2 ^ 64):x.testBit (Lib.ctz 64 x)=true/\Lib.ctz 64 x<64/\∀ b,b<Lib.ctz 64 x->x.testBit b=false:=by
 obtain ⟨m,hm,hl⟩:=Lib.ctzFrom_spec 64 x h0 h
 have e:Lib.ctz 64 x=Lib.ctzFrom 64 x:=by unfold Lib.ctz;rw [if_neg (by omega)]
 rw [e]
 generalize Lib.ctzFrom 64 x=k at hm hl
 subst hm
 refine ⟨?_,hl,fun b hb=>?_⟩
 ·rw [Nat.testBit_two_pow_mul];simp
 ·rw [Nat.testBit_two_pow_mul];simp;omega
def yh (x y c:Nat):Int :=
 if x=y then 122 else if c=122 then -1 else if zac x y c=0 then -1 else
  2*(Lib.ctz 64 (zac x y c):Int)+(if x.testBit (Lib.ctz 64 (zac x y c)) then 1 else 0)
theorem zrl (x y c:Nat):zac x y c<2 ^ 61:=by
 apply Nat.lt_pow_two_of_testBit
 intro i hi
 cases h:(zac x y c).testBit i with
 | false=>rfl
 | true=>have:=(diff_test.1 h).1;omega
theorem zg4 {c:Int} (h0:0<=c) (h1:c<122):∃ b v:Nat,c=((2*b+v:Nat):Int)/\b<=60/\v<=1:=⟨(c/2).toNat,(c%2).toNat,by omega,by omega,by omega⟩
theorem zc4 {x y c:Nat} (hc:c<=122):Least x y c (yh x y c):=by
 unfold yh
 by_cases hxy:x=y
 ·subst hxy
  rw [if_pos rfl]
  refine ⟨fun h=>by omega,fun _=>⟨by omega,by omega,by simp [jN],fun c' h1 h2=>?_⟩,by omega⟩
  obtain ⟨b,v,rfl,hb,hv⟩:=zg4 (by omega) h2
  cases h:jN (x:Int) x ((2*b+v:Nat):Int) with
  | false=>rfl
  | true =>
    have:=(zeb hb hv).1 h
    rw [this.1] at this
    simp at this
 ·rw [if_neg hxy]
  have h122:jN (x:Int) y 122=false:=by
   have:¬(x:Int)=y:=by omega
   simp [jN,this]
  by_cases h1:c=122
  ·rw [if_pos h1]
   refine ⟨fun _ c' h2 h3=>?_,fun h=>by omega,by omega⟩
   rw [show c'=122 from by omega];exact h122
  ·rw [if_neg h1]
   have key:∀ b v:Nat,b<=60->v<=1->c<=2*b+v->jN (x:Int) y ((2*b+v:Nat):Int)=true->(zac x y c).testBit b=true/\(if x.testBit b then 1 else 0)=v:=fun b v hb hv hcb hf=>by
    obtain ⟨f1,f2⟩:=(zeb hb hv).1 hf
    have e:(if x.testBit b then 1 else 0)=v:=by
     rw [f1]
     rcases (by omega:v=0∨v=1) with rfl|rfl<;>simp
    refine ⟨diff_test.2 ⟨hb,by rw [f1,f2];cases decide (v=1)<;>simp,by rw [e];exact hcb⟩,e⟩
   by_cases hd:zac x y c=0
   ·rw [if_pos hd]
    refine ⟨fun _ c' h2 h3=>?_,fun h=>by omega,by omega⟩
    by_cases h4:c'=122
    ·rw [h4];exact h122
    ·obtain ⟨b,v,rfl,hb,hv⟩:=zg4 (c:=c') (by omega) (by omega)
     cases hf:jN (x:Int) y ((2*b+v:Nat):Int) with
     | false=>rfl
     | true =>
       have:=(key b v hb hv (by omega) hf).1
       rw [hd] at this
       simp at this
   ·rw [if_neg hd]
    have hlt:=zrl x y c
    obtain ⟨t1,t2,t3⟩:=zo2 (x:=zac x y c) (by omega) (by omega)
    generalize Lib.ctz 64 (zac x y c)=k at t1 t2 t3
    obtain ⟨d1,d2,d3⟩:=diff_test.1 t1
    have hv:(if x.testBit k then 1 else 0)<=1:=by split<;>omega
    have hr:2*(k:Int)+(if x.testBit k then 1 else 0)=((2*k+(if x.testBit k then 1 else 0):Nat):Int):=by split<;>omega
    rw [hr]
    generalize hvv:(if x.testBit k then 1 else 0)=v at *
    refine ⟨fun h=>by omega,fun _=>⟨by omega,by omega,(zeb d1 hv).2 ?_,fun c' h2 h3=>?_⟩,by omega⟩
    ·cases hx:x.testBit k<;>cases hy:y.testBit k<;>rw [hx] at hvv<;>rw [hx,hy] at d2<;>simp at hvv d2<;>subst hvv<;>simp
    ·obtain ⟨b,v',rfl,hb,hv'⟩:=zg4 (c:=c') (by omega) (by omega)
     cases hf:jN (x:Int) y ((2*b+v':Nat):Int) with
     | false=>rfl
     | true =>
       obtain ⟨k1,k2⟩:=key b v' hb hv' (by omega) hf
       exfalso
       by_cases hbk:b<k
       ·rw [t3 b hbk] at k1;cases k1
       ·by_cases hbe:b=k
        ·subst hbe
         rw [k2] at hvv
         omega
        ·omega
structure Aft (low x y r:Int):Prop where
 zero:r=0->∀ l,low<l->l<=low+246->zA x y l=false
 some:r≠0->low<r/\r<=low+246/\zA x y r=true/\∀ l,low<l->l<r->zA x y l=false
def zbV (p:Int->Bool):Nat->Int->Int
 | 0,_=>0
 | n+1,k=>if p k=true then k else zbV p n (k+1)
def kH (low x y:Int):Int:=zbV (zA x y) 246 (low+1)
theorem zmQ {p:Int->Bool}:∀ {n:Nat} {k:Int},(∀ l,k<=l->l<k+n->p l=false)->zbV p n k=0
 | 0,_,_=>rfl
 | n + 1,k,h => by
   simp only [zbV]
   rw [if_neg (by rw [h k (by omega) (by omega)];simp)]
   exact zmQ fun l h1 h2=>h l (by omega) (by omega)
theorem zmR {p:Int->Bool} {r:Int} (hr:p r=true):∀ {n:Nat} {k:Int},k<=r->r<k+n->(∀ l,k<=l->l<r->p l=false)->zbV p n k=r
 | 0,k,h1,h2,_=>by omega
 | n + 1,k,h1,h2,h => by
   simp only [zbV]
   by_cases hk:k=r
   ·rw [hk,if_pos hr]
   ·rw [if_neg (by rw [h k (by omega) (by omega)];simp)]
    exact zmR hr (by omega) (by omega) fun l h3 h4=>h l (by omega) h4
theorem Aft.eq {low x y r:Int} (h:Aft low x y r):r=kH low x y:=by
 unfold kH
 by_cases h0:r=0
 ·rw [zmQ fun l h1 h2=>h.zero h0 l (by omega) (by omega)];exact h0
 ·obtain ⟨h1,h2,h3,h4⟩:=h.some h0
  rw [zmR h3 (by omega) (by omega) fun l h5 h6=>h4 l (by omega) h6]
theorem zrm {l:Int} (h:2<=l) (h':l%2=0):qr l=true:=by unfold qr;simp;omega
theorem zwA {l:Int} (h:l<2∨l%2≠0):qr l=false:=by unfold qr;simp;omega
def zk3 (low x y:Nat):Int :=
 let j:=low/2+1
 let c:=(j - 1)%123
 if 0<=yh x y c then 2*((j:Int)+yh x y c - c)
 else if 0<=yh x y 0 then 2*((j:Int)+yh x y 0 - c+123) else 0
theorem zmS (low x y:Nat):Aft low x y (zk3 low x y):=by
 unfold zk3
 simp only
 generalize hj:low/2+1=j
 generalize hc:(j - 1)%123=c
 have hc1:c<=122:=by omega
 have L1:=zc4 (x:=x) (y:=y) hc1
 have L0:=zc4 (x:=x) (y:=y) (c:=0) (by omega)
 generalize yh x y c=n1 at L1
 generalize yh x y 0=n0 at L0
 have odd:∀ l:Int,l%2≠0->zA x y l=false:=fun l h=>by unfold zA;rw [zwA (.inr h)];rfl
 have num:∀ d:Int,0<=d->d<=122->qn (2*((j:Int)+d))=if (c:Int)+d<=122 then c+d else c+d - 123:=fun d h1 h2=>by
  unfold qn;split<;>omega
 have fit:∀ d:Int,0<=d->d<=122->zA x y (2*((j:Int)+d))=jN x y (if (c:Int)+d<=122 then c+d else c+d - 123):=fun d h1 h2=>by
  rw [zo1 (zrm (by omega) (by omega)),num d h1 h2]
 have lev:∀ l:Int,(low:Int)<l->l<=low+246->l%2=0->∃ d:Int,0<=d/\d<=122/\l=2*(j+d):=fun l h1 h2 h3=>⟨l/2 - j,by omega,by omega,by omega⟩
 by_cases h1:0<=n1
 ·rw [if_pos h1]
  obtain ⟨a1,a2,a3,a4⟩:=L1.some h1
  refine ⟨fun h=>by omega,fun _=>⟨by omega,by omega,?_,fun l h2 h3=>?_⟩⟩
  ·rw [show 2*((j:Int)+n1 - c)=2*((j:Int)+(n1 - c)) from by omega,fit _ (by omega) (by omega),if_pos (by omega),show (c:Int)+(n1 - c)=n1 from by omega]
   exact a3
  ·by_cases h4:l%2=0
   ·obtain ⟨d,d1,d2,rfl⟩:=lev l h2 (by omega) h4
    rw [fit d d1 d2,if_pos (by omega)]
    exact a4 _ (by omega) (by omega)
   ·exact odd l h4
 ·rw [if_neg h1]
  have N1:=L1.none (by omega)
  by_cases h0:0<=n0
  ·rw [if_pos h0]
   obtain ⟨a1,a2,a3,a4⟩:=L0.some h0
   have hlt:n0<c:=by
    by_cases h:n0<c
    ·exact h
    ·rw [N1 n0 (by omega) a2] at a3;cases a3
   refine ⟨fun h=>by omega,fun _=>⟨by omega,by omega,?_,fun l h2 h3=>?_⟩⟩
   ·rw [show 2*((j:Int)+n0 - c+123)=2*((j:Int)+(n0 - c+123)) from by omega,fit _ (by omega) (by omega),if_neg (by omega),show (c:Int)+(n0 - c+123) - 123=n0 from by omega]
    exact a3
   ·by_cases h4:l%2=0
    ·obtain ⟨d,d1,d2,rfl⟩:=lev l h2 (by omega) h4
     rw [fit d d1 d2]
     split
     ·exact N1 _ (by omega) (by omega)
     ·exact a4 _ (by omega) (by omega)
    ·exact odd l h4
  ·rw [if_neg h0]
   have N0:=L0.none (by omega)
   refine ⟨fun _ l h2 h3=>?_,fun h=>absurd rfl h⟩
   by_cases h4:l%2=0
   ·obtain ⟨d,d1,d2,rfl⟩:=lev l h2 h3 h4
    rw [fit d d1 d2]
    split
    ·exact N0 _ (by omega) (by omega)
    ·exact N0 _ (by omega) (by omega)
   ·exact odd l h4
theorem zmT (low x y:Nat):zk3 low x y=kH low x y:=(zmS low x y).eq
theorem zec (low x y:Nat):Aft low x y (kH low x y):=by rw [←zmT];exact zmS low x y
theorem zck {low:Int} {x y:Nat} (h0:0<=low) (hx:x<2 ^ 61) (hy:y<2 ^ 61):kH low x y≠0:=by
 obtain ⟨low,rfl⟩:=Int.eq_ofNat_of_zero_le h0
 intro hz
 have hn:=(zec low x y).zero hz
 have lev:∀ c:Int,0<=c->c<=122->∃ l:Int,(low:Int)<l/\l<=low+246/\qr l=true/\qn l=c:=fun c h1 h2=>by
  refine ⟨2*((low/2+1:Nat)+(c - ((low/2:Nat)%123:Nat))%123),by omega,by omega,zrm (by omega) (by omega),?_⟩
  unfold qn;omega
 have nf:∀ c:Int,0<=c->c<=122->jN x y c=false:=fun c h1 h2=>by
  obtain ⟨l,l1,l2,l3,l4⟩:=lev c h1 h2
  rw [←l4,←zo1 l3]
  exact hn l l1 l2
 by_cases hxy:x=y
 ·have:=nf 122 (by omega) (by omega)
  simp [jN,hxy] at this
 ·apply hxy
  apply Nat.eq_of_testBit_eq
  intro b
  by_cases hb:b<=60
  ·cases h1:x.testBit b<;>cases h2:y.testBit b<;>try rfl
   ·have:=nf ((2*b+0:Nat):Int) (by omega) (by omega)
    rw [(zeb (x:=x) (y:=y) hb (by omega)).2 ⟨by simp [h1],by simp [h2]⟩] at this
    cases this
   ·have:=nf ((2*b+1:Nat):Int) (by omega) (by omega)
    rw [(zeb (x:=x) (y:=y) hb (by omega)).2 ⟨by simp [h1],by simp [h2]⟩] at this
    cases this
  ·rw [Nat.testBit_lt_two_pow (Nat.lt_of_lt_of_le hx (Nat.pow_le_pow_right (by decide) (by omega))),Nat.testBit_lt_two_pow (Nat.lt_of_lt_of_le hy (Nat.pow_le_pow_right (by decide) (by omega)))]
end
section
open Go.EG
attribute [local irreducible] z8 yN Go.Calls
set_option maxRecDepth 20000
def tabI:List Int:=Lib.deBruijn64tab.map fun n:Nat=>(n:Int)
theorem zcl:tabI.length=64:=by decide
theorem zu8 (i:Nat):tabI.getD i 0=((Lib.deBruijn64tab.getD i 0:Nat):Int):=by
 unfold tabI
 rw [g1q,List.getElem?_map,g1q]
 cases Lib.deBruijn64tab[i]?<;>rfl
abbrev Tab (w:World):Prop:=In w [] (some ⟨0,0,none⟩) (zt .u8 tabI)
theorem rdG {w0:World} {fp0:List Nat} {L:List Ent} {k:IntKind} {g:Nat} {zs:List Int} {i:Nat} (hx:In w0 fp0 (some ⟨g,0,none⟩) (zt k zs)) (h:i<zs.length):Rd w0 fp0 L (.v (.pointer (some ((⟨g,0,none⟩:Addr).add i)))) [.int k (zs.getD i 0)] :=
 rdI hx h
theorem zu9 (x:Nat) (h0:0<x) (h1:x<18446744073709551616) (w:World) (hG:Tab w):Calls Tryz.prog xK #[.int .u64 x] w fun e w'=>e=.returned (.int .i64 (Lib.ctz 64 x))/\Ext w w':=by
 refine zN [.v (.int .u64 x)] w zbS (by simp) ?_
 obtain ⟨hlow,hk⟩:=Lib.lowest_bit 64 x (by omega) h1
 obtain ⟨hi,htab⟩:=Lib.deBruijn64_at _ hk
 generalize Lib.ctz 64 x=k at *
 have hn:(0 - (x:Int))%18446744073709551616=((18446744073709551616 - x:Nat):Int):=by omega
 have hb:(((x:Int).toNat&&&((0 - (x:Int))%18446744073709551616).toNat:Nat):Int)=((2 ^ k:Nat):Int):=by
  rw [hn,g7q,g7q]
  rw [show 18446744073709551616 - x=2 ^ 64 - x from rfl,hlow]
 have hx:((2 ^ k:Nat):Int)*285870213051353865%18446744073709551616/((2 ^ (58:Int).toNat:Nat):Int)=((2 ^ k*285870213051353865%18446744073709551616/288230376151711744:Nat):Int):=by
  rw [Int.natCast_ediv,Int.natCast_emod,Int.natCast_mul];rfl
 generalize hidx:2 ^ k*285870213051353865%18446744073709551616/288230376151711744=idx at *
 have h2:(0:Int)<=(0 - (x:Int))%18446744073709551616/\(0 - (x:Int))%18446744073709551616<=18446744073709551615:=by omega
 have h3:tabI.getD idx 0=(k:Int):=by rw [zu8,htab]
 (repeat' ((conv=>whnf);first|rw [hb]|rw [hx]|rw [g7q]|rw [h3]|refine ⟨_,rdG hG (by rw [zcl];exact hi),?_⟩|((first|apply zb|apply za|apply zc)<;>intro h<;>try (exfalso;omega))|refine pay ?_|refine And.intro (by first|exact ⟨by omega,by omega,h2.1,h2.2⟩|exact ⟨by decide,by show _<=(64:Int);decide⟩) ?_|intro _));(all_goals (conv=>whnf))
 exact ⟨rfl⟩
theorem ztA (x k:Nat):jp (x:Int) (k:Int)=((x/2 ^ k%2:Nat):Int):=by
 unfold jp
 rw [g7q]
 norm_cast
theorem zhw (c x y:Nat) (hc:c<=122) (hx:x<18446744073709551616) (hy:y<18446744073709551616) (w:World) (hG:Tab w) :
 Calls Tryz.prog jv #[.int .i64 c,.int .u64 x,.int .u64 y] w fun e w'=>e=.returned (.int .i64 (yh x y c))/\Ext w w':=by
 refine zN [.v (.int .i64 c),.v (.int .u64 x),.v (.int .u64 y)] w zkS (by simp) ?_
 have hd:=zrl x y c
 have hxor:x ^^^ y<2 ^ 64:=Nat.xor_lt_two_pow (by omega) (by omega)
 have hand:(x ^^^ y)&&&2305843009213693951<2 ^ 61:=Nat.and_lt_two_pow _ (by decide)
 have c2:(c:Int)/2=((c/2:Nat):Int):=by omega
 have hp:2 ^ (c/2)<=2305843009213693952:=Nat.pow_le_pow_right (i:=c/2) (j:=61) (by decide) (by omega)
 have h32:x/2 ^ (c/2)&&&1=x/2 ^ (c/2)%2:=Nat.and_one_is_mod _
 have hle:(((x ^^^ y)&&&2305843009213693951)/2 ^ (c/2))*2 ^ (c/2)<=(x ^^^ y)&&&2305843009213693951:=Nat.div_mul_le_self _ _
 have h31b:x/2 ^ (c/2)<=x:=Nat.div_le_self _ _
 have h20b:((x ^^^ y)&&&2305843009213693951)/2 ^ (c/2)<=(x ^^^ y)&&&2305843009213693951:=Nat.div_le_self _ _
 have hD:zac x y c=if c%2=1/\x/2 ^ (c/2)%2=0 then (((x ^^^ y)&&&2305843009213693951)/2 ^ (c/2))*2 ^ (c/2) ^^^ ((((x ^^^ y)&&&2305843009213693951)/2 ^ (c/2))*2 ^ (c/2)&&&2 ^ (c/2)) else (((x ^^^ y)&&&2305843009213693951)/2 ^ (c/2))*2 ^ (c/2):=rfl
 generalize hq:2 ^ (c/2)=q at *
 generalize hz:(x ^^^ y)&&&2305843009213693951=z at *
 have h20:(z:Int)/(q:Int)=((z/q:Nat):Int):=by rw [Int.natCast_ediv]
 have h23:((z/q:Nat):Int)*(q:Int)%18446744073709551616=((z/q*q:Nat):Int):=by
  rw [←Int.natCast_mul]
  generalize z/q*q=zz at hle
  omega
 have hz1:z/q*q<=z:=hle
 have h38:(1:Int)*(q:Int)%18446744073709551616=(q:Int):=by omega
 have h31:(x:Int)/(q:Int)=((x/q:Nat):Int):=by rw [Int.natCast_ediv]
 generalize hd0:z/q*q=d0 at *
 generalize hzq:z/q=zq at *
 generalize hxq:x/q=xq at *
 have hxd:d0 ^^^ (d0&&&q)<2 ^ 64:=Nat.xor_lt_two_pow (by omega) (Nat.lt_of_le_of_lt Nat.and_le_left (by omega))
 have hN:∀ D,zac x y c=D->¬x=y->¬c=122->yh x y c=if D=0 then -1 else 2*(Lib.ctz 64 D:Int)+(if x.testBit (Lib.ctz 64 D) then 1 else 0):=fun D hD h1 h2=>by
  unfold yh;rw [if_neg h1,if_neg h2,hD]
 have tz:∀ D:Nat,D<2 ^ 64->∃ k v:Nat,Lib.ctz 64 D=k/\(0<D->k<64)/\v<=1/\(if x.testBit k then 1 else 0)=v/\((((x:Int)/((2 ^ k:Nat):Int)).toNat&&&1:Nat):Int)=(v:Int):=fun D hD=>by
  refine ⟨Lib.ctz 64 D,if x.testBit (Lib.ctz 64 D) then 1 else 0,rfl,fun h=>(zo2 h hD).2.1,by split<;>omega,rfl,?_⟩
  rw [←Int.natCast_ediv,g7q,Nat.and_one_is_mod,←ztA,zg3]
  split<;>rfl
 obtain ⟨k1,v1,hk1,hk1b,hv1,hv1d,hb1⟩:=tz d0 (by omega)
 obtain ⟨k2,v2,hk2,hk2b,hv2,hv2d,hb2⟩:=tz (d0 ^^^ (d0&&&q)) (by omega)
 have hvi1:(if x.testBit k1 then 1 else 0:Int)=(v1:Int):=by rw [←hv1d];split<;>rfl
 have hvi2:(if x.testBit k2 then 1 else 0:Int)=(v2:Int):=by rw [←hv2d];split<;>rfl
 generalize hd2:d0 ^^^ (d0&&&q)=d2 at *
 have m61:(2305843009213693951:Int).toNat=2305843009213693951:=rfl
 have m1:(1:Int).toNat=1:=rfl
 (repeat' ((conv=>whnf);first|rw [c2]|rw [g7q]|rw [m61]|rw [m1]|rw [h20]|rw [h23]|rw [h38]|rw [h31]|rw [h32]|rw [hq]|rw [hz]|rw [hd2]|rw [hk1]|rw [hk2]|rw [hb1]|rw [hb2]|refine zv (.v _) (fun w hR=>zu9 _ (by omega) (by omega) w (hG.cast hR (by simp))) ?_|((first|apply zb|apply za|apply zc)<;>intro h<;>try (exfalso;omega))|refine pay ?_|refine And.intro (by first|exact ⟨by omega,by show _<=(64:Int);omega⟩|exact ⟨Int.ediv_nonneg (by omega) (Int.natCast_nonneg _),Int.le_trans (Int.ediv_le_self _ (by omega)) (by omega),by decide,by decide⟩) ?_|intro _));(all_goals (conv=>whnf))
 ·refine ⟨?_⟩
  unfold yh
  rw [if_pos (by omega)]
 ·refine ⟨?_⟩
  unfold yh
  rw [if_neg (by omega),if_pos (by omega)]
 ·rw [if_pos ⟨by omega,by omega⟩] at hD
  exact ⟨by rw [hN _ hD (by omega) (by omega),if_pos (by omega)]⟩
 ·rw [if_pos ⟨by omega,by omega⟩] at hD
  exact ⟨by rw [hN _ hD (by omega) (by omega),if_neg (by omega),hk2,hvi2]⟩
 ·rw [if_neg (by omega)] at hD
  exact ⟨by rw [hN _ hD (by omega) (by omega),if_pos (by omega)]⟩
 ·rw [if_neg (by omega)] at hD
  exact ⟨by rw [hN _ hD (by omega) (by omega),if_neg (by omega),hk1,hvi1]⟩
 ·rw [if_neg (by omega)] at hD
  exact ⟨by rw [hN _ hD (by omega) (by omega),if_pos (by omega)]⟩
 ·rw [if_neg (by omega)] at hD
  exact ⟨by rw [hN _ hD (by omega) (by omega),if_neg (by omega),hk1,hvi1]⟩
theorem zf4 {x y c:Nat} (hc:c<=122):-1<=yh x y c/\yh x y c<=122:=by
 have h:=zc4 (x:=x) (y:=y) hc
 refine ⟨h.low,?_⟩
 by_cases h0:0<=yh x y c
 ·exact (h.some h0).2.1
 ·omega
theorem zqt (low x y:Nat) (hl:low<=1152921504606846976) (hx:x<18446744073709551616) (hy:y<18446744073709551616) (w:World) (hG:Tab w) :
 Calls Tryz.prog zcX #[.int .i64 low,.int .u64 x,.int .u64 y] w fun e w'=>e=.returned (.int .i64 (kH low x y))/\Ext w w':=by
 refine zN [.v (.int .i64 low),.v (.int .u64 x),.v (.int .u64 y)] w znn (by simp) ?_
 rw [←zmT]
 unfold zk3
 simp only
 have ej:(low:Int)/2+1=((low/2+1:Nat):Int):=by omega
 generalize hj:low/2+1=j at *
 have hjb:1<=j:=by omega
 have ec:((j:Int) - 1)%123=(((j - 1)%123:Nat):Int):=by omega
 generalize hc:(j - 1)%123=c at *
 have hc1:c<=122:=by omega
 have r1:=zf4 (x:=x) (y:=y) hc1
 have r0:=zf4 (x:=x) (y:=y) (c:=0) (by omega)
 have k1:=fun w hG=>zhw c x y hc1 hx hy w hG
 have k0:=fun w hG=>zhw 0 x y (by omega) hx hy w hG
 generalize yh x y c=n1 at *
 generalize yh x y 0=n0 at *
 (repeat' ((conv=>whnf);first|rw [ej]|rw [ec]|refine zv (.v _) (fun w hR=>k1 w (hG.cast hR (by simp))) ?_|refine zv (.v _) (fun w hR=>k0 w (hG.cast hR (by simp))) ?_|((first|apply zb|apply za|apply zc)<;>intro h<;>try (exfalso;omega))|refine pay ?_|intro _));(all_goals (conv=>whnf))
 ·exact ⟨by rw [if_pos h]⟩
 ·rename_i h1
  exact ⟨by rw [if_neg h1,if_pos h]⟩
 ·rename_i h1
  exact ⟨by rw [if_neg h1,if_neg h]⟩
end
section
open Go.EG
def Tm.key:Tm->Nat
 | .nil=>0
 | .lt l=>zgR 1 l 0
 | .pr a b=>zgR 2 a.key b.key
 | .pw a k=>zgR 3 a.key k
def Tm.level:Tm->Int
 | .nil=>0
 | .lt _=>0
 | .pr a b=>if a≠b/\0<=a.level/\0<=b.level then kH (max a.level b.level) a.key b.key else -1
 | .pw a _=>if 0<=a.level/\a.level%2=0 then a.level+1 else -1
theorem Tm.key_lt (m:Tm):m.key<PP:=by
 cases m
 ·exact (by decide:0<PP)
 ·exact zl6 _ _ _
 ·exact zl6 _ _ _
 ·exact zl6 _ _ _
theorem Tm.key_lt' (m:Tm):m.key<18446744073709551616:=Nat.lt_trans m.key_lt (by decide)
theorem zif (low x y:Int) (h:0<=low):0<=kH low x y/\kH low x y<=low+246:=by
 have key:∀ (n:Nat) (p:Int->Bool) (k:Int),0<=k->0<=zbV p n k/\zbV p n k<=k+n - 1∨zbV p n k=0:=by
  intro n
  induction n with
  | zero=>intro p k hk;exact .inr rfl
  | succ n ih =>
    intro p k hk
    have e:zbV p (n+1) k=if p k=true then k else zbV p n (k+1):=rfl
    rw [e]
    split
    ·exact .inl ⟨hk,by omega⟩
    ·rcases ih p (k+1) (by omega) with h|h
     ·exact .inl ⟨h.1,by omega⟩
     ·exact .inr h
 rcases key 246 (zA x y) (low+1) (by omega) with h1|h1
 ·have:kH low x y=zbV (zA x y) 246 (low+1):=rfl
  omega
 ·have:kH low x y=zbV (zA x y) 246 (low+1):=rfl
  omega
theorem WF.lev {S:Sto} (h:WF S):∀ (k:Nat) (n:Int),n=k->1<=n->n<=S.E.length->-1<=(tm S.E n).level/\(tm S.E n).level<=246*k:=by
 intro k
 induction k using Nat.strongRecOn with
 | ind k ih =>
   intro n hk h0 h1
   obtain ⟨hr,_,ht,_⟩:=h.at_ h0 h1
   rw [ht]
   unfold mkT
   rcases hr with hr|⟨h1',h2',h3',h4',h5',h6',h7'⟩|⟨h1',h2',h3',h4',h5',h6'⟩
   ·rw [if_pos hr.1];exact ⟨by simp [Tm.level],by simp [Tm.level];omega⟩
   ·rw [if_neg (by omega),if_pos h1']
    have i1:=ih (atE S.E n).r.a.toNat (by omega) (atE S.E n).r.a (by omega) h4' (by omega)
    have i2:=ih (atE S.E n).r.b.toNat (by omega) (atE S.E n).r.b (by omega) h6' (by omega)
    simp only [Tm.level]
    split
    ·rename_i hc
     have:=zif (max (tm S.E (atE S.E n).r.a).level (tm S.E (atE S.E n).r.b).level) (tm S.E (atE S.E n).r.a).key (tm S.E (atE S.E n).r.b).key (by omega)
     omega
    ·omega
   ·rw [if_neg (by omega),if_neg (by omega)]
    have i1:=ih (atE S.E n).r.a.toNat (by omega) (atE S.E n).r.a (by omega) h5' (by omega)
    simp only [Tm.level]
    split<;>omega
theorem WF.lev' {S:Sto} (h:WF S) {n:Int} (h0:0<=n) (h1:n<=S.E.length):-1<=(tm S.E n).level/\(tm S.E n).level<=257949696:=by
 by_cases hz:n=0
 ·subst hz;rw [zri];exact ⟨by decide,by decide⟩
 ·have:=h.lev n.toNat n (by omega) (by omega) h1
  have:=h.small
  omega
theorem WF.inj {S:Sto} (h:WF S):∀ (k:Nat) (i j:Int),i=k->1<=i->i<=S.E.length->1<=j->j<=S.E.length->tm S.E i=tm S.E j->i=j:=by
 intro k
 induction k using Nat.strongRecOn with
 | ind k ih =>
   intro i j hk h0 h1 k0 k1 he
   obtain ⟨hr,hl,ht,_,hu⟩:=h.at_ h0 h1
   obtain ⟨hr',hl',ht',_,hu'⟩:=h.at_ k0 k1
   rw [ht,ht'] at he
   have hrul:(atE S.E i).r=(atE S.E j).r:=by
    unfold mkT at he
    generalize (atE S.E i).r=r at *
    generalize (atE S.E j).r=r' at *
    obtain ⟨rk,rl,ra,rb,rt⟩:=r
    obtain ⟨rk',rl',ra',rb',rt'⟩:=r'
    simp only [okR] at hr hr'
    dsimp only at he hl hl'
    rcases hr with ⟨e1,e2,e3,e4,_⟩|⟨e1,e2,e3,e4,e5,e6,e7⟩|⟨e1,e2,e3,e4,e5,e6⟩
    ·rw [if_pos e1] at he
     rcases hr' with ⟨e1',e2',e3',e4',_⟩|⟨e1',e2',e3',e4',e5',e6',e7'⟩|⟨e1',e2',e3',e4',e5',e6'⟩
     ·rw [if_pos e1'] at he
      injection he with he
      have:rl=rl':=by omega
      subst this e1 e2 e3 e4 e1' e2' e3' e4'
      rfl
     ·rw [if_neg (by omega),if_pos e1'] at he;cases he
     ·rw [if_neg (by omega),if_neg (by omega)] at he;cases he
    ·rw [if_neg (by omega),if_pos e1] at he
     rcases hr' with ⟨e1',e2',e3',e4',_⟩|⟨e1',e2',e3',e4',e5',e6',e7'⟩|⟨e1',e2',e3',e4',e5',e6'⟩
     ·rw [if_pos e1'] at he;cases he
     ·rw [if_neg (by omega),if_pos e1'] at he
      injection he with he1 he2
      have q1:=ih ra.toNat (by omega) ra ra' (by omega) (by omega) (by omega) (by omega) (by omega) he1
      have q2:=ih rb.toNat (by omega) rb rb' (by omega) (by omega) (by omega) (by omega) (by omega) he2
      subst q1 q2 e1 e2 e3 e1' e2' e3'
      rfl
     ·rw [if_neg (by omega),if_neg (by omega)] at he;cases he
    ·rw [if_neg (by omega),if_neg (by omega)] at he
     rcases hr' with ⟨e1',e2',e3',e4',_⟩|⟨e1',e2',e3',e4',e5',e6',e7'⟩|⟨e1',e2',e3',e4',e5',e6'⟩
     ·rw [if_pos e1'] at he;cases he
     ·rw [if_neg (by omega),if_pos e1'] at he;cases he
     ·rw [if_neg (by omega),if_neg (by omega)] at he
      injection he with he1 he2
      have q1:=ih ra.toNat (by omega) ra ra' (by omega) (by omega) (by omega) (by omega) (by omega) he1
      have q2:rt=rt':=by omega
      subst q1 q2 e1 e2 e3 e1' e2' e3'
      rfl
   rw [hrul] at hu
   rw [hu] at hu'
   omega
theorem WF.inj_iff {S:Sto} (h:WF S) {i j:Int} (h0:1<=i) (h1:i<=S.E.length) (k0:1<=j) (k1:j<=S.E.length):tm S.E i=tm S.E j↔i=j :=
 ⟨h.inj i.toNat i j (by omega) h0 h1 k0 k1,fun h=>by rw [h]⟩
abbrev x5:Type:=Nat × Int × Bool
def qy:x5:=(0,0,false)
def vw (m:Tm):x5:=(m.key,m.level,true)
abbrev krC (x:x5):List Value:=[.int .u64 x.1,.int .i64 x.2.1,.bool x.2.2]
def y4 (l:List x5):List Value:=l.flatMap krC
theorem zfo:∀ g:List x5,(y4 g).length=g.length*3
 | []=>rfl
 | x :: g => by
   have:=zfo g
   simp only [y4,List.flatMap_cons,g6q,List.length_cons,List.length_nil] at this ⊢
   omega
theorem zf5:∀ {g:List x5} {i:Nat},i<g.length->((y4 g).drop (i*3)).take 3=krC (g.getD i qy)
 | x::g,0,_=>by simp [y4,krC]
 | x :: g,i + 1,h => by
   have ih:=zf5 (g:=g) (i:=i) (by simpa using h)
   have e1:y4 (x::g)=krC x++y4 g:=by simp [y4]
   rw [e1,show (i+1)*3=(krC x).length+i*3 by simp [krC];omega,←List.drop_drop,List.drop_left]
   simpa using ih
theorem zg5 {g:List x5} {i:Nat} (h:i<g.length):(y4 g)[i*3+2]?=some (.bool (g.getD i qy).2.2):=by
 have:=congrArg (fun l=>l[2]?) (zf5 h)
 simpa [krC] using this
theorem zsb (g:List x5) (m:Nat):y4 g++(List.replicate m [Value.int .u64 0,.int .i64 0,.bool false]).flatten=y4 (g++List.replicate m qy):=by
 have e:(List.replicate m [Value.int .u64 0,.int .i64 0,.bool false]).flatten=y4 (List.replicate m qy):=by
  induction m with
  | zero=>rfl
  | succ m ih=>rw [List.replicate_succ,List.replicate_succ,List.flatten_cons,ih];rfl
 rw [e]
 simp [y4]
theorem zo3:∀ {g:List x5} {i:Nat} {x:x5},i<g.length->zD (y4 g) (i*3) (krC x)=y4 (g.set i x)
 | y::g,0,x,_=>by simp [y4,krC,zD]
 | y :: g,i + 1,x,h => by
   have ih:=zo3 (g:=g) (i:=i) (x:=x) (by simpa using h)
   have e1:y4 (y::g)=krC y++y4 g:=by simp [y4]
   have e2:y4 ((y::g).set (i+1) x)=krC y++y4 (g.set i x):=by simp [y4]
   rw [e1,e2,←ih]
   unfold zD
   rw [show (i+1)*3=i*3+1+1+1 by omega,show i*3+1+1+1+(krC x).length=(i*3+(krC x).length)+1+1+1 by omega]
   rfl
def TI (E:List Entr) (rows:List x5):Prop :=
 rows.length<=E.length+1/\∀ i,i<rows.length->rows.getD i qy=qy∨(1<=i/\rows.getD i qy=vw (tm E i))
theorem TI.nil (E:List Entr):TI E []:=⟨Nat.zero_le _,fun i h=>absurd h (Nat.not_lt_zero i)⟩
theorem TI.mono {E E':List Entr} {rows:List x5} (h:TI E rows):TI (E++E') rows:=by
 refine ⟨by rw [g6q];have:=h.1;omega,fun i hi=>?_⟩
 rcases h.2 i hi with h1|⟨h1,h2⟩
 ·exact .inl h1
 ·exact .inr ⟨h1,by rw [zcF (by have:=h.1;omega)];exact h2⟩
theorem TI.zeros {E:List Entr} {rows:List x5} (h:TI E rows) {m:Nat} (hm:rows.length+m<=E.length+1):TI E (rows++List.replicate m qy):=by
 refine ⟨by simp;exact hm,fun i hi=>?_⟩
 by_cases hl:i<rows.length
 ·rw [qY hl];exact h.2 i hl
 ·left
  rw [g1q,List.getElem?_append_right (by omega),List.getElem?_replicate]
  split<;>rfl
theorem zg6 {α:Type} {l:List α} {i j:Nat} {x d:α} (h:i<l.length):(l.set i x).getD j d=if i=j then x else l.getD j d:=by
 rw [g1q,List.getElem?_set,g1q]
 split
 ·rfl
 ·rfl
theorem TI.set {E:List Entr} {rows:List x5} (h:TI E rows) {x:Nat} (h1:1<=x) (h2:x<rows.length):TI E (rows.set x (vw (tm E x))):=by
 refine ⟨by simpa using h.1,fun i hi=>?_⟩
 rw [List.length_set] at hi
 rw [zg6 h2]
 split
 ·rename_i he
  subst he
  exact .inr ⟨h1,rfl⟩
 ·exact h.2 i hi
theorem TI.at0 {E:List Entr} {rows:List x5} (h:TI E rows) (h0:0<rows.length):rows.getD 0 qy=qy:=by
 rcases h.2 0 h0 with h|h
 ·exact h
 ·omega
def unk (rows:List x5):Nat:=rows.countP fun r=>!r.2.2
theorem zwB {rows:List x5} {x:Nat} {m:Tm} (h:x<rows.length) (hu:rows.getD x qy=qy):unk (rows.set x (vw m))+1=unk rows:=by
 unfold unk
 rw [List.countP_set h]
 have h1:rows[x]=qy:=by
  rw [g1q,g2q h] at hu
  exact hu
 rw [h1]
 have hp:0<rows.countP fun r=>!r.2.2:=List.countP_pos_iff.2 ⟨rows[x],List.getElem_mem h,by rw [h1];rfl⟩
 simp [qy,vw]
 omega
end
section
open Go.EG
attribute [local irreducible] z8 yN Go.Calls
set_option maxRecDepth 20000
set_option maxHeartbeats 1000000
structure TabG (E:List Entr) where
 rows:List x5
 ok:TI E rows
 a:Option Addr
 c:Nat
def fT (bt bs:Nat) (E:List Entr) (x:TabG E):List Ent :=
 [.box 2000 bt [pS bs,.slice x.a x.rows.length x.c] uX,.own 2001 x.a x.rows.length x.c qA 3 (y4 x.rows)]
theorem zv2 (bt bs:Nat) (E:List Entr) (rows:List x5) (ok:TI E rows) (a:Option Addr) (c:Nat):fT bt bs E ⟨rows,ok,a,c⟩=[.box 2000 bt [pS bs,.slice a rows.length c] uX,.own 2001 a rows.length c qA 3 (y4 rows)]:=rfl
abbrev qq (w:World) (fp:List Nat):Prop:=In w fp (some ⟨0,0,none⟩) (zt .u8 tabI)
theorem rdP {w0:World} {fp0:List Nat} {L:List Ent} {g:Nat} {xs:List Value} {i:Nat} {v:Value} (hx:In w0 fp0 (some ⟨g,0,none⟩) xs) (h:xs[i]?=some v):Rd w0 fp0 L (.v (.pointer (some ((⟨g,0,none⟩:Addr).add i)))) [v] :=
 hx.rd h
theorem znu (S:Sto) (hw:WF S) (n:Int) (h1:1<=n) (h2:n<=S.E.length) (ht:(atE S.E n).r.t<=9223372036854775807) (bt bs:Nat) (rows:List x5) (hT:TI S.E rows) (a:Option Addr) (c:Nat)
 (ha:(atE S.E n).r.a<rows.length) (hb:(atE S.E n).r.b<rows.length) (ka:1<=(atE S.E n).r.a->rows.getD (atE S.E n).r.a.toNat qy=vw (tm S.E (atE S.E n).r.a)) (kb:1<=(atE S.E n).r.b->rows.getD (atE S.E n).r.b.toNat qy=vw (tm S.E (atE S.E n).r.b))
 (w:World) (hbox:In w [] (some ⟨bt,0,none⟩) [pS bs,.slice a rows.length c]) (hrow:In w [] a (y4 rows)) (hG:Tab w) :
 Calls Tryz.prog vt #[pS bt,ruV (atE S.E n).r] w fun e w'=>e=.returned (.agg (krC (vw (tm S.E n))).toArray)/\Ext w w':=by
 refine zN [.v (pS bt),.v (ruV (atE S.E n).r)] w zez (by simp) ?_
 obtain ⟨hr,hl,htm,_,_⟩:=hw.at_ h1 h2
 have e0:∀ i:Int,i=0->(rows.getD i.toNat qy).1=(tm S.E i).key/\(rows.getD i.toNat qy).2.1=(tm S.E i).level:=fun i hi=>by
  subst hi
  have:=hT.at0 (by rcases hr with h|h|h<;>omega)
  rw [show (0:Int).toNat=0 from rfl,this];exact ⟨rfl,rfl⟩
 have ea:(rows.getD (atE S.E n).r.a.toNat qy).1=(tm S.E (atE S.E n).r.a).key/\(rows.getD (atE S.E n).r.a.toNat qy).2.1=(tm S.E (atE S.E n).r.a).level:=by
  by_cases h:1<=(atE S.E n).r.a
  ·rw [ka h];exact ⟨rfl,rfl⟩
  ·exact e0 _ (by rcases hr with h|h|h<;>omega)
 have eb:(rows.getD (atE S.E n).r.b.toNat qy).1=(tm S.E (atE S.E n).r.b).key/\(rows.getD (atE S.E n).r.b.toNat qy).2.1=(tm S.E (atE S.E n).r.b).level:=by
  by_cases h:1<=(atE S.E n).r.b
  ·rw [kb h];exact ⟨rfl,rfl⟩
  ·exact e0 _ (by rcases hr with h|h|h<;>omega)
 have hinj:=fun q1 q2 q3 q4=>hw.inj_iff (i:=(atE S.E n).r.a) (j:=(atE S.E n).r.b) q1 q2 q3 q4
 have la:0<=(atE S.E n).r.a/\(atE S.E n).r.a<n:=by rcases hr with h|h|h<;>omega
 have lb:0<=(atE S.E n).r.b/\(atE S.E n).r.b<n:=by rcases hr with h|h|h<;>omega
 have va:=hw.lev' la.1 (by omega)
 have vb:=hw.lev' lb.1 (by omega)
 have ba:=(tm S.E (atE S.E n).r.a).key_lt'
 have bb:=(tm S.E (atE S.E n).r.b).key_lt'
 rw [htm]
 unfold mkT
 generalize (atE S.E n).r=r at *
 simp only [okR] at hr
 have hne:=hrow.ne' (k:=0) (by rw [zfo];omega)
 have rda:=fun {L:List Ent}=>hrow.rdn (L:=L) (vs:=krC (rows.getD r.a.toNat qy)) (k:=r.a.toNat*3) (Nat.succ_pos _) (zf5 (by omega))
 have rdb:=fun {L:List Ent}=>hrow.rdn (L:=L) (vs:=krC (rows.getD r.b.toNat qy)) (k:=r.b.toNat*3) (Nat.succ_pos _) (zf5 (by omega))
 have rds:=fun {L:List Ent}=>rdP (L:=L) hbox (i:=1) rfl
 obtain ⟨ea1,ea2⟩:=ea
 obtain ⟨eb1,eb2⟩:=eb
 generalize rows.getD r.a.toNat qy=xa at *
 generalize rows.getD r.b.toNat qy=xb at *
 generalize tm S.E r.a=ta at *
 generalize tm S.E r.b=tb at *
 rw [←ea1] at ba
 rw [←eb1] at bb
 rw [←ea2] at va
 rw [←eb2] at vb
 rcases hr with ⟨e1,e2,e3,e4,_⟩|⟨e1,e2,e3,e4,e5,e6,e7⟩|⟨e1,e2,e3,e4,e5,e6⟩
 ·rw [if_pos e1]
  have c1:=zgS 1 r.l.toNat 0 (by decide) (by omega) (by decide)
  have q:r.l%18446744073709551616=(r.l.toNat:Int):=by omega
  (repeat' ((conv=>whnf);first|rw [q]|refine ⟨_,_,_,rds,?_⟩|refine zg ?_|refine ⟨_,rfl,rda,?_⟩|refine ⟨_,rfl,rdb,?_⟩|(first|refine puK c1 ?_|refine quK c1 ?_)|refine xJ ?_ ?_|((first|apply zb|apply za|apply zc)<;>intro h<;>try (exfalso;omega))|refine pay ?_|refine And.intro (by first|exact hne|exact Option.some_ne_none _|(intro _;exact Thin.ref (by (repeat (first|exact Thin.nil _|exact Thin.refl _|refine Thin.keep rfl (fun _ h=>h) ?_|refine Thin.skip ?_))))) ?_|intro _));(all_goals (conv=>whnf))
  all_goals exact ⟨rfl⟩
 ·rw [if_neg (by omega),if_pos e1]
  have c1:=zgS 2 xa.1 xb.1 (by decide) ba bb
  have c2:=fun (h1:0<=xa.2.1) (h2:0<=xb.2.1)=>zqt (max xa.2.1 xb.2.1).toNat xa.1 xb.1 (by omega) ba bb
  have em:0<=xa.2.1->((max xa.2.1 xb.2.1).toNat:Int)=max xa.2.1 xb.2.1:=fun h=>by omega
  have hi:=hinj e4 (by omega) e6 (by omega)
  have hlv:(Tm.pr ta tb).level=if ta≠tb/\0<=ta.level/\0<=tb.level then kH (max ta.level tb.level) ta.key tb.key else -1:=rfl
  have hky:(Tm.pr ta tb).key=zgR 2 ta.key tb.key:=rfl
  unfold vw
  rw [hlv,hky,←ea1,←ea2,←eb1,←eb2]
  clear hlv hky
  (repeat' ((conv=>whnf);first|refine ⟨_,_,_,rds,?_⟩|refine zg ?_|refine ⟨_,rfl,rda,?_⟩|refine ⟨_,rfl,rdb,?_⟩|(first|refine puK c1 ?_|refine quK c1 ?_)|(rw [←em (by omega)];refine zv (.v _) (fun w hR=>c2 (by omega) (by omega) w (hG.cast hR (by simp))) ?_)|refine xJ ?_ ?_|((first|apply zb|apply za|apply zc)<;>intro h<;>try (exfalso;omega))|refine pay ?_|refine And.intro (by first|exact hne|exact Option.some_ne_none _|(intro _;exact Thin.ref (by (repeat (first|exact Thin.nil _|exact Thin.refl _|refine Thin.keep rfl (fun _ h=>h) ?_|refine Thin.skip ?_))))) ?_|intro _));(all_goals (conv=>whnf))
  all_goals (refine ⟨?_⟩;first|(rw [if_pos ⟨fun h=>absurd (hi.1 h) (by omega),by omega,by omega⟩,em (by omega)];exact rfl)|(rw [if_neg (fun h=>by omega)];exact rfl)|(rw [if_neg (fun h=>h.1 (hi.2 (by omega)))];exact rfl))
 ·rw [if_neg (by omega),if_neg (by omega)]
  have c1:=zgS 3 xa.1 r.t.toNat (by decide) ba (by omega)
  have q:r.t%18446744073709551616=(r.t.toNat:Int):=by omega
  have hlv:(Tm.pw ta r.t.toNat).level=if 0<=ta.level/\ta.level%2=0 then ta.level+1 else -1:=rfl
  have hky:(Tm.pw ta r.t.toNat).key=zgR 3 ta.key r.t.toNat:=rfl
  unfold vw
  rw [hlv,hky,←ea1,←ea2]
  clear hlv hky
  (repeat' ((conv=>whnf);first|rw [q]|refine ⟨_,_,_,rds,?_⟩|refine zg ?_|refine ⟨_,rfl,rda,?_⟩|refine ⟨_,rfl,rdb,?_⟩|(first|refine puK c1 ?_|refine quK c1 ?_)|refine xJ ?_ ?_|((first|apply zb|apply za|apply zc)<;>intro h<;>try (exfalso;omega))|refine pay ?_|refine And.intro (by first|exact hne|exact Option.some_ne_none _|(intro _;exact Thin.ref (by (repeat (first|exact Thin.nil _|exact Thin.refl _|refine Thin.keep rfl (fun _ h=>h) ?_|refine Thin.skip ?_))))) ?_|intro _));(all_goals (conv=>whnf))
  all_goals (refine ⟨?_⟩;first|(rw [if_pos ⟨by omega,by omega⟩];exact rfl)|(rw [if_neg (fun h=>by omega)];exact rfl))
theorem WF.tim {S:Sto} (h:WF S) {n:Int} (h1:1<=n) (h2:n<=S.E.length):(atE S.E n).r.t<=9223372036854775807:=by
 obtain ⟨hr,_,ht,hl,_⟩:=h.at_ h1 h2
 rcases hr with hr|⟨e1,e2,e3,e4,e5,e6,e7⟩|⟨e1,e2,e3,e4,e5,e6⟩
 ·omega
 ·omega
 ·rw [ht] at hl
  unfold mkT at hl
  rw [if_neg (by omega),if_neg (by omega)] at hl
  unfold Tm.len at hl
  rw [Tm.txt,ziR] at hl
  have hp:=h.pos1 e5 (by omega)
  unfold Tm.len at hp
  have:(atE S.E n).r.t.toNat<=LM:=Nat.le_trans (Nat.le_mul_of_pos_right _ hp) hl
  unfold LM at this
  omega
theorem zrn:∀ (st:List Int) (id:Int),0<=id->st.Pairwise (fun a b=>b<a)->(∀ x∈st,1<=x/\x<=id)->(st.length:Int)<=id
 | [],id,h,_,_=>by simpa using h
 | y :: st,id,h,hp,hx => by
   obtain ⟨h1,h2⟩:=List.pairwise_cons.1 hp
   have hy:=hx y g5q
   have:=zrn st (y - 1) (by omega) h2 (fun z hz=>⟨(hx z (g4q _ hz)).1,by have:=h1 z hz;omega⟩)
   rw [List.length_cons];omega
structure StkI (rows:List x5) (id:Int) (st:List Int):Prop where
 pos:∀ x∈st,1<=x/\x<=id
 unk:∀ x∈st,rows.getD x.toNat qy=qy
 dec:st.Pairwise (fun a b=>b<a)
 bot:(rows.getD id.toNat qy).2.2=true∨∃ t,st=id::t
theorem StkI.len {rows:List x5} {id:Int} {st:List Int} (h:StkI rows id st) (h0:0<=id):(st.length:Int)<=id:=zrn st id h0 h.dec h.pos
theorem TI.known {E:List Entr} {rows:List x5} (h:TI E rows) {i:Int} (h0:0<=i) (hl:i<rows.length) (hk:(rows.getD i.toNat qy).2.2=true):rows.getD i.toNat qy=vw (tm E i):=by
 rcases h.2 i.toNat (by omega) with h|h
 ·rw [h] at hk;cases hk
 ·rw [h.2,show ((i.toNat:Nat):Int)=i by omega]
theorem TI.unknown {E:List Entr} {rows:List x5} (h:TI E rows) {i:Int} (h0:0<=i) (hl:i<rows.length) (hk:(rows.getD i.toNat qy).2.2=false):rows.getD i.toNat qy=qy:=by
 rcases h.2 i.toNat (by omega) with h|h
 ·exact h
 ·rw [h.2] at hk;cases hk
theorem StkI.push {rows:List x5} {id:Int} {s:List Int} {x y:Int} (h:StkI rows id (s++[x])) (h1:1<=y) (h2:y<x) (hu:rows.getD y.toNat qy=qy):StkI rows id ((s++[x])++[y]):=by
 have hx:=h.pos x (by simp)
 refine ⟨fun z hz=>?_,fun z hz=>?_,?_,?_⟩
 ·rcases List.mem_append.1 hz with hz|hz
  ·exact h.pos z hz
  ·have:z=y:=by simpa using hz
   omega
 ·rcases List.mem_append.1 hz with hz|hz
  ·exact h.unk z hz
  ·have:z=y:=by simpa using hz
   rw [this];exact hu
 ·refine List.pairwise_append.2 ⟨h.dec,by simp,fun a ha b hb=>?_⟩
  have hb':b=y:=by simpa using hb
  subst hb'
  rcases List.mem_append.1 ha with ha|ha
  ·have:=(List.pairwise_append.1 h.dec).2.2 a ha x (by simp)
   omega
  ·have:a=x:=by simpa using ha
   omega
 ·rcases h.bot with hb|⟨t,ht⟩
  ·exact .inl hb
  ·exact .inr ⟨t++[y],by rw [ht];rfl⟩
theorem StkI.pop {rows:List x5} {id:Int} {s:List Int} {x:Int} {m:Tm} (h:StkI rows id (s++[x])) (hl:x.toNat<rows.length):StkI (rows.set x.toNat (vw m)) id s:=by
 have hx:=h.pos x (by simp)
 have hs:=List.pairwise_append.1 h.dec
 refine ⟨fun z hz=>h.pos z (List.mem_append_left _ hz),fun z hz=>?_,hs.1,?_⟩
 ·have h1:=hs.2.2 z hz x (by simp)
  have h2:=h.pos z (List.mem_append_left _ hz)
  rw [zg6 hl,if_neg (by omega)]
  exact h.unk z (List.mem_append_left _ hz)
 ·by_cases hid:id=x
  ·left
   subst hid
   rw [zg6 hl,if_pos rfl];rfl
  ·rcases h.bot with hb|⟨t,ht⟩
   ·left
    rw [zg6 hl,if_neg (by omega)];exact hb
   ·right
    cases s with
    | nil=>simp at ht;omega
    | cons z s=>simp at ht;exact ⟨s,by rw [ht.1]⟩
def zo4 (k1 k2 bt bs:Nat) (S:Sto) (r v:Value) (L1:List Ent):Prop:=v=r/\∃ fp1 fp2,L1=[packE k1 fp1 (fT bt bs S.E),packE k2 fp2 (fS bs S)]
def TC (f:Nat) (args:Array Value) (bt bs:Nat) (S:Sto) (r:Value):Prop :=
 ∀ (k1 k2:Nat) (fp1 fp2:List Nat) (w:World),R w (fp1++fp2) [packE k1 fp1 (fT bt bs S.E),packE k2 fp2 (fS bs S)] w->qq w (fp1++fp2)->Calls Tryz.prog f args w fun e w'=>∃ v L1,e=.returned v/\R w (fp1++fp2) L1 w'/\zo4 k1 k2 bt bs S r v L1
theorem zw4 {k1 k2 k' bt bs:Nat} {fp':List Nat} {S:Sto} {r v:Value} {w0:World} {fp0:List Nat} {L:List Ent} (x:TabG S.E) (h:Thin L (packE k' fp' (fS bs S)::fT bt bs S.E x)) (hv:v=r):∃ L1,Ref w0 fp0 L L1/\zo4 k1 k2 bt bs S r v L1:=by
 refine ⟨_,h.ref.trans ((Ref.perm (List.perm_append_comm (l₁:=[_]) (l₂:=fT bt bs S.E x))).trans (Ref.packs (key:=k1) x ?_)),hv,_,fp',rfl⟩
 obtain ⟨rows,ok,a,c⟩:=x
 exact .keep rfl (fun _ h=>h) (.keep rfl (fun _ h=>h) (.keep rfl (fun _ h=>h) (.nil _)))
theorem zxt {k1 k2 k' bt bs:Nat} {fp':List Nat} {S:Sto} {r v:Value} {w0:World} {fp0:List Nat} {L:List Ent} {x:TabG S.E} (h:Thin L (fT bt bs S.E x++[packE k' fp' (fS bs S)])) (hv:v=r):∃ L1,Ref w0 fp0 L L1/\zo4 k1 k2 bt bs S r v L1:=by
 refine ⟨_,h.ref.trans (Ref.packs (key:=k1) (Lr:=[packE k2 fp' (fS bs S)]) x ?_),hv,_,fp',rfl⟩
 obtain ⟨rows,ok,a,c⟩:=x
 exact .keep rfl (fun _ h=>h) (.keep rfl (fun _ h=>h) (.keep rfl (fun _ h=>h) (.nil _)))
def zf6 (S:Sto) (id:Int):Value:=if 1<=id/\id<=S.E.length then .tuple #[.agg (krC (vw (tm S.E id))).toArray,.nilIface] else .tuple #[.agg (krC qy).toArray,jK 1]
structure RowA (E:List Entr) where
 x:TabG E
 fp:List Nat
structure RowG (E:List Entr) where
 x:TabG E
 fp:List Nat
 st:List Int
 a6:Option Addr
 c6:Nat
abbrev zw5:List Value:=[.int .u64 0,.int .i64 0,.bool false]
abbrev zva (bt b4:Nat) (i:Int) (E:List Entr) (x:RowG E):Env:=[(0,.ptr 2000 bt 0),(1,.v (.int .i64 i)),(4,.ptr 4 b4 0),(6,.sl 500 x.a6 x.st.length x.c6)]
abbrev zvb (bt b4 bs:Nat) (S:Sto) (x:RowG S.E):List Ent:=[.own 500 x.a6 x.st.length x.c6 zr 1 (zt .i64 x.st),packE 77 x.fp (fS bs S),.box 4 b4 zw5 qA,.box 2000 bt [pS bs,.slice x.x.a x.x.rows.length x.x.c] uX,.own 2001 x.x.a x.x.rows.length x.x.c qA 3 (y4 x.x.rows)]
def zg7 (i:Nat) (E:List Entr) (x:RowG E):Nat:=unk x.x.rows*(i+2)+(x.st.getLastD 0).toNat
theorem ztB {s:List Int} {x:Int}:(zt .i64 (s++[x]))[s.length]?=some (.int .i64 x):=by simp [zt]
theorem ztC {s:List Int} {x:Int}:(zt .i64 (s++[x])).take s.length=zt .i64 s:=by simp [zt]
theorem zmU (bt bs:Nat) (S:Sto) (hw:WF S) (id:Int):TC vq #[pS bt,.int .i64 id] bt bs S (zf6 S id):=by
 intro k1 k2 fp1 fp2 w hR hG
 have hR:R w (fp1++fp2) [packE 78 fp1 (fT bt bs S.E),packE 77 fp2 (fS bs S)] w:=(Thin.packE (Thin.packE (.nil []))).ref w hR
 obtain ⟨⟨rows,ok,a,c⟩,hfp,hR'⟩:=hR.unpack
 rw [zv2] at hR' hfp
 refine (jF [.ptr 2000 bt 0,.v (.int .i64 id)] zhC (by simp) hR' (K:=fun v L'=>∃ L1,Ref w (fp1++fp2) L' L1/\zo4 k1 k2 bt bs S (zf6 S id) v L1) ?_).mono fun e w' ⟨v,L',he,hR2,L1,href,hq⟩=>⟨v,L1,he,href w' hR2,hq⟩
 have hsm:=hw.small
 have c1:=zds bs S
 by_cases hid:1<=id/\id<=S.E.length
 ·have hres:zf6 S id=.tuple #[.agg (krC (vw (tm S.E id))).toArray,.nilIface]:=if_pos hid
  rw [hres]
  obtain ⟨i,rfl⟩:∃ i:Nat,id=i:=⟨id.toNat,by omega⟩
  have hz3:=fun m:Nat=>zsb rows m
  (repeat' ((conv=>whnf);first|refine SC.go 77 c1 rfl fun fp'=>?_|refine zg ?_|((first|apply zb|apply za|apply zc)<;>intro h<;>try (exfalso;omega))|refine pay ?_|intro _));(all_goals (conv=>whnf))
  rename_i b4 _
  refine zcw (RowA S.E) (fun x=>[(0,.ptr 2000 bt 0),(1,.v (.int .i64 i)),(4,.ptr 4 b4 0)]) (fun x=>[packE 77 x.fp (fS bs S),.box 4 b4 zw5 qA,.box 2000 bt [pS bs,.slice x.x.a x.x.rows.length x.x.c] uX,.own 2001 x.x.a x.x.rows.length x.x.c qA 3 (y4 x.x.rows)]) (fun x=>i<x.x.rows.length) ?_ ?_
  ·have hq:((i:Int)+1 - (rows.length:Int)).toNat=i+1 - rows.length:=by omega
   have hz:=hz3 (i+1 - rows.length)
   (repeat' ((conv=>whnf);first|rw [hq]|rw [hz]|refine ⟨.sl 2001 _ _ _,⟨rfl,rfl,rfl,rfl⟩,?_⟩|((first|apply zb|apply za|apply zc)<;>intro h<;>try (exfalso;omega))|refine pay ?_|refine And.intro (by first|exact ⟨by omega,zcu rfl⟩|exact ⟨by unfold maxLen;omega,by omega⟩) ?_|intro _));(all_goals (conv=>whnf))
   ·rename_i a' c'
    refine qh ⟨⟨rows++List.replicate (i+1 - rows.length) qy,ok.zeros (by omega),a',c'⟩,fp'⟩ (by simp;omega) (by (repeat ((conv=>whnf);refine vS ?_));exact trivial) (Thin.ref ?_)
    refine .keep rfl (fun _ h=>h) (.keep rfl (fun _ h=>h) (.box ?_ (.own ?_ rfl (.nil _))))
    ·simp
    ·simp
   ·refine qh ⟨⟨rows,ok,a,c⟩,fp'⟩ (show i<rows.length by omega) (by (repeat ((conv=>whnf);refine vS ?_));exact trivial) (Thin.ref (by (repeat (first|exact Thin.nil _|exact Thin.refl _|refine Thin.keep rfl (fun _ h=>h) ?_|refine Thin.skip ?_))))
  ·rintro ⟨⟨rows,ok,a,c⟩,fp2'⟩ hlt
   dsimp only at hlt ⊢
   have hkn:(y4 rows)[i*3+2]?=some (.bool (rows.getD i qy).2.2):=zg5 hlt
   (repeat' ((conv=>whnf);first|rw [g7q]|refine ⟨.sl 2001 _ _ _,⟨rfl,rfl,rfl,rfl⟩,?_⟩|refine zB hkn ?_|((first|apply zb|apply za|apply zc)<;>intro h<;>try (exfalso;omega))|refine pay ?_|intro _));(all_goals (conv=>whnf))
   refine zcw (RowG S.E) (zva bt b4 i S.E) (zvb bt b4 bs S) (fun x=>i<x.x.rows.length/\StkI x.x.rows i x.st) ?_ ?_
   ·(repeat' ((conv=>whnf);first|rw [g7q]|refine ⟨.sl 2001 _ _ _,⟨rfl,rfl,rfl,rfl⟩,?_⟩|refine zB hkn ?_|((first|apply zb|apply za|apply zc)<;>intro h<;>try (exfalso;omega))|refine pay ?_|intro _));(all_goals (conv=>whnf))
    ·rename_i a' c'
     refine qh ⟨⟨rows,ok,a,c⟩,fp2',[(i:Int)],a',c'⟩ ⟨hlt,?_⟩ (by (repeat ((conv=>whnf);refine vS ?_));exact trivial) (Thin.ref ?_)
     ·refine ⟨by simp;omega,by simp;exact ok.unknown (i:=i) (by omega) (by omega) (by simpa using h),by simp,.inr ⟨[],rfl⟩⟩
     ·exact .own rfl rfl (.skip (by (repeat (first|exact Thin.nil _|exact Thin.refl _|refine Thin.keep rfl (fun _ h=>h) ?_|refine Thin.skip ?_))))
    ·refine qh ⟨⟨rows,ok,a,c⟩,fp2',[],none,0⟩ ⟨hlt,?_⟩ (by (repeat ((conv=>whnf);refine vS ?_));exact trivial) ((Thin.ref (by (repeat (first|exact Thin.nil _|exact Thin.refl _|refine Thin.keep rfl (fun _ h=>h) ?_|refine Thin.skip ?_)))).trans (Ref.ownNil 500 _ 1))
     exact ⟨by simp,by simp,by simp,.inl (by simpa using h)⟩
   ·clear hkn
    rintro ⟨⟨rows,ok,a,c⟩,fpx,st,a6,c6⟩ ⟨hlt,hst⟩
    (repeat' ((conv=>whnf);first|((first|apply zb|apply za|apply zc)<;>intro h<;>try (exfalso;omega))|refine pay ?_|intro _));(all_goals (conv=>whnf))
    refine zP (RowG S.E) (zva bt b4 i S.E) (zvb bt b4 bs S) (fun x=>i<x.x.rows.length/\StkI x.x.rows i x.st) (zg7 i S.E) ⟨⟨rows,ok,a,c⟩,fpx,st,a6,c6⟩ ⟨hlt,hst⟩ (by (repeat ((conv=>whnf);refine vS ?_));exact trivial) (Ref.refl _) ?_
    clear hlt hst
    rintro ⟨⟨rows,ok,a,c⟩,fpx,st,a6,c6⟩ ⟨hlt,hst⟩
    dsimp only [zva,zvb] at hlt hst ⊢
    rcases List.eq_nil_or_concat st with rfl|⟨s,x,rfl⟩
    ·have hkn:(rows.getD i qy).2.2=true:=by
      rcases hst.bot with h|⟨t,ht⟩
      ·simpa using h
      ·cases ht
     have hrow:=zf5 hlt
     rw [show rows.getD i qy=vw (tm S.E i) from ok.known (i:=i) (by omega) (by omega) (by simpa using hkn)] at hrow
     (repeat' ((conv=>whnf);first|rw [g7q]|refine ⟨.sl 2001 _ _ _,⟨rfl,rfl,rfl,rfl⟩,?_⟩|refine ue hrow ?_|((first|apply zb|apply za|apply zc)<;>intro h<;>try (exfalso;omega))|refine pay ?_|intro _));(all_goals (conv=>whnf))
     exact ⟨zw4 ⟨rows,ok,a,c⟩ (.skip (.keep rfl (fun _ h=>h) (.skip (.keep rfl (fun _ h=>h) (.keep rfl (fun _ h=>h) (.nil _)))))) rfl⟩
    ·rw [List.concat_eq_append] at hst ⊢
     have hx:=hst.pos x (by simp)
     have hxu:=hst.unk x (by simp)
     have hrl:=ok.1
     have hsl:=hst.len (by omega)
     have hle:(s++[x]).length=s.length+1:=by simp
     obtain ⟨hr,_,_,_,_⟩:=hw.at_ (n:=x) hx.1 (by omega)
     have hidx:(((s++[x]).length:Int) - 1).toNat=s.length:=by omega
     have hlast:=ztB (s:=s) (x:=x)
     have htk:=ztC (s:=s) (x:=x)
     have c2:=qZ bs S x hsm
     rw [yy hx.1 (by omega)] at c2
     have htim:=hw.tim hx.1 (by omega)
     have hset:=zo3 (g:=rows) (i:=x.toNat) (x:=vw (tm S.E x)) (by omega)
     have la:0<=(atE S.E x).r.a/\(atE S.E x).r.a<x:=by rcases hr with h|h|h<;>omega
     have lb:0<=(atE S.E x).r.b/\(atE S.E x).r.b<x:=by rcases hr with h|h|h<;>omega
     have hka:(y4 rows)[(atE S.E x).r.a.toNat*3+2]?=some (.bool (rows.getD (atE S.E x).r.a.toNat qy).2.2):=zg5 (by omega)
     have hkb:(y4 rows)[(atE S.E x).r.b.toNat*3+2]?=some (.bool (rows.getD (atE S.E x).r.b.toNat qy).2.2):=zg5 (by omega)
     have c3:=fun ka kb w h1 h2 h3=>znu S hw x hx.1 (by omega) htim bt bs rows ok a c (by omega) (by omega) ka kb w h1 h2 h3
     have ta:=fun h=>ok.known (i:=(atE S.E x).r.a) la.1 (by omega) h
     have tb:=fun h=>ok.known (i:=(atE S.E x).r.b) lb.1 (by omega) h
     have ua:=fun h=>ok.unknown (i:=(atE S.E x).r.a) la.1 (by omega) h
     have ub:=fun h=>ok.unknown (i:=(atE S.E x).r.b) lb.1 (by omega) h
     have hkl:x.toNat*3+3<=(y4 rows).length:=by rw [zfo];omega
     have ok2:TI S.E (rows.set x.toNat (vw (tm S.E x))):=by
      have:=ok.set (x:=x.toNat) (by omega) (by omega)
      rwa [show ((x.toNat:Nat):Int)=x by omega] at this
     have m1:∀ y:Int,0<=y->y<x->∀ fp' a' c',zg7 i S.E ⟨⟨rows,ok,a,c⟩,fp',(s++[x])++[y],a',c'⟩<zg7 i S.E ⟨⟨rows,ok,a,c⟩,fpx,s++[x],a6,c6⟩:=fun y h0 hy fp' a' c'=>by
      simp only [zg7,List.getLastD_concat];omega
     have m2:∀ fp' a' c',zg7 i S.E ⟨⟨rows.set x.toNat (vw (tm S.E x)),ok2,a,c⟩,fp',s,a',c'⟩<zg7 i S.E ⟨⟨rows,ok,a,c⟩,fpx,s++[x],a6,c6⟩:=fun fp' a' c'=>by
      have hu:=zwB (rows:=rows) (x:=x.toNat) (m:=tm S.E x) (by omega) hxu
      have hl:(s.getLastD 0).toNat<=i:=by
       rcases List.eq_nil_or_concat s with rfl|⟨s',y,rfl⟩
       ·exact Nat.zero_le _
       ·rw [List.concat_eq_append,List.getLastD_concat]
        have:=hst.pos y (by simp)
        omega
      simp only [zg7,List.getLastD_concat]
      rw [←hu,Nat.succ_mul]
      omega
     (repeat' ((conv=>whnf);first|(refine zv (.v _) (fun w hR=>c3 (fun h1=>ta (by first|assumption|(exfalso;omega))) (fun h1=>tb (by first|assumption|(exfalso;omega))) w (In.box (key:=2000) hR rfl) (In.ownR (key:=2001) hR rfl) (hG.cast hR (by simp))) ?_)|rw [hidx]|rw [Nat.mul_one]|rw [hset]|rw [htk]|refine SC.go 77 c2 rfl fun fp'=>?_|refine ⟨.sl 2001 _ _ _,⟨rfl,rfl,rfl,rfl⟩,?_⟩|refine zg ?_|refine zB hlast ?_|refine zB hka ?_|refine zB hkb ?_|((first|apply zb|apply za|apply zc)<;>intro h<;>try (exfalso;omega))|refine pay ?_|refine And.intro (by first|exact ⟨by unfold maxLen;omega,by omega⟩|exact ⟨rfl,hkl⟩) ?_|intro _));(all_goals (conv=>whnf))
     ·rename_i a' c'
      refine zm ⟨⟨rows,ok,a,c⟩,fp',(s++[x])++[(atE S.E x).r.a],a',c'⟩ ⟨hlt,hst.push (by omega) la.2 (ua h)⟩ (m1 _ la.1 la.2 _ _ _) (by (repeat ((conv=>whnf);refine vS ?_));exact trivial) ((Thin.ref (.skip (.skip (.keep rfl (fun _ h=>h) (.own (by simp) ints_snoc (by (repeat (first|exact Thin.nil _|exact Thin.refl _|refine Thin.keep rfl (fun _ h=>h) ?_|refine Thin.skip ?_)))))))).trans (Ref.perm (.swap _ _ _)))
     all_goals first
      | (rename_i a' c'
         refine zm ⟨⟨rows,ok,a,c⟩,fp',(s++[x])++[(atE S.E x).r.b],a',c'⟩ ⟨hlt,hst.push (by omega) lb.2 (ub h)⟩ (m1 _ lb.1 lb.2 _ _ _) (by (repeat ((conv=>whnf);refine vS ?_));exact trivial) ((Thin.ref (.skip (.skip (.keep rfl (fun _ h=>h) (.own (by simp) ints_snoc (by (repeat (first|exact Thin.nil _|exact Thin.refl _|refine Thin.keep rfl (fun _ h=>h) ?_|refine Thin.skip ?_)))))))).trans (Ref.perm (.swap _ _ _))))
      | (refine zm ⟨⟨rows.set x.toNat (vw (tm S.E x)),ok2,a,c⟩,fp',s,a6,c6⟩ ⟨by simpa using hlt,hst.pop (by omega)⟩ (m2 _ _ _) (by (repeat ((conv=>whnf);refine vS ?_));exact trivial) ((Thin.ref (.skip (.keep rfl (fun _ h=>h) (.own rfl rfl (.keep rfl (fun _ h=>h) (.box (by simp) (.own (by simp) rfl (.nil _)))))))).trans (Ref.perm (.swap _ _ _))))
 ·have hres:zf6 S id=.tuple #[.agg (krC qy).toArray,jK 1]:=if_neg hid
  rw [hres]
  by_cases h1:id<1
  ·(repeat' ((conv=>whnf);first|refine SC.go 77 c1 rfl fun fp'=>?_|refine zg ?_|((first|apply zb|apply za|apply zc)<;>intro h<;>try (exfalso;omega))|refine pay ?_|intro _));(all_goals (conv=>whnf))
   exact ⟨zxt (k':=77) (fp':=fp2) (x:=⟨rows,ok,a,c⟩) (.skip (.refl _)) rfl⟩
  ·(repeat' ((conv=>whnf);first|refine SC.go 77 c1 rfl fun fp'=>?_|refine zg ?_|((first|apply zb|apply za|apply zc)<;>intro h<;>try (exfalso;omega))|refine pay ?_|intro _));(all_goals (conv=>whnf))
   exact ⟨zw4 ⟨rows,ok,a,c⟩ (.keep rfl (fun _ h=>h) (.skip (.refl _))) rfl⟩
theorem _root_.Go.EG.In.cast2 {w0 w:World} {fp0 fp1 fp2:List Nat} {k1 k2:Nat} {ok1 ok2:World->Prop} {Lr:List Ent} {a:Option Addr} {xs:List Value} (h:In w0 fp0 a xs) (hR:R w0 fp0 (.abs k1 fp1 ok1::.abs k2 fp2 ok2::Lr) w):In w (fp1++fp2) a xs :=
 h.cast hR (fun b hb=>by
  rw [qd,qd]
  rcases List.mem_append.1 hb with hb|hb
  ·exact List.mem_append_left _ hb
  ·exact List.mem_append_right _ (List.mem_append_left _ hb))
theorem zo5 {k1 k2 bt bs:Nat} {k1' k2':Nat} {fp1 fp2:List Nat} {S:Sto} {r v:Value} {w0:World} {fp0:List Nat} {L:List Ent} (h:Thin L [packE k1' fp1 (fT bt bs S.E),packE k2' fp2 (fS bs S)]) (hv:v=r):∃ L1,Ref w0 fp0 L L1/\zo4 k1 k2 bt bs S r v L1 :=
 ⟨[packE k1 fp1 (fT bt bs S.E),packE k2 fp2 (fS bs S)],fun w hR=>(Thin.packE (Thin.packE (.nil _))).ref w (h.ref w hR),hv,_,_,rfl⟩
def zo6 (S:Sto) (id:Int):Value:=if 1<=id/\id<=S.E.length then .tuple #[.int .u64 (tm S.E id).key,.nilIface] else .tuple #[.int .u64 0,jK 1]
theorem x6 (bt bs:Nat) (S:Sto) (hw:WF S) (id:Int):TC qH #[pS bt,.int .i64 id] bt bs S (zo6 S id):=by
 intro k1 k2 fp1 fp2 w hR hG
 have hR:R w (fp1++fp2) [packE 78 fp1 (fT bt bs S.E),packE 77 fp2 (fS bs S)] w:=(Thin.packE (Thin.packE (.nil []))).ref w hR
 refine zf [.v (pS bt),.v (.int .i64 id)] zhE (by simp) hR ?_
 have c1:=zmU bt bs S hw id
 unfold zf6 at c1
 unfold zo6
 by_cases h:1<=id/\id<=S.E.length
 ·rw [if_pos h] at c1 ⊢
  (repeat' ((conv=>whnf);first|(refine zZ (key1:=78) (key2:=77) rfl rfl (fun w hR h0=>c1 _ _ _ _ _ h0 (hG.cast2 hR)) ?_;rintro _ _ ⟨rfl,fp1',fp2',rfl⟩;refine ⟨.v _,rfl,?_⟩)|((first|apply zb|apply za|apply zc)<;>intro h<;>try (exfalso;omega))|refine pay ?_|intro _));(all_goals (conv=>whnf))
  exact ⟨zo5 (.skip (.keep rfl (fun _ h=>h) (.keep rfl (fun _ h=>h) (.nil _)))) rfl⟩
 ·rw [if_neg h] at c1 ⊢
  (repeat' ((conv=>whnf);first|(refine zZ (key1:=78) (key2:=77) rfl rfl (fun w hR h0=>c1 _ _ _ _ _ h0 (hG.cast2 hR)) ?_;rintro _ _ ⟨rfl,fp1',fp2',rfl⟩;refine ⟨.v _,rfl,?_⟩)|((first|apply zb|apply za|apply zc)<;>intro h<;>try (exfalso;omega))|refine pay ?_|intro _));(all_goals (conv=>whnf))
  exact ⟨zo5 (.skip (.keep rfl (fun _ h=>h) (.keep rfl (fun _ h=>h) (.nil _)))) rfl⟩
def zed (S:Sto) (id:Int):Value:=if 1<=id/\id<=S.E.length then (if (tm S.E id).level<0 then .tuple #[.int .i64 0,jK 4] else .tuple #[.int .i64 (tm S.E id).level,.nilIface]) else .tuple #[.int .i64 0,jK 1]
theorem zat (bt bs:Nat) (S:Sto) (hw:WF S) (id:Int):TC ku #[pS bt,.int .i64 id] bt bs S (zed S id):=by
 intro k1 k2 fp1 fp2 w hR hG
 have hR:R w (fp1++fp2) [packE 78 fp1 (fT bt bs S.E),packE 77 fp2 (fS bs S)] w:=(Thin.packE (Thin.packE (.nil []))).ref w hR
 refine zf [.v (pS bt),.v (.int .i64 id)] zfZ (by simp) hR ?_
 have c1:=zmU bt bs S hw id
 unfold zf6 at c1
 unfold zed
 by_cases h:1<=id/\id<=S.E.length
 ·rw [if_pos h] at c1 ⊢
  by_cases h0:(tm S.E id).level<0
  ·rw [if_pos h0]
   have h1:¬0<=(vw (tm S.E id)).2.1:=by simp only [vw];omega
   (repeat' ((conv=>whnf);first|(refine zZ (key1:=78) (key2:=77) rfl rfl (fun w hR h0=>c1 _ _ _ _ _ h0 (hG.cast2 hR)) ?_;rintro _ _ ⟨rfl,fp1',fp2',rfl⟩;refine ⟨.v _,rfl,?_⟩)|((first|apply zb|apply za|apply zc)<;>intro h<;>try (exfalso;omega))|refine pay ?_|intro _));(all_goals (conv=>whnf))
   ·exact ⟨zo5 (.skip (.keep rfl (fun _ h=>h) (.keep rfl (fun _ h=>h) (.nil _)))) rfl⟩
  ·rw [if_neg h0]
   have h1:0<=(vw (tm S.E id)).2.1:=by simp only [vw];omega
   (repeat' ((conv=>whnf);first|(refine zZ (key1:=78) (key2:=77) rfl rfl (fun w hR h0=>c1 _ _ _ _ _ h0 (hG.cast2 hR)) ?_;rintro _ _ ⟨rfl,fp1',fp2',rfl⟩;refine ⟨.v _,rfl,?_⟩)|((first|apply zb|apply za|apply zc)<;>intro h<;>try (exfalso;omega))|refine pay ?_|intro _));(all_goals (conv=>whnf))
   ·exact ⟨zo5 (.skip (.keep rfl (fun _ h=>h) (.keep rfl (fun _ h=>h) (.nil _)))) rfl⟩
 ·rw [if_neg h] at c1 ⊢
  (repeat' ((conv=>whnf);first|(refine zZ (key1:=78) (key2:=77) rfl rfl (fun w hR h0=>c1 _ _ _ _ _ h0 (hG.cast2 hR)) ?_;rintro _ _ ⟨rfl,fp1',fp2',rfl⟩;refine ⟨.v _,rfl,?_⟩)|((first|apply zb|apply za|apply zc)<;>intro h<;>try (exfalso;omega))|refine pay ?_|intro _));(all_goals (conv=>whnf))
  exact ⟨zo5 (.skip (.keep rfl (fun _ h=>h) (.keep rfl (fun _ h=>h) (.nil _)))) rfl⟩
def zxF (key bs:Nat) (E:List Entr) (v:Value) (L1:List Ent):Prop:=∃ b fp',v=pS b/\L1=[packE key fp' (fT b bs E)]
theorem zsc (bs:Nat) (E:List Entr) (key:Nat) (w:World):Calls Tryz.prog ze6 #[pS bs] w fun e w'=>∃ v L1,e=.returned v/\R w [] L1 w'/\zxF key bs E v L1:=by
 refine zbO [.v (pS bs)] zqn (by simp) ?_
 (repeat' ((conv=>whnf);first|((first|apply zb|apply za|apply zc)<;>intro h<;>try (exfalso;omega))|refine pay ?_|intro _));(all_goals (conv=>whnf))
 rename_i b
 exact ⟨⟨_,(Ref.ownNil 2001 qA 3).trans ((Ref.perm (.swap _ _ _)).trans (Ref.pack (key:=key) (f:=fT b bs E) ⟨[],TI.nil E,none,0⟩ (by rw [zv2];exact .keep rfl (fun _ h=>h) (.keep rfl (fun _ h=>h) (.nil _))))),_,_,rfl,rfl⟩⟩
theorem zsd {k k' bt bs:Nat} {fp:List Nat} {E E':List Entr} {L L':List Ent} (h:Thin L L'):Thin (packE k fp (fT bt bs E)::L) (packE k' fp (fT bt bs (E++E'))::L'):=by
 refine .keep rfl (fun w hok w' hs=>?_) h
 obtain ⟨⟨rows,ok,a,c⟩,h1,h2⟩:=hok w' hs
 exact ⟨⟨rows,ok.mono,a,c⟩,h1,h2⟩
end
end Go.Proofs.YtdcbghoalnlcmaaGreatDoor
namespace Go.EG
def Ent.key:Ent->Nat
 | .own k ..=>k
 | .box k ..=>k
 | .abs k ..=>k
 | .mapE k ..=>k
def znV (key:Nat):List Ent->Option (Ent × List Ent)
 | []=>none
 | e::L=>if e.key=key then some (e,L) else (znV key L).map fun p=>(p.1,e::p.2)
def zcm:List Nat->List Ent->Option (List Ent × List Ent)
 | [],L=>some ([],L)
 | k::ks,L=>(znV k L).bind fun q=>(zcm ks q.2).map fun p=>(q.1::p.1,p.2)
theorem zk4 {key:Nat}:∀ {L:List Ent} {e:Ent} {Lr:List Ent},znV key L=some (e,Lr)->L.Perm (e::Lr)
 | [],_,_,h=>by cases h
 | e0 :: L,e,Lr,h => by
   simp only [znV] at h
   split at h
   ·simp only [g3q,Prod.mk.injEq] at h
    rw [h.1,h.2]
   ·obtain ⟨p,hp,h⟩:=Option.map_eq_some_iff.1 h
    simp only [Prod.mk.injEq] at h
    obtain ⟨rfl,rfl⟩:=h
    exact ((zk4 hp).cons e0).trans (.swap _ _ _)
theorem zg8:∀ {ks:List Nat} {L L0 Lr:List Ent},zcm ks L=some (L0,Lr)->L.Perm (L0++Lr)
 | [],L,L0,Lr,h => by
   simp only [zcm,g3q,Prod.mk.injEq] at h
   obtain ⟨rfl,rfl⟩:=h
   exact .refl _
 | k :: ks,L,L0,Lr,h => by
   simp only [zcm] at h
   obtain ⟨q,hq,h⟩:=Option.bind_eq_some_iff.1 h
   obtain ⟨p,hp,h⟩:=Option.map_eq_some_iff.1 h
   simp only [Prod.mk.injEq] at h
   obtain ⟨rfl,rfl⟩:=h
   exact (zk4 hq).trans ((zg8 hp).cons _)
section
variable {P:Program} {w0 w:World} {fp0:List Nat} {L:List Ent}
theorem zh {f:FuncId} {args:List Value} {k:SV->List Ent->Prop} (ks:List Nat) {L0 Lr:List Ent} {Q:Value->List Ent->Prop} (hp:zcm ks L=some (L0,Lr))
 (h:∀ w,R w0 fp0 (L0++Lr) w->R w (fps L0) L0 w->Calls P f args.toArray w fun e w'=>∃ v L1,e=.returned v/\R w (fps L0) L1 w'/\Q v L1)
 (hk:∀ v L1,Q v L1->∃ s:SV,s.val=v/\k s (L1++Lr)):z8 P w0 fp0 f args L k :=
 zbe (zg8 hp) h hk
theorem Ref.take (ks:List Nat) {L0 Lr:List Ent} (h:zcm ks L=some (L0,Lr)):Ref w0 fp0 L L0 :=
 (Ref.perm (zg8 h)).trans (Ref.sub (List.sublist_append_left _ _))
theorem Ref.takes (ks:List Nat) {L0 Lr L1:List Ent} (h:zcm ks L=some (L0,Lr)) (k:Thin L0 L1):Ref w0 fp0 L L1:=(Ref.take ks h).trans k.ref
theorem zbW {key:Nat} {a:Option Addr} {n c T sz:Nat} {xs:List Value} (hR:R w0 fp0 L w) (h:zL key L=some ⟨a,n,c,T,sz,xs⟩):n<=c:=by
 have:=(qW hR h).2
 dsimp only at this
 rcases this with ⟨h2,h3⟩|⟨g,cap,cur,h2,_,_,h5,_⟩
 ·omega
 ·simp only [Value.slice.injEq] at h2
  omega
theorem uy (a:Option Addr) (c sz:Nat):xc a c 0 sz=a:=by
 unfold xc
 split
 ·rfl
 ·cases a with
  | none=>rfl
  | some x=>simp [Addr.add]
theorem In.castL {L0 Lr:List Ent} {a:Option Addr} {xs:List Value} (h:In w0 fp0 a xs) (hR:R w0 fp0 (L0++Lr) w):In w (fps L0) a xs :=
 h.cast hR fun b hb=>by
  unfold fps at hb ⊢
  rw [List.flatMap_append]
  exact List.mem_append_left _ hb
theorem In.besideL {key:Nat} {L0 Lr:List Ent} {a:Option Addr} {n c T sz:Nat} {xs:List Value} (hR:R w0 fp0 (L0++Lr) w) (h:zL key Lr=some ⟨a,n,c,T,sz,xs⟩):In w (fps L0) a xs:=by
 have hR2:R w0 fp0 (.abs 0 (fps L0) (fun w=>∀ e∈L0,e.ok w)::Lr) w:=by
  refine ⟨hR.os,hR.tape,hR.output,hR.drawn,hR.size,hR.old,?_,?_,?_⟩
  ·have:=hR.nodup
   simpa [fps,Ent.fp] using this
  ·have:=hR.range
   simpa [fps,Ent.fp] using this
  ·intro e he
   rw [List.mem_cons] at he
   rcases he with rfl|he
   ·exact fun w' hs e he=>Ent.ok_same (hR.ok e (List.mem_append_left _ he)) fun b hb=>hs b (List.mem_flatMap.2 ⟨e,he,hb⟩)
   ·exact hR.ok e (List.mem_append_right _ he)
 exact In.beside hR2 h
theorem zk5 (key:Nat) {a:Option Addr} {n c T l m:Nat} {xs:List Value} (h:zL key L=some ⟨a,n,c,T,1,xs⟩) (hl:l+m<=xs.length):RdS w0 fp0 L (xc a c l 1) (m*1) ((xs.drop l).take m):=by
 refine ⟨by simp;omega,?_⟩
 by_cases hx:(xs.drop l).take m=[]
 ·exact .inl hx
 ·refine .inr fun w hR=>?_
  have hm:0<m:=by
   refine Nat.pos_of_ne_zero fun h0=>hx ?_
   subst h0;rfl
  have hc:=zbW hR h
  have hrow:=(qW hR h).1
  dsimp only at hrow
  have hcl:¬c=l:=by omega
  have get:∀ j v,((xs.drop l).take m)[j]?=some v->∃ g,a=some ⟨g,0,none⟩/\w.cell? ⟨g,l+j,none⟩=some v:=fun j v hv=>by
   have hj:j<m:=by
    have:=(List.getElem?_eq_some_iff.1 hv).1
    simp at this;omega
   rw [List.getElem?_take,if_pos hj,List.getElem?_drop] at hv
   exact kz hR h hv
  obtain ⟨v0,hv0⟩:∃ v,((xs.drop l).take m)[0]?=some v:=⟨_,g2q (List.length_pos_iff.2 hx)⟩
  obtain ⟨g,ha,_⟩:=get 0 v0 hv0
  refine ⟨g,l,?_,fun j v hv=>?_⟩
  ·unfold xc
   rw [if_neg hcl,ha]
   simp [yR]
  ·obtain ⟨g',ha',hc'⟩:=get j v hv
   rw [ha] at ha'
   simp only [g3q,Addr.mk.injEq,and_true] at ha'
   subst ha'
   exact hc'
theorem zf7 {k:IntKind}:∀ (xs:List Int),yq (zt k xs)
 | []=>trivial
 | x::xs=>⟨trivial,zf7 xs⟩
theorem zdt {k:IntKind} {X Z Y:List Int} {m:Nat} (h:X.length=m):zD (zt k (X++Z.drop m)) m (zt k Y)=zt k ((X++Y)++Z.drop (m+Y.length)):=by
 subst h
 have e1:(zt k (X++Z.drop X.length)).take X.length=zt k X:=by rw [zt,←List.map_take,List.take_left];rfl
 have e2:(zt k (X++Z.drop X.length)).drop (X.length+Y.length)=zt k (Z.drop (X.length+Y.length)):=by
  rw [zt,←List.map_drop,←List.drop_drop,List.drop_left,List.drop_drop];rfl
 unfold zD
 rw [e1,y7,e2]
 simp [zt]
theorem zeR {k:IntKind} {X Z:List Int} {m l q:Nat} (h:X.length=m) (hm:m<=l):((zt k (X++Z.drop m)).drop l).take q=zt k ((Z.drop l).take q):=by
 subst h
 have:(X++Z.drop X.length).drop l=Z.drop l:=by
  conv=>lhs;rw [show l=X.length+(l - X.length) by omega]
  rw [←List.drop_drop,List.drop_left,List.drop_drop,show X.length+(l - X.length)=l by omega]
 rw [zt,←List.map_drop,←List.map_take,this];rfl
theorem In.besideRo {key n c:Nat} {L0 Lr:List Ent} {a:Option Addr} {xs:List Value} (hR:R w0 fp0 (L0++Lr) w) (hm:Ent.abs key (Value.slice a n c).ownBlock.toList (zrL a xs)∈Lr):In w (fps L0) a xs:=by
 by_cases hx:xs=[]
 ·exact .inl hx
 ·have hro:=Ent.abs_ok (hR.ok _ (List.mem_append_right L0 hm))
  have hpos:0<xs.length:=List.length_pos_iff.2 hx
  obtain ⟨g,ha,hc⟩:=hro 0 _ (g2q hpos)
  refine .inr ⟨g,0,ha,?_,fun hg=>?_,fun j v hv=>?_⟩
  ·unfold World.cell? at hc
   rcases Nat.lt_or_ge g w.heap.size with h|h
   ·exact h
   ·rw [Array.getElem?_eq_none h] at hc
    simp at hc
  ·have hnd:=hR.nodup
   rw [yK] at hnd
   refine (List.nodup_append.1 hnd).2.2 g hg g ?_ rfl
   exact List.mem_flatMap.2 ⟨_,hm,by simp [Ent.fp,ha,Value.ownBlock]⟩
  ·obtain ⟨g',ha',hc'⟩:=hro j v hv
   rw [ha] at ha'
   simp only [g3q,Addr.mk.injEq,and_true] at ha'
   subst ha'
   rw [Nat.zero_add]
   exact hc'
end
end Go.EG
namespace Go.Proofs.YtdcbghoalnlcmaaGreatDoor
section
open Go.EG
theorem zg9 {L:List Int} {i:Nat} (hi:i<L.length):L.getD i 0∈L:=by
 rw [g1q,g2q hi]
 exact List.getElem_mem hi
theorem zse {L:List Int} {x:Int} (h:x∈L):L.idxOf x<L.length/\L.getD (L.idxOf x) 0=x:=by
 have hl:=List.idxOf_lt_length_of_mem h
 refine ⟨hl,?_⟩
 rw [g1q,g2q hl]
 simp
theorem zvc {r:Rul} (h:r.k=2):yZ r=[r.a,r.b]:=if_pos h
theorem zo7 {r:Rul} (h:r.k=3):yZ r=[r.a]:=by rw [yZ,if_neg (by omega),if_pos h]
theorem WF.okAt {S:Sto} (hw:WF S) {x:Int} (h1:1<=x) (h2:x<=S.E.length):okR (atE S.E x).r x:=by
 have:=hw.rul (x.toNat - 1) (by omega)
 unfold atE
 rw [if_neg (by omega)]
 rw [show ((x.toNat - 1:Nat):Int)+1=x by omega] at this
 exact this
theorem zmV {α:Type} {L:List α} {i:Nat} {d:α} (h:i<L.length):L.take (i+1)=L.take i++[L.getD i d]:=by
 rw [List.take_add_one,g2q h,g1q,g2q h]
 rfl
theorem zmW:∀ {n:Nat} {L:List Int},L.Nodup->(∀ x∈L,1<=x/\x<=n)->L.length<=n
 | 0,[],_,_=>Nat.le_refl _
 | 0,x::t,_,h=>absurd (h x (by simp)) (by omega)
 | n + 1,L,hn,h => by
   have h1:(L.erase ((n:Int)+1)).length<=n:=zmW (hn.erase _) fun x hx=>by
    have h2:=h x (List.mem_of_mem_erase hx)
    have h3:x≠(n:Int)+1:=fun he=>by
     subst he
     exact absurd hx (List.Nodup.not_mem_erase hn)
    omega
   by_cases hm:((n:Int)+1)∈L
   ·rw [List.length_erase_of_mem hm] at h1
    omega
   ·rw [List.erase_of_not_mem hm] at h1
    omega
end
section
open Go.EG
attribute [local irreducible] z8 yN Go.Calls
set_option maxRecDepth 20000
set_option maxHeartbeats 1000000
abbrev wt0:Value:=.agg #[.int .i64 0,.int .i64 0,.int .i64 0,.int .i64 0,.int .u64 0,.int .u64 0]
def zsf (S:Sto) (n:Int):Value:=if known S n then .tuple #[wtV (tm S.E n).txt,.nilIface] else .tuple #[wt0,jK 1]
theorem vj {S:Sto} {n:Int} (h:known S n):zsf S n=.tuple #[wtV (tm S.E n).txt,.nilIface]:=if_pos h
theorem yd (b:Nat) (S:Sto) (n:Int) (hE:S.E.length<=1048576):SC zS #[pS b,.int .i64 n] b S S (zsf S n):=by
 intro key fp w hR
 refine zf [.v (pS b),.v (.int .i64 n)] zd2 (by simp) (hR.key 77) ?_
 unfold zsf
 by_cases h:known S n
 ·rw [if_pos h]
  have c1:=yI b S h
  have c2:=ux b S h hE
  unfold tm
  generalize atE S.E n=x at *
  (repeat' ((conv=>whnf);first|refine SC.go 77 c1 rfl fun fp'=>?_|refine SC.go 77 c2 rfl fun fp'=>?_|((first|apply zb|apply za|apply zc)<;>intro h<;>try (exfalso;omega))|refine pay ?_|refine And.intro (by first|exact Nat.le_of_ble_eq_true rfl) ?_|intro _));(all_goals (conv=>whnf))
  exact ⟨qe (by (repeat (first|exact Thin.nil _|exact Thin.refl _|refine Thin.keep rfl (fun _ h=>h) ?_|refine Thin.skip ?_))) rfl⟩
 ·rw [if_neg h]
  have c1:=jM b S h
  (repeat' ((conv=>whnf);first|refine SC.go 77 c1 rfl fun fp'=>?_|((first|apply zb|apply za|apply zc)<;>intro h<;>try (exfalso;omega))|refine pay ?_|intro _));(all_goals (conv=>whnf))
  exact ⟨qe (by (repeat (first|exact Thin.nil _|exact Thin.refl _|refine Thin.keep rfl (fun _ h=>h) ?_|refine Thin.skip ?_))) rfl⟩
theorem xV (b:Nat) (S:Sto) (n:Int) (h:known S n) (hE:S.E.length<=1048576):SC qi #[pS b,.int .i64 n] b S S (.tuple #[.int .i64 (tm S.E n).dep,.nilIface]):=by
 intro key fp w hR
 refine zf [.v (pS b),.v (.int .i64 n)] zew (by simp) (hR.key 77) ?_
 have c1:=yI b S h
 have c2:=ux b S h hE
 unfold tm
 generalize atE S.E n=x at *
 (repeat' ((conv=>whnf);first|refine SC.go 77 c1 rfl fun fp'=>?_|refine SC.go 77 c2 rfl fun fp'=>?_|((first|apply zb|apply za|apply zc)<;>intro h<;>try (exfalso;omega))|refine pay ?_|refine And.intro (by first|exact Nat.le_of_ble_eq_true rfl) ?_|intro _));(all_goals (conv=>whnf))
 exact ⟨qe (by (repeat (first|exact Thin.nil _|exact Thin.refl _|refine Thin.keep rfl (fun _ h=>h) ?_|refine Thin.skip ?_))) rfl⟩
def zha (i n len:Int):Value:=if 0<=i/\0<=n/\i<=len/\n<=len - i then .nilIface else jK 1
theorem zig (i n:Int) (len:Nat) (hl:len<=LM) (w:World):Calls Tryz.prog ju #[.int .i64 i,.int .i64 n,.int .i64 len] w fun e w'=>e=.returned (zha i n len)/\Ext w w':=by
 refine zN [.v (.int .i64 i),.v (.int .i64 n),.v (.int .i64 len)] w zkN (by simp) ?_
 have c1:=jL len
 unfold LM at hl
 rw [decide_eq_true (by omega)] at c1
 unfold zha
 (repeat' ((conv=>whnf);first|(first|refine puK c1 ?_|refine quK c1 ?_)|((first|apply zb|apply za|apply zc)<;>intro h<;>try (exfalso;omega))|refine pay ?_|intro _));(all_goals (conv=>whnf))
 all_goals (refine ⟨?_⟩;first|(rw [if_pos (by omega)]<;>exact rfl)|(rw [if_neg (by omega)]<;>exact rfl))
end
end Go.Proofs.YtdcbghoalnlcmaaGreatDoor
