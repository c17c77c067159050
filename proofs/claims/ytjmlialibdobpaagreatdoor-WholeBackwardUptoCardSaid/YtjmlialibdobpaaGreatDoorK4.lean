/- Arithmetic modulo 2^61 - 1, of numbers. Plain Lean: no program in sight. -/
import Derived.Test.YtjmlialibdobpaaGreatDoorK2
import Derived.Test.YtjmlialibdobpaaGreatDoorK3
set_option linter.unusedSectionVars false
set_option linter.unusedVariables false
set_option linter.unusedSimpArgs false
namespace Go.Proofs.YtjmlialibdobpaaGreatDoor
section
open Go.EG
abbrev PP:Nat:=2305843009213693951
theorem zr5 (q r:Nat):(q*2305843009213693952+r)%PP=(q+r)%PP:=by
 rw [show q*2305843009213693952+r=PP*q+(q+r) by unfold PP;omega,Nat.mul_add_mod]
theorem zwk (x:Nat):x%PP=(x/2305843009213693952+x%2305843009213693952)%PP:=by
 rw [←zr5]
 congr 1
 omega
theorem zr6 {x s:Nat} (hx:x<18446744073709551616) (hs:s=x%2305843009213693952+x/2305843009213693952):x%PP=if PP<=s then s - PP else s:=by
 rw [zwk,Nat.add_comm,←hs]
 have h1:s<PP+8:=by unfold PP;omega
 split
 ·rename_i h
  rw [Nat.mod_eq_sub_mod h,Nat.mod_eq_of_lt (by unfold PP at *;omega)]
 ·rename_i h
  exact Nat.mod_eq_of_lt (by omega)
theorem zr7 (a b:Nat):a*b=(a/4294967296*(b/4294967296))*18446744073709551616+(a/4294967296*(b%4294967296)+a%4294967296*(b/4294967296))*4294967296+a%4294967296*(b%4294967296):=by
 conv=>lhs;rw [←Nat.div_add_mod a 4294967296,←Nat.div_add_mod b 4294967296]
 generalize a/4294967296=x1
 generalize a%4294967296=x0
 generalize b/4294967296=y1
 generalize b%4294967296=y0
 rw [Nat.add_mul,Nat.mul_add,Nat.mul_add]
 have e1:4294967296*x1*(4294967296*y1)=x1*y1*18446744073709551616:=by
  rw [Nat.mul_mul_mul_comm];omega
 have e2:4294967296*x1*y0=x1*y0*4294967296:=by rw [Nat.mul_assoc,Nat.mul_comm]
 have e3:x0*(4294967296*y1)=x0*y1*4294967296:=by rw [Nat.mul_left_comm,Nat.mul_comm]
 rw [e1,e2,e3]
 omega
theorem zgq {a b c d:Nat} (h:a<=c) (k:b<=d):a*b<=c*d:=Nat.mul_le_mul h k
theorem zxD {a b x0 x1 y0 y1 w0 t w1 w2 v1:Nat} (ha:a<18446744073709551616) (hb:b<18446744073709551616) (hx0:x0=a%4294967296) (hx1:x1=a/4294967296) (hy0:y0=b%4294967296) (hy1:y1=b/4294967296)
 (hw0:w0=x0*y0) (ht:t=x1*y0+w0/4294967296) (hw1:w1=t%4294967296) (hw2:w2=t/4294967296) (hv1:v1=w1+x0*y1) :
 t<18446744073709551616/\v1<18446744073709551616/\x1*y1+w2+v1/4294967296=a*b/18446744073709551616/\x0*y0<18446744073709551616/\x1*y0<18446744073709551616/\x0*y1<18446744073709551616/\x1*y1+w2+v1/4294967296<18446744073709551616/\x1*y1+w2<18446744073709551616/\x1*y1<18446744073709551616:=by
 have hs:=zr7 a b
 rw [←hx0,←hx1,←hy0,←hy1] at hs
 have h00:x0*y0<=4294967295*4294967295:=zgq (by omega) (by omega)
 have h10:x1*y0<=4294967295*4294967295:=zgq (by omega) (by omega)
 have h01:x0*y1<=4294967295*4294967295:=zgq (by omega) (by omega)
 have h11:x1*y1<=4294967295*4294967295:=zgq (by omega) (by omega)
 generalize x0*y0=p00 at *
 generalize x1*y0=p10 at *
 generalize x0*y1=p01 at *
 generalize x1*y1=p11 at *
 generalize a*b=m at *
 omega
theorem zxZ {x y hi lo:Nat} (hx:x<PP) (hy:y<PP) (hhi:hi=x*y/18446744073709551616) (hlo:lo=x*y%18446744073709551616) :
 hi*8+lo/2305843009213693952+lo%2305843009213693952<18446744073709551616/\hi*8<18446744073709551616/\hi*8+lo/2305843009213693952<18446744073709551616/\(hi*8+lo/2305843009213693952+lo%2305843009213693952)%PP=x*y%PP:=by
 have h1:x*y<=2305843009213693950*2305843009213693950:=zgq (by unfold PP at hx;omega) (by unfold PP at hy;omega)
 refine ⟨by omega,by omega,by omega,?_⟩
 rw [←zr5]
 congr 1
 generalize x*y=m at *
 omega
theorem znH (a n:Nat):a ^ n=(a*a) ^ (n/2)*a ^ (n%2):=by
 conv=>lhs;rw [←Nat.div_add_mod n 2]
 rw [Nat.pow_add,Nat.pow_mul,Nat.pow_two]
theorem zdP (a b:Nat):(a%PP)*(b%PP)%PP=a*b%PP:=(Nat.mul_mod a b PP).symm
theorem znI (a b:Nat):(a%PP)*b%PP=a*b%PP:=by rw [Nat.mul_mod,Nat.mod_mod,←Nat.mul_mod]
theorem jp (a b:Nat):a*(b%PP)%PP=a*b%PP:=by rw [Nat.mul_mod,Nat.mod_mod,←Nat.mul_mod]
theorem zk2 (a n:Nat):(a%PP) ^ n%PP=a ^ n%PP:=(Nat.pow_mod a n PP).symm
theorem zgr (a b:Nat):(a%PP+b%PP)%PP=(a+b)%PP:=(Nat.add_mod a b PP).symm
theorem zq8 {r a n t:Nat} (h:r*a ^ n%PP=t) (hn:n%2=1):(r*a%PP)*(a*a%PP) ^ (n/2)%PP=t:=by
 rw [←h,znI,←jp,zk2,jp]
 rw [znH a n,hn,Nat.pow_one]
 congr 1
 ac_rfl
theorem zq9 {r a n t:Nat} (h:r*a ^ n%PP=t) (hn:n%2≠1):r*(a*a%PP) ^ (n/2)%PP=t:=by
 rw [←h,←jp,zk2,jp]
 rw [znH a n,show n%2=0 by omega,Nat.pow_zero,Nat.mul_one]
abbrev BB:Nat:=1103515245
def zdp (v:Nat) (t:List Nat):Nat:=t.foldl (fun v b=>v*BB+(b+1)) v
def zdQ (t:List Nat):Nat:=zdp 0 t
theorem zix:∀ (t:List Nat) (v:Nat),zdp v t=v*BB ^ t.length+zdQ t
 | [],v=>by simp [zdp,zdQ]
 | b :: t,v => by
   have h1:=zix t (v*BB+(b+1))
   have h2:=zix t (0*BB+(b+1))
   have e1:zdp v (b::t)=zdp (v*BB+(b+1)) t:=rfl
   have e2:zdQ (b::t)=zdp (0*BB+(b+1)) t:=rfl
   rw [e1,e2,h1,h2,List.length_cons,Nat.pow_succ,Nat.add_mul,Nat.zero_mul,Nat.zero_add,Nat.mul_assoc,Nat.mul_comm BB,Nat.add_assoc]
theorem zpr (s t:List Nat):zdQ (s++t)=zdQ s*BB ^ t.length+zdQ t:=by
 rw [←zix]
 simp [zdQ,zdp,List.foldl_append]
def zJ (t:List Nat):Nat:=t.count 10
def qQ (t:List Nat):Nat:=(t.takeWhile (· != 10)).length
def qE (t:List Nat):Nat:=(t.reverse.takeWhile (· != 10)).length
theorem zgs (s t:List Nat):zJ (s++t)=zJ s+zJ t:=List.count_append
theorem zf0 {p:Nat->Bool}:∀ {s:List Nat},(∀ x∈s,p x=true)->∀ t,(s++t).takeWhile p=s++t.takeWhile p
 | [],_,t=>rfl
 | x :: s,h,t => by
   rw [List.cons_append,List.takeWhile_cons,if_pos (h x g5q),zf0 (fun y hy=>h y (g4q _ hy)),List.cons_append]
theorem zeq {p:Nat->Bool}:∀ {s:List Nat} {x:Nat},x∈s->p x=false->∀ t,(s++t).takeWhile p=s.takeWhile p
 | y :: s,x,hx,hp,t => by
   rw [List.cons_append,List.takeWhile_cons,List.takeWhile_cons]
   by_cases hy:p y=true
   ·rw [if_pos hy,if_pos hy]
    rcases List.mem_cons.1 hx with rfl|hx
    ·rw [hp] at hy;cases hy
    ·rw [zeq hx hp]
   ·rw [if_neg hy,if_neg hy]
theorem zwl {s:List Nat} (h:zJ s=0):∀ x∈s,(x != 10)=true:=fun x hx=>by
 have:x≠10:=fun hx10=>by
  subst hx10
  exact absurd hx (List.count_eq_zero.1 h)
 simpa using this
theorem zvu {s:List Nat} (h:zJ s≠0):10∈s:=by
 apply Classical.byContradiction
 intro hn
 exact h (List.count_eq_zero.2 hn)
theorem zaZ (s t:List Nat):qQ (s++t)=if zJ s=0 then s.length+qQ t else qQ s:=by
 unfold qQ
 split
 ·rename_i h
  rw [zf0 (zwl h),g6q]
 ·rename_i h
  rw [zeq (zvu h) rfl]
theorem zmq (s:List Nat):zJ s.reverse=zJ s:=List.count_reverse
theorem jg (s t:List Nat):qE (s++t)=if zJ t=0 then t.length+qE s else qE t:=by
 have:=zaZ t.reverse s.reverse
 unfold qQ at this
 unfold qE
 rw [List.reverse_append,this,zmq,List.length_reverse]
theorem za8 {t:List Nat} (h:zJ t=0):qQ t=t.length:=by
 have:=zaZ t []
 rw [if_pos h,List.append_nil] at this
 simpa [qQ] using this
theorem za9 {t:List Nat} (h:zJ t=0):qE t=t.length:=by
 have:=jg [] t
 rw [if_pos h,List.nil_append] at this
 simpa [qE] using this
theorem zba:∀ t:List Nat,zJ t≠0->qQ t+zJ t+qE t<=t.length/\(zJ t=1->qQ t+1+qE t=t.length)
 | [],h=>absurd rfl h
 | x :: t,h => by
   by_cases hx:x=10
   ·subst hx
    have e1:qQ (10::t)=0:=rfl
    have e2:zJ (10::t)=zJ t+1:=by simp [zJ]
    have e3:qE (10::t)=if zJ t=0 then t.length+qE [10] else qE t:=jg [10] t
    have e4:qE [10]=0:=rfl
    by_cases h0:zJ t=0
    ·rw [if_pos h0,e4] at e3
     rw [e1,e2,e3,h0,List.length_cons];omega
    ·rw [if_neg h0] at e3
     have:=zba t h0
     rw [e1,e2,e3,List.length_cons];omega
   ·have e1:qQ (x::t)=qQ t+1:=by
     unfold qQ
     rw [List.takeWhile_cons,if_pos (by simpa using hx),List.length_cons]
    have e2:zJ (x::t)=zJ t:=by simp [zJ,hx]
    have e3:qE (x::t)=if zJ t=0 then t.length+qE [x] else qE t:=jg [x] t
    rw [e2] at h ⊢
    rw [if_neg h] at e3
    have:=zba t h
    rw [e1,e3,List.length_cons];omega
def rep (k:Nat) (t:List Nat):List Nat:=(List.replicate k t).flatten
theorem zaz (t:List Nat):rep 0 t=[]:=rfl
theorem x7 (t:List Nat):rep 1 t=t:=by simp [rep]
theorem vb (k:Nat) (t:List Nat):rep (k+1) t=t++rep k t:=by simp [rep,List.replicate_succ]
theorem kQ (j k:Nat) (t:List Nat):rep (j+k) t=rep j t++rep k t:=by
 rw [rep,←List.replicate_append_replicate,List.flatten_append];rfl
theorem zbD (k:Nat) (t:List Nat):(rep k t).length=k*t.length:=by simp [rep]
theorem zr8 (k:Nat) (t:List Nat):zJ (rep k t)=k*zJ t:=by
 induction k with
 | zero=>simp [zaz,zJ]
 | succ k ih=>rw [vb,zgs,ih,Nat.succ_mul];omega
theorem zua {k:Nat} (hk:0<k) (t:List Nat) (h:zJ t≠0):qQ (rep k t)=qQ t:=by
 obtain ⟨j,rfl⟩:∃ j,k=j+1:=⟨k - 1,by omega⟩
 rw [vb,zaZ,if_neg h]
theorem zub {k:Nat} (hk:0<k) (t:List Nat) (h:zJ t≠0):qE (rep k t)=qE t:=by
 obtain ⟨j,rfl⟩:∃ j,k=j+1:=⟨k - 1,by omega⟩
 rw [kQ,x7,jg,if_neg h]
def kI (t:List Nat):Nat:=zdQ t%PP
def qY (t:List Nat):Nat:=BB ^ t.length%PP
theorem zvv (t:List Nat):kI t<PP:=Nat.mod_lt _ (by decide)
theorem zps (s t:List Nat):(kI s*qY t%PP+kI t)%PP=kI (s++t):=by
 unfold kI qY
 rw [zpr,zdP,zgr]
theorem zmr (s t:List Nat):qY s*qY t%PP=qY (s++t):=by
 unfold qY
 rw [zdP,g6q,Nat.pow_add]
end
section
open Go.EG
attribute [local irreducible] zT yE Go.Calls
set_option maxRecDepth 20000
theorem znJ (x:Nat):x&&&2305843009213693951=x%2305843009213693952:=Nat.and_two_pow_sub_one_eq_mod x 61
theorem zra (x:Nat):x&&&4294967295=x%4294967296:=Nat.and_two_pow_sub_one_eq_mod x 32
theorem ko (x:Nat) (hx:x<18446744073709551616) (w:World):Calls Tryz.prog qy #[.int .u64 x] w fun e w'=>e=.returned (.int .u64 (x%PP:Nat))/\Ext w w':=by
 refine zF [.v (.int .u64 x)] w zhy (by simp) ?_
 have e1:(((x:Int).toNat&&&(2305843009213693951:Int).toNat:Nat):Int)=((x%2305843009213693952:Nat):Int):=by
  rw [g7q];exact congrArg _ (znJ x)
 have e2:(x:Int)/((2 ^ (61:Int).toNat:Nat):Int)=((x/2305843009213693952:Nat):Int):=by
  rw [Int.natCast_ediv];rfl
 have hr:=zr6 hx rfl
 generalize hs:x%2305843009213693952+x/2305843009213693952=s at *
 have hss:((x%2305843009213693952:Nat):Int)+((x/2305843009213693952:Nat):Int)=(s:Int):=by omega
 have hsb:s<2305843009213693960:=by omega
 unfold PP at hr
 (repeat' ((conv=>whnf);first|rw [e1]|rw [e2]|rw [hss]|((first|apply zc|apply za|apply zd)<;>intro h<;>try (exfalso;omega))|refine pay ?_|refine And.intro (by first|exact ⟨by omega,by omega,by decide,by decide⟩|exact ⟨by decide,by show _<=(64:Int);decide⟩) ?_|intro _));(all_goals (conv=>whnf))
 all_goals (refine ⟨?_⟩;rw [hr];congr 1;split<;>omega)
theorem zpt (a b:Nat) (ha:a<18446744073709551616) (hb:b<18446744073709551616) (w:World):Calls Tryz.prog uE #[.int .u64 a,.int .u64 b] w fun e w'=>e=.returned (.tuple #[.int .u64 (a*b/18446744073709551616:Nat),.int .u64 (a*b%18446744073709551616:Nat)])/\Ext w w':=by
 refine zF [.v (.int .u64 a),.v (.int .u64 b)] w zgp (by simp) ?_
 have hand:∀ x:Nat,(((x:Int).toNat&&&(4294967295:Int).toNat:Nat):Int)=((x%4294967296:Nat):Int):=fun x=>by
  rw [g7q];exact congrArg _ (zra x)
 have hsh:∀ x:Nat,(x:Int)/((2 ^ (32:Int).toNat:Nat):Int)=((x/4294967296:Nat):Int):=fun x=>by
  rw [Int.natCast_ediv];rfl
 obtain ⟨x0,hx0⟩:∃ x0,x0=a%4294967296:=⟨_,rfl⟩
 obtain ⟨x1,hx1⟩:∃ x1,x1=a/4294967296:=⟨_,rfl⟩
 obtain ⟨y0,hy0⟩:∃ y0,y0=b%4294967296:=⟨_,rfl⟩
 obtain ⟨y1,hy1⟩:∃ y1,y1=b/4294967296:=⟨_,rfl⟩
 obtain ⟨w0,hw0⟩:∃ w0,w0=x0*y0:=⟨_,rfl⟩
 obtain ⟨t,ht⟩:∃ t,t=x1*y0+w0/4294967296:=⟨_,rfl⟩
 obtain ⟨w1,hw1⟩:∃ w1,w1=t%4294967296:=⟨_,rfl⟩
 obtain ⟨w2,hw2⟩:∃ w2,w2=t/4294967296:=⟨_,rfl⟩
 obtain ⟨v1,hv1⟩:∃ v1,v1=w1+x0*y1:=⟨_,rfl⟩
 obtain ⟨k1,k2,k3,k4,k5,k6,k7,k8,k9⟩:=zxD ha hb hx0 hx1 hy0 hy1 hw0 ht hw1 hw2 hv1
 have wr:∀ n:Nat,n<18446744073709551616->(n:Int)%18446744073709551616=n:=fun n hn=>by omega
 have q1:=hand a
 have q2:=hsh a
 have q3:=hand b
 have q4:=hsh b
 rw [←hx0] at q1
 rw [←hx1] at q2
 rw [←hy0] at q3
 rw [←hy1] at q4
 have q5:(x0:Int)*(y0:Int)%18446744073709551616=(w0:Int):=by rw [hw0,←Int.natCast_mul,wr _ k4]
 have q6:(x1:Int)*(y0:Int)%18446744073709551616=((x1*y0:Nat):Int):=by rw [←Int.natCast_mul,wr _ k5]
 have q7:=hsh w0
 have q8:(((x1*y0:Nat):Int)+((w0/4294967296:Nat):Int))%18446744073709551616=(t:Int):=by rw [←Int.natCast_add,←ht,wr _ k1]
 have q9:=hand t
 have q10:=hsh t
 rw [←hw1] at q9
 rw [←hw2] at q10
 have q11:(x0:Int)*(y1:Int)%18446744073709551616=((x0*y1:Nat):Int):=by rw [←Int.natCast_mul,wr _ k6]
 have q12:((w1:Int)+((x0*y1:Nat):Int))%18446744073709551616=(v1:Int):=by rw [←Int.natCast_add,←hv1,wr _ k2]
 have q13:(x1:Int)*(y1:Int)%18446744073709551616=((x1*y1:Nat):Int):=by rw [←Int.natCast_mul,wr _ k9]
 have q14:(((x1*y1:Nat):Int)+(w2:Int))%18446744073709551616=((x1*y1+w2:Nat):Int):=by rw [←Int.natCast_add,wr _ k8]
 have q15:=hsh v1
 have q16:(((x1*y1+w2:Nat):Int)+((v1/4294967296:Nat):Int))%18446744073709551616=((a*b/18446744073709551616:Nat):Int):=by rw [←Int.natCast_add,k3,wr _ (by omega)]
 have q17:(a:Int)*(b:Int)%18446744073709551616=((a*b%18446744073709551616:Nat):Int):=by rw [←Int.natCast_mul];omega
 have bx0:x0<=4294967295:=by omega
 clear hw0 ht hv1 hx0 hx1 hy0 hy1 hw1 hw2
 (repeat' ((conv=>whnf);first|rw [q1]|rw [q2]|rw [q3]|rw [q4]|rw [q5]|rw [q6]|rw [q7]|rw [q8]|rw [q9]|rw [q10]|rw [q11]|rw [q12]|rw [q13]|rw [q14]|rw [q15]|rw [q16]|rw [q17]|((first|apply zc|apply za|apply zd)<;>intro h<;>try (exfalso;omega))|refine pay ?_|refine And.intro (by first|exact ⟨by omega,by omega,by decide,by decide⟩|exact ⟨by decide,by show _<=(64:Int);decide⟩) ?_|intro _));(all_goals (conv=>whnf))
 exact ⟨rfl⟩
theorem zrb (a b:Nat) (ha:a<18446744073709551616) (hb:b<18446744073709551616) (w:World):Calls Tryz.prog zay #[.int .u64 a,.int .u64 b] w fun e w'=>e=.returned (.int .u64 ((a+b)%PP:Nat))/\Ext w w':=by
 refine zF [.v (.int .u64 a),.v (.int .u64 b)] w zkN (by simp) ?_
 have h1:a%PP<PP:=Nat.mod_lt _ (by decide)
 have h2:b%PP<PP:=Nat.mod_lt _ (by decide)
 have hs:(((a%PP:Nat):Int)+((b%PP:Nat):Int))%18446744073709551616=((a%PP+b%PP:Nat):Int):=by unfold PP at *;omega
 rw [←zgr]
 have hlt:a%PP+b%PP<18446744073709551616:=by unfold PP at *;omega
 generalize a%PP+b%PP=s at *
 (repeat' ((conv=>whnf);first|rw [hs]|refine zm (.v _) (fun w hR=>ko a ha w) ?_|refine zm (.v _) (fun w hR=>ko b hb w) ?_|refine zm (.v _) (fun w hR=>ko s hlt w) ?_|((first|apply zc|apply za|apply zd)<;>intro h<;>try (exfalso;omega))|refine pay ?_|intro _));(all_goals (conv=>whnf))
 exact ⟨rfl⟩
theorem zbE (a b:Nat) (ha:a<18446744073709551616) (hb:b<18446744073709551616) (w:World):Calls Tryz.prog x6 #[.int .u64 a,.int .u64 b] w fun e w'=>e=.returned (.int .u64 (a*b%PP:Nat))/\Ext w w':=by
 refine zF [.v (.int .u64 a),.v (.int .u64 b)] w zkL (by simp) ?_
 rw [←zdP]
 have h1:a%PP<PP:=Nat.mod_lt _ (by decide)
 have h2:b%PP<PP:=Nat.mod_lt _ (by decide)
 have c1:=ko a ha
 have c2:=ko b hb
 generalize a%PP=x at *
 generalize b%PP=y at *
 have c3:=zpt x y (Nat.lt_trans h1 (by decide)) (Nat.lt_trans h2 (by decide))
 obtain ⟨k1,k2,k3,k4⟩:=zxZ h1 h2 rfl rfl
 rw [←k4]
 generalize hhi:x*y/18446744073709551616=hi at *
 generalize hlo:x*y%18446744073709551616=lo at *
 have hlo2:lo<18446744073709551616:=by omega
 have c4:=ko _ k1
 have q1:(hi:Int)*((2 ^ (3:Int).toNat:Nat):Int)%18446744073709551616=((hi*8:Nat):Int):=by
  show (hi:Int)*8%18446744073709551616=_
  omega
 have q2:(lo:Int)/((2 ^ (61:Int).toNat:Nat):Int)=((lo/2305843009213693952:Nat):Int):=by rw [Int.natCast_ediv];rfl
 have q3:(((hi*8:Nat):Int)+((lo/2305843009213693952:Nat):Int))%18446744073709551616=((hi*8+lo/2305843009213693952:Nat):Int):=by omega
 have q4:(((lo:Int).toNat&&&(2305843009213693951:Int).toNat:Nat):Int)=((lo%2305843009213693952:Nat):Int):=by rw [g7q];exact congrArg _ (znJ lo)
 have q5:(((hi*8+lo/2305843009213693952:Nat):Int)+((lo%2305843009213693952:Nat):Int))%18446744073709551616=((hi*8+lo/2305843009213693952+lo%2305843009213693952:Nat):Int):=by omega
 (repeat' ((conv=>whnf);first|rw [q1]|rw [q2]|rw [q3]|rw [q4]|rw [q5]|refine zm (.v _) (fun w hR=>c1 w) ?_|refine zm (.v _) (fun w hR=>c2 w) ?_|refine zm (.v _) (fun w hR=>c3 w) ?_|refine zm (.v _) (fun w hR=>c4 w) ?_|((first|apply zc|apply za|apply zd)<;>intro h<;>try (exfalso;omega))|refine pay ?_|refine And.intro (by first|exact ⟨by omega,by omega,by decide,by decide⟩|exact ⟨by decide,by show _<=(64:Int);decide⟩) ?_|intro _));(all_goals (conv=>whnf))
 exact ⟨rfl⟩
structure PowG where
 r:Nat
 a:Nat
 n:Nat
theorem zrc (a n:Nat) (ha:a<18446744073709551616) (hn:n<18446744073709551616) (w:World):Calls Tryz.prog zax #[.int .u64 a,.int .u64 n] w fun e w'=>e=.returned (.int .u64 (a ^ n%PP:Nat))/\Ext w w':=by
 refine zF [.v (.int .u64 a),.v (.int .u64 n)] w zkP (by simp) ?_
 (repeat' ((conv=>whnf);first|refine zm (.v _) (fun w hR=>ko a ha w) ?_|((first|apply zc|apply za|apply zd)<;>intro h<;>try (exfalso;omega))|refine pay ?_|intro _));(all_goals (conv=>whnf))
 refine zw PowG (fun g=>[(0,.v (.int .u64 g.a)),(1,.v (.int .u64 g.n)),(5,.v (.int .u64 g.r))]) (fun _=>[]) (fun g=>g.r<PP/\g.a<PP/\g.n<18446744073709551616/\g.r*g.a ^ g.n%PP=a ^ n%PP) (fun g=>g.n) ⟨1,a%PP,n⟩ ⟨by dsimp only;decide,Nat.mod_lt _ (by decide),hn,by dsimp only;rw [Nat.one_mul,zk2]⟩ (by (repeat ((conv=>whnf);refine vS ?_));exact trivial) (Ref.refl _) ?_
 rintro ⟨r,x,m⟩ ⟨hr,hx,hm,hi⟩
 dsimp only at hr hx hm hi ⊢
 have c1:=zbE r x (Nat.lt_trans hr (by decide)) (Nat.lt_trans hx (by decide))
 have c2:=zbE x x (Nat.lt_trans hx (by decide)) (Nat.lt_trans hx (by decide))
 have hm2:(m:Int)/2=((m/2:Nat):Int):=by omega
 (repeat' ((conv=>whnf);first|refine zm (.v _) (fun w hR=>c1 w) ?_|refine zm (.v _) (fun w hR=>c2 w) ?_|rw [hm2]|((first|apply zc|apply za|apply zd)<;>intro h<;>try (exfalso;omega))|refine pay ?_|intro _));(all_goals (conv=>whnf))
 ·refine zi ⟨r*x%PP,x*x%PP,m/2⟩ (by dsimp only;exact ⟨Nat.mod_lt _ (by decide),Nat.mod_lt _ (by decide),by omega,zq8 hi (by omega)⟩) (by ((try dsimp only);omega)) (by (repeat ((conv=>whnf);refine vS ?_));exact trivial) (Ref.refl _)
 ·refine zi ⟨r,x*x%PP,m/2⟩ (by dsimp only;exact ⟨hr,Nat.mod_lt _ (by decide),by omega,zq9 hi (by omega)⟩) (by ((try dsimp only);omega)) (by (repeat ((conv=>whnf);refine vS ?_));exact trivial) (Ref.refl _)
 ·have hm0:m=0:=by omega
  subst hm0
  rw [Nat.pow_zero,Nat.mul_one,Nat.mod_eq_of_lt hr] at hi
  rw [←hi]
  exact ⟨rfl⟩
abbrev LM:Nat:=1152921504606846976
abbrev yg (n:Int):Value:=.iface zo (.int .i64 n)
abbrev zaA (t:List Nat):Value:=.agg #[.int .u64 (kI t),.int .u64 (qY t)]
abbrev wtV (t:List Nat):Value:=.agg #[.int .i64 t.length,.int .i64 (zJ t),.int .i64 (qQ t),.int .i64 (qE t),.int .u64 (kI t),.int .u64 (qY t)]
theorem uF (n:Int) (w:World):Calls Tryz.prog y6 #[.int .i64 n] w fun e w'=>e=.returned (.bool (decide (0<=n/\n<=1152921504606846976)))/\Ext w w':=by
 refine zF [.v (.int .i64 n)] w zjJ (by simp) ?_
 (repeat' ((conv=>whnf);first|((first|apply zc|apply za|apply zd)<;>intro h<;>try (exfalso;omega))|refine pay ?_|intro _));(all_goals (conv=>whnf))
 all_goals (refine ⟨?_⟩;congr 1;simp;omega)
theorem zpu (n lo hi:Int) (w:World):Calls Tryz.prog zav #[.int .i64 n,.int .i64 lo,.int .i64 hi] w fun e w'=>e=.returned (.int .i64 (if n<lo then lo else if n>hi then hi else n))/\Ext w w':=by
 refine zF [.v (.int .i64 n),.v (.int .i64 lo),.v (.int .i64 hi)] w zkW (by simp) ?_
 (repeat' ((conv=>whnf);first|((first|apply zc|apply za|apply zd)<;>intro h<;>try (exfalso;omega))|refine pay ?_|intro _));(all_goals (conv=>whnf))
 all_goals (refine ⟨?_⟩;congr 1;repeat' split<;>omega)
def znK (a b:Nat):Value:=if a+b<=LM then .tuple #[.int .i64 ((a+b:Nat):Int),.nilIface] else .tuple #[.int .i64 0,yg 2]
theorem ze4 (a b:Nat) (ha:a<=LM) (hb:b<=LM) (w:World):Calls Tryz.prog jo #[.int .i64 a,.int .i64 b] w fun e w'=>e=.returned (znK a b)/\Ext w w':=by
 refine zF [.v (.int .i64 a),.v (.int .i64 b)] w zml (by simp) ?_
 unfold LM at ha hb
 have c1:=uF a
 have c2:=uF b
 rw [decide_eq_true (by omega)] at c1 c2
 (repeat' ((conv=>whnf);first|refine zm (.v _) (fun w hR=>c1 w) ?_|refine zm (.v _) (fun w hR=>c2 w) ?_|((first|apply zc|apply za|apply zd)<;>intro h<;>try (exfalso;omega))|refine pay ?_|intro _));(all_goals (conv=>whnf))
 all_goals (refine ⟨?_⟩;unfold znK LM;first|rw [if_pos (by omega)]|rw [if_neg (by omega)])
 all_goals first|rfl|(congr 4;omega)
def znL (a k:Nat):Value:=if a*k<=LM then .tuple #[.int .i64 ((a*k:Nat):Int),.nilIface] else .tuple #[.int .i64 0,yg 2]
theorem ze5 (a k:Nat) (ha:a<=LM) (hk:k<=9223372036854775807) (w:World):Calls Tryz.prog jm #[.int .i64 a,.int .i64 k] w fun e w'=>e=.returned (znL a k)/\Ext w w':=by
 refine zF [.v (.int .i64 a),.v (.int .i64 k)] w zmn (by simp) ?_
 unfold LM at ha
 have c1:=uF a
 rw [decide_eq_true (by omega)] at c1
 have hd:(1152921504606846976:Int)/(a:Int)=((1152921504606846976/a:Nat):Int):=by rw [Int.natCast_ediv];rfl
 have hm:(a:Int)*(k:Int)=((a*k:Nat):Int):=by simp
 have hiff:0<a->(k<=1152921504606846976/a↔a*k<=1152921504606846976):=fun h=>by
  rw [Nat.le_div_iff_mul_le h,Nat.mul_comm]
 generalize 1152921504606846976/a=q at *
 have hz:a=0->a*k=0:=fun h=>by rw [h,Nat.zero_mul]
 rw [show znL a k=if a*k<=LM then .tuple #[.int .i64 ((a*k:Nat):Int),.nilIface] else .tuple #[.int .i64 0,yg 2] from rfl]
 unfold LM
 generalize a*k=p at *
 have hw1:0<a->k<=q->p<=1152921504606846976:=fun h1 h2=>(hiff h1).1 h2
 have hw2:0<a->q<k->1152921504606846976<p:=fun h1 h2=>by have:=(hiff h1).2;omega
 (repeat' ((conv=>whnf);first|rw [hd]|rw [hm]|refine zm (.v _) (fun w hR=>c1 w) ?_|((first|apply zc|apply za|apply zd)<;>intro h<;>try (exfalso;omega))|refine pay ?_|refine And.intro (by first|exact ⟨by omega,by omega,by omega⟩|(have:=hw1 (by omega) (by omega);omega)) ?_|intro _));(all_goals (conv=>whnf))
 ·refine ⟨?_⟩
  rw [if_pos (by have:=hz (by omega);omega),hz (by omega)];rfl
 ·refine ⟨?_⟩
  rw [if_neg (by have:=hw2 (by omega) (by omega);omega)];exact rfl
 ·refine ⟨?_⟩
  rw [if_pos (by have:=hw1 (by omega) (by omega);omega)]
theorem zhU (w:World):Calls Tryz.prog uV #[] w fun e w'=>e=.returned (zaA [])/\Ext w w':=by
 refine zF [] w zkR (by simp) ?_
 (repeat' ((conv=>whnf);first|((first|apply zc|apply za|apply zd)<;>intro h<;>try (exfalso;omega))|refine pay ?_|intro _));(all_goals (conv=>whnf))
 exact ⟨rfl⟩
theorem zms (b:Nat) (hb:b<256) (w:World):Calls Tryz.prog vO #[.int .u8 b] w fun e w'=>e=.returned (zaA [b])/\Ext w w':=by
 refine zF [.v (.int .u8 b)] w zio (by simp) ?_
 have e1:kI [b]=b+1:=by
  have:zdQ [b]=b+1:=by simp [zdQ,zdp]
  rw [kI,this];exact Nat.mod_eq_of_lt (by unfold PP;omega)
 have e2:qY [b]=1103515245:=rfl
 have q:((b:Int)+1)%18446744073709551616=((b+1:Nat):Int):=by omega
 have q2:(b:Int)%18446744073709551616=b:=by omega
 unfold zaA
 rw [e1,e2]
 (repeat' ((conv=>whnf);first|rw [q]|rw [q2]|((first|apply zc|apply za|apply zd)<;>intro h<;>try (exfalso;omega))|refine pay ?_|intro _));(all_goals (conv=>whnf))
 exact ⟨rfl⟩
theorem zuc {n:Nat}:n%PP<18446744073709551616:=Nat.lt_trans (Nat.mod_lt n (by decide)) (by decide)
theorem znM (t:List Nat):kI t<18446744073709551616:=zuc
theorem ze6 (t:List Nat):qY t<18446744073709551616:=zuc
theorem zdR (s t:List Nat) (w:World):Calls Tryz.prog vu #[zaA s,zaA t] w fun e w'=>e=.returned (zaA (s++t))/\Ext w w':=by
 refine zF [.v (zaA s),.v (zaA t)] w zkU (by simp) ?_
 have c1:=zbE (kI s) (qY t) (znM _) (ze6 _)
 have c2:=zrb (kI s*qY t%PP) (kI t) zuc (znM _)
 have c3:=zbE (qY s) (qY t) (ze6 _) (ze6 _)
 rw [zps] at c2
 rw [zmr] at c3
 (repeat' ((conv=>whnf);first|refine zm (.v _) (fun w hR=>c1 w) ?_|refine zm (.v _) (fun w hR=>c2 w) ?_|refine zm (.v _) (fun w hR=>c3 w) ?_|refine yF (.v _) (fun w hR=>c1 w) ?_|refine yF (.v _) (fun w hR=>c2 w) ?_|refine yF (.v _) (fun w hR=>c3 w) ?_|((first|apply zc|apply za|apply zd)<;>intro h<;>try (exfalso;omega))|refine pay ?_|intro _));(all_goals (conv=>whnf))
 exact ⟨rfl⟩
structure RepG where
 m:Nat
 i:Nat
 k:Nat
theorem zud (m k p:Nat):m+k%2*p+k/2*(p+p)=m+k*p:=by
 conv=>rhs;rw [←Nat.div_add_mod k 2]
 rw [Nat.add_mul,Nat.mul_assoc,Nat.mul_left_comm,Nat.two_mul]
 omega
theorem zmt (t:List Nat) (k:Nat) (hk:k<=9223372036854775807) (w:World):Calls Tryz.prog jy #[zaA t,.int .i64 k] w fun e w'=>e=.returned (zaA (rep k t))/\Ext w w':=by
 refine zF [.v (zaA t),.v (.int .i64 k)] w zir (by simp) ?_
 (repeat' ((conv=>whnf);first|refine zm (.v _) (fun w hR=>zhU w) ?_|((first|apply zc|apply za|apply zd)<;>intro h<;>try (exfalso;omega))|refine pay ?_|intro _));(all_goals (conv=>whnf))
 rename_i b2 b4 b5
 refine zw RepG (fun g=>[(1,.v (.int .i64 g.k)),(2,.ptr 2 b2 0),(5,.ptr 5 b5 0),(4,.ptr 4 b4 0)])
  (fun g=>[Ent.box 5 b5 [.int .u64 (kI (rep g.m t)),.int .u64 (qY (rep g.m t))] qL,Ent.box 4 b4 [.int .u64 0,.int .u64 0] qL,Ent.box 2 b2 [.int .u64 (kI (rep g.i t)),.int .u64 (qY (rep g.i t))] qL])
  (fun g=>g.m+g.k*g.i=k/\g.k<=9223372036854775807) (fun g=>g.k) ⟨0,1,k⟩ ⟨by dsimp only;omega,hk⟩ (by (repeat ((conv=>whnf);refine vS ?_));exact trivial) (by dsimp only;rw [zaz,x7];exact Ref.refl _) ?_
 rintro ⟨m,i,j⟩ ⟨hi,hj⟩
 dsimp only at hi hj ⊢
 have c1:=zdR (rep m t) (rep i t)
 have c2:=zdR (rep i t) (rep i t)
 rw [←kQ] at c1 c2
 have q1:(j:Int)/2=((j/2:Nat):Int):=by omega
 have hh:=zud m j i
 (repeat' ((conv=>whnf);first|rw [q1]|refine zm (.v _) (fun w hR=>c1 w) ?_|refine zm (.v _) (fun w hR=>c2 w) ?_|((first|apply zc|apply za|apply zd)<;>intro h<;>try (exfalso;omega))|refine pay ?_|intro _));(all_goals (conv=>whnf))
 ·refine zi ⟨m+i,i+i,j/2⟩ (by dsimp only;rw [show j%2=1 by omega] at hh;omega) (by ((try dsimp only);omega)) (by (repeat ((conv=>whnf);refine vS ?_));exact trivial) (Ref.refl _)
 ·refine zi ⟨m,i+i,j/2⟩ (by dsimp only;rw [show j%2=0 by omega] at hh;omega) (by ((try dsimp only);omega)) (by (repeat ((conv=>whnf);refine vS ?_));exact trivial) (Ref.refl _)
 ·have:j=0:=by omega
  subst this
  rw [Nat.zero_mul,Nat.add_zero] at hi
  subst hi
  exact ⟨rfl⟩
theorem zhV (w:World):Calls Tryz.prog uU #[] w fun e w'=>e=.returned (wtV [])/\Ext w w':=by
 refine zF [] w zkY (by simp) ?_
 (repeat' ((conv=>whnf);first|refine zm (.v _) (fun w hR=>zhU w) ?_|((first|apply zc|apply za|apply zd)<;>intro h<;>try (exfalso;omega))|refine pay ?_|intro _));(all_goals (conv=>whnf))
 exact ⟨rfl⟩
theorem zmu (b:Nat) (hb:b<256) (w:World):Calls Tryz.prog jz #[.int .u8 b] w fun e w'=>e=.returned (wtV [b])/\Ext w w':=by
 refine zF [.v (.int .u8 b)] w zit (by simp) ?_
 have e0:b≠10->zJ [b]=0/\qQ [b]=1/\qE [b]=1:=fun h=>by
  have h0:zJ [b]=0:=by simp [zJ,h]
  exact ⟨h0,za8 h0,za9 h0⟩
 (repeat' ((conv=>whnf);first|refine zm (.v _) (fun w hR=>zms b hb w) ?_|((first|apply zc|apply za|apply zd)<;>intro h<;>try (exfalso;omega))|refine pay ?_|intro _));(all_goals (conv=>whnf))
 ·refine ⟨?_⟩
  have:b=10:=by omega
  subst this
  rfl
 ·refine ⟨?_⟩
  obtain ⟨e1,e2,e3⟩:=e0 (by omega)
  unfold wtV
  rw [e1,e2,e3]
  rfl
theorem zcB (t:List Nat) (ht:t.length<=LM) (w:World):Calls Tryz.prog kV #[wtV t] w fun e w'=>e=.returned (.bool true)/\Ext w w':=by
 refine zF [.v (wtV t)] w zjO (by simp) ?_
 unfold LM at ht
 have c1:=uF t.length
 rw [decide_eq_true (by omega)] at c1
 have c2:=zrc 1103515245 t.length (by decide) (by omega)
 have h0:zJ t=0->qQ t=t.length/\qE t=t.length:=fun h=>⟨za8 h,za9 h⟩
 have h1:=zba t
 have h2:=zvv t
 have h3:t.length=0->kI t=0:=fun h=>by rw [List.eq_nil_of_length_eq_zero h];rfl
 have h4:qY t=1103515245 ^ t.length%PP:=rfl
 rw [←h4] at c2
 have q1:(t.length:Int)%18446744073709551616=t.length:=by omega
 clear h4
 unfold PP at h2
 unfold wtV
 generalize t.length=n at *
 generalize zJ t=l at *
 generalize qQ t=hd at *
 generalize qE t=tl at *
 generalize kI t=v at *
 generalize qY t=sc at *
 (repeat' ((conv=>whnf);first|rw [q1]|refine zm (.v _) (fun w hR=>c1 w) ?_|refine yF (.v _) (fun w hR=>c2 w) ?_|((first|apply zc|apply za|apply zd)<;>intro h<;>try (exfalso;omega))|refine pay ?_|intro _));(all_goals (conv=>whnf))
 all_goals (refine ⟨?_⟩;first|rfl|(exfalso;omega)|(congr 1;simp))
theorem zpv (s t:List Nat) (h:s.length+t.length<=LM) (w:World):Calls Tryz.prog zaw #[wtV s,wtV t] w fun e w'=>e=.returned (.tuple #[wtV (s++t),.nilIface])/\Ext w w':=by
 refine zF [.v (wtV s),.v (wtV t)] w zk1 (by simp) ?_
 have c1:=zcB s (by omega)
 have c2:=zcB t (by omega)
 have c3:=ze4 s.length t.length (by omega) (by omega)
 rw [show znK s.length t.length=.tuple #[.int .i64 ((s.length+t.length:Nat):Int),.nilIface] from if_pos h] at c3
 have c4:=zdR s t
 have e1:=zgs s t
 have e2:=zaZ s t
 have e3:=jg s t
 have b1:=zba s
 have b2:=zba t
 have z1:zJ s=0->qQ s=s.length/\qE s=s.length:=fun h=>⟨za8 h,za9 h⟩
 have z2:zJ t=0->qQ t=t.length/\qE t=t.length:=fun h=>⟨za8 h,za9 h⟩
 unfold LM at h
 unfold wtV at *
 unfold zaA at c4
 rw [g6q,e1,e2,e3]
 generalize kI (s++t)=v at *
 generalize qY (s++t)=sc at *
 clear e1 e2 e3
 generalize s.length=n at *
 generalize t.length=n' at *
 generalize zJ s=l at *
 generalize zJ t=l' at *
 generalize qQ s=hd at *
 generalize qQ t=hd' at *
 generalize qE s=tl at *
 generalize qE t=tl' at *
 (repeat' ((conv=>whnf);first|refine zm (.v _) (fun w hR=>c1 w) ?_|refine zm (.v _) (fun w hR=>c2 w) ?_|refine zm (.v _) (fun w hR=>c3 w) ?_|refine yF (.v _) (fun w hR=>c1 w) ?_|refine yF (.v _) (fun w hR=>c2 w) ?_|refine yF (.v _) (fun w hR=>c4 w) ?_|((first|apply zc|apply za|apply zd)<;>intro h<;>try (exfalso;omega))|refine pay ?_|intro _));(all_goals (conv=>whnf))
 all_goals (refine ⟨?_⟩)
 all_goals (try rw [if_pos (by omega:l=0)]) 
 all_goals (try rw [if_neg (by omega:¬l=0)])
 all_goals (try rw [if_pos (by omega:l'=0)])
 all_goals (try rw [if_neg (by omega:¬l'=0)])
 all_goals exact rfl
theorem zmv (t:List Nat) (k:Nat) (hk:k<=9223372036854775807) (h:t.length*k<=LM) (ht:t.length<=LM) (w:World):Calls Tryz.prog jx #[wtV t,.int .i64 k] w fun e w'=>e=.returned (.tuple #[wtV (rep k t),.nilIface])/\Ext w w':=by
 refine zF [.v (wtV t),.v (.int .i64 k)] w ziw (by simp) ?_
 have c1:=zcB t ht
 have c3:=ze5 t.length k ht hk
 rw [show znL t.length k=.tuple #[.int .i64 ((t.length*k:Nat):Int),.nilIface] from if_pos h] at c3
 have c4:=zmt t k hk
 have c5:=zhV
 have e1:=zr8 k t
 have e0:=zbD k t
 have hm:(zJ t:Int)*(k:Int)=((zJ t*k:Nat):Int):=by simp
 have hlk:zJ t*k<=t.length*k:=Nat.mul_le_mul_right _ (List.count_le_length)
 by_cases hz:t.length*k=0
 ·have hr:rep k t=[]:=List.eq_nil_of_length_eq_zero (by rw [e0,Nat.mul_comm];exact hz)
  rw [hr] at *
  rw [hz] at c3
  (repeat' ((conv=>whnf);first|refine zm (.v _) (fun w hR=>c1 w) ?_|refine zm (.v _) (fun w hR=>c3 w) ?_|refine zm (.v _) (fun w hR=>c5 w) ?_|((first|apply zc|apply za|apply zd)<;>intro h<;>try (exfalso;omega))|refine pay ?_|intro _));(all_goals (conv=>whnf))
  exact ⟨rfl⟩
 ·have hk0:0<k:=by
   rcases Nat.eq_zero_or_pos k with h|h
   ·rw [h,Nat.mul_zero] at hz;exact absurd rfl hz
   ·exact h
  have e2:zJ t≠0->qQ (rep k t)=qQ t:=zua hk0 t
  have e3:zJ t≠0->qE (rep k t)=qE t:=zub hk0 t
  have e4:zJ t=0->qQ (rep k t)=t.length*k/\qE (rep k t)=t.length*k:=fun h=>by
   have h0:zJ (rep k t)=0:=by rw [e1,h,Nat.mul_zero]
   rw [za8 h0,za9 h0,e0,Nat.mul_comm];exact ⟨rfl,rfl⟩
  rw [Nat.mul_comm] at e0 e1
  unfold LM at h
  unfold wtV at *
  unfold zaA at c4
  rw [e0,e1]
  clear e0 e1
  generalize kI (rep k t)=v at *
  generalize qY (rep k t)=sc at *
  generalize qQ (rep k t)=hh at *
  generalize qE (rep k t)=tt at *
  generalize t.length*k=nk at *
  generalize hlk2:zJ t*k=lk at *
  generalize zJ t=l at *
  have hl0:l=0->lk=0:=fun h=>by rw [←hlk2,h,Nat.zero_mul]
  (repeat' ((conv=>whnf);first|rw [hm]|refine zm (.v _) (fun w hR=>c1 w) ?_|refine zm (.v _) (fun w hR=>c3 w) ?_|refine zm (.v _) (fun w hR=>c4 w) ?_|refine yF (.v _) (fun w hR=>c1 w) ?_|refine yF (.v _) (fun w hR=>c4 w) ?_|((first|apply zc|apply za|apply zd)<;>intro h<;>try (exfalso;omega))|refine pay ?_|intro _));(all_goals (conv=>whnf))
  ·refine ⟨?_⟩
   obtain ⟨h1,h2⟩:=e4 (by omega)
   rw [h1,h2]
   exact rfl
  ·refine ⟨?_⟩
   rw [e2 (by omega),e3 (by omega)]
   exact rfl
structure Rul where
 k:Int
 l:Int
 a:Int
 b:Int
 t:Int
deriving DecidableEq
abbrev ruC (r:Rul):List Value:=[.int .i64 r.k,.int .u8 r.l,.int .i64 r.a,.int .i64 r.b,.int .i64 r.t]
abbrev ruV (r:Rul):Value:=.agg #[.int .i64 r.k,.int .u8 r.l,.int .i64 r.a,.int .i64 r.b,.int .i64 r.t]
def okR (r:Rul) (n:Int):Prop :=
 (r.k=1/\r.a=0/\r.b=0/\r.t=0/\1<=n)∨(r.k=2/\r.l=0/\r.t=0/\1<=r.a/\r.a<n/\1<=r.b/\r.b<n)∨(r.k=3/\r.l=0/\r.b=0/\2<=r.t/\1<=r.a/\r.a<n)
instance (r:Rul) (n:Int):Decidable (okR r n):=by unfold okR;exact inferInstance
def xO (r:Rul):List Int:=if r.k=2 then [r.a,r.b] else if r.k=3 then [r.a] else []
theorem zrd (r:Rul) (w:World):Calls Tryz.prog zcv #[ruV r] w (zt9 xY 1 (xO r).length (zu .i64 (xO r)) w):=by
 refine zq7 [.v (ruV r)] w znG (by simp) ?_
 have e2:r.k=2->xO r=[r.a,r.b]:=fun h=>if_pos h
 have e3:r.k=3->xO r=[r.a]:=fun h=>by rw [xO,if_neg (by omega),if_pos h]
 have e0:r.k≠2->r.k≠3->xO r=[]:=fun h h'=>by rw [xO,if_neg h,if_neg h']
 (repeat' ((conv=>whnf);first|((first|apply zc|apply za|apply zd)<;>intro h<;>try (exfalso;omega))|refine pay ?_|intro _));(all_goals (conv=>whnf))
 ·refine ⟨?_⟩
  rw [e2 (by omega)]
  exact ⟨_,_,rfl,Thin.ref (.keep rfl (fun _ h=>h) (.nil _))⟩
 ·refine ⟨?_⟩
  rw [e3 (by omega)]
  exact ⟨_,_,rfl,Thin.ref (.keep rfl (fun _ h=>h) (.nil _))⟩
 ·refine ⟨?_⟩
  rw [e0 (by omega) (by omega)]
  exact ⟨none,0,rfl,fun w' h=>(h.sub (List.nil_sublist _)).ownNil 0 xY 1⟩
theorem zr9 (r:Rul):(xO r).length<=2:=by
 unfold xO
 split
 ·exact Nat.le_refl 2
 ·split<;>simp
end
section
open Go.EG
inductive Tm where
 | nil
 | lt (l:Nat)
 | pr (a b:Tm)
 | pw (a:Tm) (k:Nat)
deriving DecidableEq
def Tm.txt:Tm->List Nat
 | .nil=>[]
 | .lt l=>[l]
 | .pr a b=>a.txt++b.txt
 | .pw a k=>rep k a.txt
def Tm.dep:Tm->Nat
 | .nil=>0
 | .lt _=>0
 | .pr a b=>1+max a.dep b.dep
 | .pw a _=>1+a.dep
def Tm.evn:Tm->Bool
 | .nil=>true
 | .lt _=>true
 | .pr a b=>a.evn&&b.evn&&decide (a.dep<=b.dep+1)&&decide (b.dep<=a.dep+1)
 | .pw _ _=>false
def Tm.len (m:Tm):Nat:=m.txt.length
structure Entr where
 r:Rul
 m:Tm
def kJ:Entr:=⟨⟨0,0,0,0,0⟩,.nil⟩
def atE (E:List Entr) (n:Int):Entr:=if n<=0 then kJ else E.getD (n.toNat - 1) kJ
def tm (E:List Entr) (n:Int):Tm:=(atE E n).m
def mkT (E:List Entr) (r:Rul):Tm:=if r.k=1 then .lt r.l.toNat else if r.k=2 then .pr (tm E r.a) (tm E r.b) else .pw (tm E r.a) r.t.toNat
def mkE (E:List Entr) (r:Rul):Entr:=⟨r,mkT E r⟩
def idx (r:Rul):Nat->List Entr->Nat
 | _,[]=>0
 | i,x::E=>if r=x.r then i+1 else idx r (i+1) E
abbrev yJ (r:Rul) (E:List Entr):Nat:=idx r 0 E
structure Sto where
 most:Nat
 E:List Entr
abbrev vP (S:Sto) (x:Entr):Sto:=⟨S.most,S.E++[x]⟩
structure WF (S:Sto):Prop where
 most:S.most<=1048576
 len:S.E.length<=S.most
 rul:∀ i,i<S.E.length->okR (S.E.getD i kJ).r (i+1)
 let_:∀ i,i<S.E.length->0<=(S.E.getD i kJ).r.l/\(S.E.getD i kJ).r.l<256
 tms:∀ i,i<S.E.length->(S.E.getD i kJ).m=mkT S.E (S.E.getD i kJ).r
 leng:∀ i,i<S.E.length->(S.E.getD i kJ).m.len<=LM
 uniq:∀ i,i<S.E.length->yJ (S.E.getD i kJ).r S.E=i+1
def known (S:Sto) (n:Int):Prop:=0<=n/\n<=S.E.length
instance (S:Sto) (n:Int):Decidable (known S n):=by unfold known;exact inferInstance
def qd (S:Sto) (r:Rul):Sto × Int × Nat :=
 if yJ r S.E=0 then (if S.most<=S.E.length then (S,0,3) else (vP S (mkE S.E r),((S.E.length+1:Nat):Int),0)) else (S,((yJ r S.E:Nat):Int),0)
def zdS (l:Nat):Rul:=⟨1,l,0,0,0⟩
def vQ (i j:Int):Rul:=⟨2,0,i,j,0⟩
def j9 (i k:Int):Rul:=⟨3,0,i,0,k⟩
def zbb (S:Sto) (i j:Int):Sto × Int × Nat :=
 if ¬known S i∨¬known S j then (S,0,1)
 else if i=0 then (S,j,0)
 else if j=0 then (S,i,0)
 else if LM<(tm S.E i).len+(tm S.E j).len then (S,0,2)
 else qd S (vQ i j)
def zer (S:Sto) (i k:Int):Sto × Int × Nat :=
 if ¬known S i∨k<0 then (S,0,1)
 else if k=0∨i=0 then (S,0,0)
 else if k=1 then (S,i,0)
 else if LM<(tm S.E i).len*k.toNat then (S,0,2)
 else qd S (j9 i k)
theorem zcC (E:List Entr) (i:Nat):atE E ((i:Int)+1)=E.getD i kJ:=by
 unfold atE
 rw [if_neg (by omega),show ((i:Int)+1).toNat - 1=i by omega]
theorem zp6 {E:List Entr} {n:Int} (h:0<n):atE E n=E.getD (n.toNat - 1) kJ:=if_neg (by omega)
theorem zhe (E:List Entr):tm E 0=.nil:=rfl
theorem zcD {α:Type} {l l':List α} {i:Nat} {d:α} (h:i<l.length):(l++l').getD i d=l.getD i d:=by
 simp [g1q,List.getElem?_append,h]
theorem ze7 {E E':List Entr} {n:Int} (h:n<=E.length):atE (E++E') n=atE E n:=by
 unfold atE
 split
 ·rfl
 ·rw [zcD (by omega)]
theorem uG {E E':List Entr} {n:Int} (h:n<=E.length):tm (E++E') n=tm E n:=by unfold tm;rw [ze7 h]
theorem zjP {E E':List Entr} {r:Rul} {n:Int} (h:okR r (n+1)) (hn:n<=E.length):mkT (E++E') r=mkT E r:=by
 unfold mkT
 rcases h with h|⟨h1,h2,h3,h4,h5,h6,h7⟩|⟨h1,h2,h3,h4,h5,h6⟩
 ·rw [if_pos h.1,if_pos h.1]
 ·rw [if_neg (by omega),if_pos h1,if_neg (by omega),if_pos h1,uG (by omega),uG (by omega)]
 ·rw [if_neg (by omega),if_neg (by omega),if_neg (by omega),if_neg (by omega),uG (by omega)]
theorem zjQ {r:Rul}:∀ {E:List Entr} {i:Nat},idx r i E≠0->∀ E',idx r i (E++E')=idx r i E
 | [],_,h,_=>absurd rfl h
 | x :: E,i,h,E' => by
   simp only [List.cons_append,idx] at h ⊢
   split
   ·rfl
   ·rename_i hr
    rw [if_neg hr] at h
    exact zjQ h E'
theorem znN {r:Rul}:∀ {E:List Entr} {i:Nat},idx r i E=0->∀ {E':List Entr},idx r i (E++E')=idx r (i+E.length) E'
 | [],i,_,E'=>by simp
 | x :: E,i,h,E' => by
   simp only [idx] at h
   split at h
   ·omega
   ·rename_i hr
    simp only [List.cons_append,idx,if_neg hr,List.length_cons]
    rw [znN h]
    congr 1
    omega
theorem zsa {r:Rul}:∀ {E:List Entr} {i:Nat},idx r i E<=i+E.length
 | [],_=>by simp [idx]
 | x :: E,i => by
   simp only [idx,List.length_cons]
   split
   ·omega
   ·have:=zsa (r:=r) (E:=E) (i:=i+1);omega
theorem znO {r:Rul}:∀ {E:List Entr} {i:Nat},idx r i E≠0->i<idx r i E/\(E.getD (idx r i E - 1 - i) kJ).r=r
 | [],_,h=>absurd rfl h
 | x :: E,i,h => by
   by_cases hr:r=x.r
   ·have e:idx r i (x::E)=i+1:=if_pos hr
    rw [e]
    refine ⟨by omega,?_⟩
    rw [show i+1 - 1 - i=0 by omega]
    exact hr.symm
   ·have e:idx r i (x::E)=idx r (i+1) E:=if_neg hr
    rw [e] at h ⊢
    have ⟨h1,h2⟩:=znO h
    refine ⟨by omega,?_⟩
    rw [show idx r (i+1) E - 1 - i=(idx r (i+1) E - 1 - (i+1))+1 by omega,List.getD_cons_succ]
    exact h2
theorem zvw {r:Rul} {E:List Entr} (h:yJ r E≠0):(atE E (yJ r E)).r=r/\yJ r E<=E.length:=by
 have h1:=znO h
 have h2:=zsa (r:=r) (E:=E) (i:=0)
 refine ⟨?_,by unfold yJ;omega⟩
 rw [zp6 (by unfold yJ;omega)]
 have:((yJ r E:Nat):Int).toNat - 1=idx r 0 E - 1 - 0:=by unfold yJ;omega
 rw [this]
 exact h1.2
section
variable {S:Sto} (h:WF S)
theorem WF.at_ {n:Int} (h:WF S) (h0:1<=n) (h1:n<=S.E.length):okR (atE S.E n).r n/\(0<=(atE S.E n).r.l/\(atE S.E n).r.l<256)/\tm S.E n=mkT S.E (atE S.E n).r/\(tm S.E n).len<=LM/\yJ (atE S.E n).r S.E=n.toNat:=by
 rw [show tm S.E n=(atE S.E n).m from rfl,zp6 (by omega)]
 have hi:n.toNat - 1<S.E.length:=by omega
 refine ⟨?_,h.let_ _ hi,h.tms _ hi,h.leng _ hi,?_⟩
 ·have:=h.rul _ hi
  rwa [show ((n.toNat - 1:Nat):Int)+1=n by omega] at this
 ·rw [h.uniq _ hi];omega
theorem WF.le {n:Int} (h:WF S) (h1:n<=S.E.length):(tm S.E n).len<=LM:=by
 by_cases h0:n<=0
 ·rw [tm,atE,if_pos h0];exact Nat.zero_le _
 ·exact (h.at_ (by omega) h1).2.2.2.1
theorem jP (k:Nat) (t:List Nat):(rep k t).length=k*t.length:=zbD k t
theorem WF.pos (h:WF S):∀ (k:Nat) (n:Int),n=k->1<=n->n<=S.E.length->1<=(tm S.E n).len/\(tm S.E n).dep<k:=by
 intro k
 induction k using Nat.strongRecOn with
 | ind k ih =>
   intro n hk h0 h1
   obtain ⟨hr,_,ht,_⟩:=h.at_ h0 h1
   rw [ht]
   unfold mkT
   rcases hr with hr|⟨h1',h2',h3',h4',h5',h6',h7'⟩|⟨h1',h2',h3',h4',h5',h6'⟩
   ·rw [if_pos hr.1];exact ⟨Nat.le_refl 1,by simp only [Tm.dep];omega⟩
   ·rw [if_neg (by omega),if_pos h1']
    have i1:=ih (atE S.E n).r.a.toNat (by omega) (atE S.E n).r.a (by omega) h4' (by omega)
    have i2:=ih (atE S.E n).r.b.toNat (by omega) (atE S.E n).r.b (by omega) h6' (by omega)
    refine ⟨?_,?_⟩
    ·have:=i1.1
     unfold Tm.len at this ⊢
     rw [Tm.txt,g6q];omega
    ·simp only [Tm.dep];omega
   ·rw [if_neg (by omega),if_neg (by omega)]
    have i1:=ih (atE S.E n).r.a.toNat (by omega) (atE S.E n).r.a (by omega) h5' (by omega)
    refine ⟨?_,?_⟩
    ·have:=i1.1
     unfold Tm.len at this ⊢
     rw [Tm.txt,jP]
     exact Nat.mul_pos (by omega) this
    ·simp only [Tm.dep];omega
theorem WF.pos1 {n:Int} (h:WF S) (h0:1<=n) (h1:n<=S.E.length):1<=(tm S.E n).len:=(h.pos n.toNat n (by omega) h0 h1).1
theorem WF.dep {n:Int} (h:WF S) (h1:n<=S.E.length):(tm S.E n).dep<=1048576:=by
 by_cases h0:n<=0
 ·rw [tm,atE,if_pos h0];exact Nat.zero_le _
 ·have:=(h.pos n.toNat n (by omega) (by omega) h1).2
  have:=h.most
  have:=h.len
  omega
theorem WF.small (h:WF S):S.E.length<=1048576:=Nat.le_trans h.len h.most
end
structure Fit (S:Sto) (r:Rul):Prop where
 ok:okR r (S.E.length+1)
 let_:0<=r.l/\r.l<256
 len:(mkT S.E r).len<=LM
theorem znP {α:Type} {l:List α} {x d:α} {i:Nat} (h:i<l.length):(l++[x]).getD i d=l.getD i d:=zcD h
theorem WF.add {S:Sto} {r:Rul} (h:WF S) (hr:Fit S r) (hn:yJ r S.E=0) (hm:S.E.length<S.most):WF (vP S (mkE S.E r)):=by
 have key:∀ i,i<(S.E++[mkE S.E r]).length->(i<S.E.length/\(S.E++[mkE S.E r]).getD i kJ=S.E.getD i kJ)∨(i=S.E.length/\(S.E++[mkE S.E r]).getD i kJ=mkE S.E r):=fun i hi=>by
  rw [g6q] at hi
  simp only [List.length_cons,List.length_nil] at hi
  by_cases h:i<S.E.length
  ·exact .inl ⟨h,znP h⟩
  ·exact .inr ⟨by omega,zdn (by omega)⟩
 refine ⟨h.most,by simp only [vP,g6q,List.length_cons,List.length_nil];omega,fun i hi=>?_,fun i hi=>?_,fun i hi=>?_,fun i hi=>?_,fun i hi=>?_⟩
 ·rcases key i hi with ⟨h1,h2⟩|⟨h1,h2⟩
  ·simp only [vP,h2];exact h.rul i h1
  ·simp only [vP,h2];rw [h1];exact hr.ok
 ·rcases key i hi with ⟨h1,h2⟩|⟨h1,h2⟩
  ·simp only [vP,h2];exact h.let_ i h1
  ·simp only [vP,h2];exact hr.let_
 ·rcases key i hi with ⟨h1,h2⟩|⟨h1,h2⟩
  ·simp only [vP,h2]
   rw [zjP (h.rul i h1) (by omega)]
   exact h.tms i h1
  ·simp only [vP,h2]
   rw [show (mkE S.E r).r=r from rfl,zjP hr.ok (by omega)];rfl
 ·rcases key i hi with ⟨h1,h2⟩|⟨h1,h2⟩
  ·simp only [vP,h2];exact h.leng i h1
  ·simp only [vP,h2];exact hr.len
 ·rcases key i hi with ⟨h1,h2⟩|⟨h1,h2⟩
  ·simp only [vP,h2]
   have:=h.uniq i h1
   unfold yJ at this ⊢
   rw [zjQ (by omega)];exact this
  ·simp only [vP,h2]
   rw [h1]
   unfold yJ at hn ⊢
   rw [show (mkE S.E r).r=r from rfl,znN hn]
   simp [idx,mkE]
theorem WF.new (most:Nat) (h:most<=1048576):WF ⟨most,[]⟩:=by
 refine ⟨h,Nat.zero_le _,?_,?_,?_,?_,?_⟩<;>(intro i hi;exact absurd hi (Nat.not_lt_zero _))
def Grow (S S':Sto):Prop:=∃ E',S'=⟨S.most,S.E++E'⟩
theorem Grow.refl (S:Sto):Grow S S:=⟨[],by simp⟩
theorem Grow.trans {S S' S'':Sto} (h:Grow S S') (k:Grow S' S''):Grow S S'':=by
 obtain ⟨E',rfl⟩:=h
 obtain ⟨E'',rfl⟩:=k
 exact ⟨E'++E'',by simp⟩
theorem Grow.tm {S S':Sto} (h:Grow S S') {n:Int} (hn:n<=S.E.length):tm S'.E n=tm S.E n:=by
 obtain ⟨E',rfl⟩:=h
 exact uG hn
theorem Grow.len {S S':Sto} (h:Grow S S'):S.E.length<=S'.E.length:=by
 obtain ⟨E',rfl⟩:=h
 simp
theorem Grow.most {S S':Sto} (h:Grow S S'):S'.most=S.most:=by
 obtain ⟨E',rfl⟩:=h
 rfl
theorem Grow.known {S S':Sto} (h:Grow S S') {n:Int} (hn:known S n):known S' n:=⟨hn.1,by have:=h.len;have:=hn.2;omega⟩
theorem zjR {S:Sto} {r:Rul} (h:WF S) (hr:Fit S r):WF (qd S r).1/\Grow S (qd S r).1/\((qd S r).2.2=0->1<=(qd S r).2.1/\known (qd S r).1 (qd S r).2.1/\tm (qd S r).1.E (qd S r).2.1=mkT S.E r/\(atE (qd S r).1.E (qd S r).2.1).r=r)/\((qd S r).2.2≠0->(qd S r).2.2=3/\S.most<=S.E.length/\(qd S r).2.1=0)/\(qd S r).1.E.length<=S.E.length+1:=by
 unfold qd
 by_cases h0:yJ r S.E=0
 ·rw [if_pos h0]
  by_cases h1:S.most<=S.E.length
  ·rw [if_pos h1]
   exact ⟨h,Grow.refl S,fun (h:(3:Nat)=0)=>absurd h (by decide),fun _=>⟨rfl,h1,rfl⟩,Nat.le_succ _⟩
  ·rw [if_neg h1]
   refine ⟨h.add hr h0 (by omega),⟨_,rfl⟩,fun _=>⟨by simp only;omega,⟨by simp only;omega,by simp [vP]⟩,?_,?_⟩,fun hn=>absurd rfl hn,by simp [vP]⟩
   ·show tm (S.E++[mkE S.E r]) ((S.E.length+1:Nat):Int)=_
    rw [tm,show ((S.E.length+1:Nat):Int)=((S.E.length:Nat):Int)+1 by omega,zcC,zdn rfl];rfl
   ·show (atE (S.E++[mkE S.E r]) ((S.E.length+1:Nat):Int)).r=_
    rw [show ((S.E.length+1:Nat):Int)=((S.E.length:Nat):Int)+1 by omega,zcC,zdn rfl];rfl
 ·rw [if_neg h0]
  have h1:=zvw h0
  refine ⟨h,Grow.refl S,fun _=>⟨by simp only;omega,⟨by simp only;omega,by simp only;omega⟩,?_,h1.1⟩,fun hn=>absurd rfl hn,by simp⟩
  have h2:=(h.at_ (n:=(yJ r S.E:Nat)) (by omega) (by omega)).2.2.1
  rw [h1.1] at h2
  exact h2
theorem zvx (S:Sto) {l:Nat} (hl:l<256):Fit S (zdS l):=by
 refine ⟨.inl ⟨rfl,rfl,rfl,rfl,by omega⟩,⟨by simp [zdS],by simp [zdS];omega⟩,?_⟩
 show (Tm.lt _).len<=LM
 exact (by decide:1<=LM)
theorem zue {S:Sto} {i j:Int} (h1:1<=i) (h2:i<=S.E.length) (h3:1<=j) (h4:j<=S.E.length) (h:(tm S.E i).len+(tm S.E j).len<=LM):Fit S (vQ i j):=by
 refine ⟨.inr (.inl ⟨rfl,rfl,rfl,h1,by simp only [vQ];omega,h3,by simp only [vQ];omega⟩),⟨by simp [vQ],by simp [vQ]⟩,?_⟩
 show (Tm.pr (tm S.E i) (tm S.E j)).len<=LM
 unfold Tm.len at *
 rw [Tm.txt,g6q];exact h
theorem zvy {S:Sto} {i k:Int} (h1:1<=i) (h2:i<=S.E.length) (h3:2<=k) (h:(tm S.E i).len*k.toNat<=LM):Fit S (j9 i k):=by
 refine ⟨.inr (.inr ⟨rfl,rfl,rfl,h3,h1,by simp only [j9];omega⟩),⟨by simp [j9],by simp [j9]⟩,?_⟩
 show (Tm.pw (tm S.E i) k.toNat).len<=LM
 unfold Tm.len at *
 rw [Tm.txt,jP,Nat.mul_comm];exact h
end
section
open Go.EG
attribute [local irreducible] zT yE Go.Calls
set_option maxRecDepth 20000
abbrev zgt (x:Entr):List Value:=[.int .i64 x.r.k,.int .u8 x.r.l,.int .i64 x.r.a,.int .i64 x.r.b,.int .i64 x.r.t,.int .i64 x.m.txt.length,.int .i64 (zJ x.m.txt),.int .i64 (qQ x.m.txt),.int .i64 (qE x.m.txt),.int .u64 (kI x.m.txt),.int .u64 (qY x.m.txt),.int .i64 x.m.dep,.bool x.m.evn]
abbrev znQ (x:Entr):Value:=.agg #[.int .i64 x.r.k,.int .u8 x.r.l,.int .i64 x.r.a,.int .i64 x.r.b,.int .i64 x.r.t,.int .i64 x.m.txt.length,.int .i64 (zJ x.m.txt),.int .i64 (qQ x.m.txt),.int .i64 (qE x.m.txt),.int .u64 (kI x.m.txt),.int .u64 (qY x.m.txt),.int .i64 x.m.dep,.bool x.m.evn]
def zcE (E:List Entr):List Value:=E.flatMap zgt
theorem zsb (E:List Entr) (x:Entr):zcE E++zgt x=zcE (E++[x]):=by simp [zcE]
theorem zk3:∀ {E:List Entr} {i:Nat},i<E.length->((zcE E).drop (i*13)).take 13=zgt (E.getD i kJ)
 | x::E,0,_=>by simp [zcE,zgt]
 | x :: E,i + 1,h => by
   have ih:=zk3 (E:=E) (i:=i) (by simpa using h)
   have e1:zcE (x::E)=zgt x++zcE E:=by simp [zcE]
   rw [e1,show (i+1)*13=(zgt x).length+i*13 by simp [zgt];omega,←List.drop_drop,List.drop_left]
   simpa using ih
def zdT:Nat->List Entr->List (Value × Value)
 | _,[]=>[]
 | i,x::E=>(ruV x.r,.int .i64 ((i+1:Nat):Int))::zdT (i+1) E
abbrev zjy (E:List Entr):List (Value × Value):=zdT 0 E
abbrev kkR:KK:=.agg [.int .i64,.int .u8,.int .i64,.int .i64,.int .i64]
def fS (b:Nat) (S:Sto) (x:Option Addr × Nat × Nat):List Ent :=
 [.box 1000 b [.int .i64 S.most,.slice x.1 S.E.length x.2.1,.map (some x.2.2)] j7,.own 1001 x.1 S.E.length x.2.1 qD 13 (zcE S.E),.mapE 1002 x.2.2 kkR (zjy S.E)]
theorem zbF (b:Nat) (S:Sto) (a:Option Addr) (c mb:Nat):fS b S (a,c,mb)=[.box 1000 b [.int .i64 S.most,.slice a S.E.length c,.map (some mb)] j7,.own 1001 a S.E.length c qD 13 (zcE S.E),.mapE 1002 mb kkR (zjy S.E)]:=rfl
def zuf (key b:Nat) (S:Sto) (r v:Value) (L1:List Ent):Prop:=v=r/\∃ fp',L1=[packE key fp' (fS b S)]
abbrev StR (w:World) (key:Nat) (fp:List Nat) (b:Nat) (S:Sto):Prop:=R w fp [packE key fp (fS b S)] w
theorem ze8 {key b:Nat} {S:Sto} {r v:Value} {w0:World} {fp0:List Nat} {L:List Ent} (a:Option Addr) (c mb:Nat) (h:Thin L (fS b S (a,c,mb))) (hv:v=r):∃ L1,Ref w0 fp0 L L1/\zuf key b S r v L1 :=
 ⟨_,Ref.pack (a,c,mb) h,hv,_,rfl⟩
theorem StR.key {w:World} {key fp b S} (h:StR w key fp b S) (k':Nat):StR w k' fp b S:=(Thin.packE (.nil [])).ref w h
theorem ku {key k' b:Nat} {fp'':List Nat} {S:Sto} {r v:Value} {w0:World} {fp0:List Nat} {L:List Ent} (h:Thin L [packE k' fp'' (fS b S)]) (hv:v=r):∃ L1,Ref w0 fp0 L L1/\zuf key b S r v L1 :=
 ⟨[packE key fp'' (fS b S)],fun w hR=>(Thin.packE (.nil [])).ref w (h.ref w hR),hv,_,rfl⟩
def SC (f:Nat) (args:Array Value) (b:Nat) (S S':Sto) (r:Value):Prop :=
 ∀ (key:Nat) (fp:List Nat) (w:World),StR w key fp b S->Calls Tryz.prog f args w fun e w'=>∃ v L1,e=.returned v/\R w fp L1 w'/\zuf key b S' r v L1
theorem SC.go {f:Nat} {args:List Value} {b:Nat} {S S':Sto} {r:Value} {w0:World} {fp0 fp:List Nat} {L Lr:List Ent} {k:SV->List Ent->Prop} (key:Nat) (h:SC f args.toArray b S S' r) (hp:qP key L=some (packE key fp (fS b S),Lr)) (hk:∀ fp',k (.v r) ([packE key fp' (fS b S')]++Lr)):zT Tryz.prog w0 fp0 f args L k :=
 qa hp (fun w hR h0=>h _ _ _ h0) (by rintro _ _ ⟨rfl,fp',rfl⟩;exact ⟨.v _,rfl,hk fp'⟩)
abbrev pS (b:Nat):Value:=.pointer (some ⟨b,0,none⟩)
def zwm:Nat->Value
 | 0=>.nilIface
 | n+1=>yg ((n+1:Nat):Int)
def zre (p:Int × Nat):Value:=.tuple #[.int .i64 p.1,zwm p.2]
theorem zhW (b:Nat) (S:Sto) (n:Int) :
 SC zW #[pS b,.int .i64 n] b S S (.bool (decide (0<=n/\n<=S.E.length))):=by
 intro key fp w hR
 refine kU [.ptr 1000 b 0,.v (.int .i64 n)] zc8 (by simp) hR ?_
 rintro ⟨a,c,mb⟩ hfp hR'
 rw [zbF]
 (repeat' ((conv=>whnf);first|refine zh ?_|((first|apply zc|apply za|apply zd)<;>intro h<;>try (exfalso;omega))|refine pay ?_|intro _));(all_goals (conv=>whnf))
 all_goals (refine ⟨ze8 a c mb (.refl _) ?_⟩;congr 1;simp;omega)
theorem zjS (b:Nat) (S:Sto) :
 SC xH #[pS b] b S S (.int .i64 S.E.length):=by
 intro key fp w hR
 refine kU [.ptr 1000 b 0] zep (by simp) hR ?_
 rintro ⟨a,c,mb⟩ hfp hR'
 rw [zbF]
 (repeat' ((conv=>whnf);first|refine zh ?_|((first|apply zc|apply za|apply zd)<;>intro h<;>try (exfalso;omega))|refine pay ?_|intro _));(all_goals (conv=>whnf))
 all_goals (exact ⟨ze8 a c mb (.refl _) rfl⟩)
theorem zsc (b:Nat) (S:Sto) :
 SC qp #[pS b,.int .i64 0] b S S (znQ kJ):=by
 intro key fp w hR
 refine kU [.ptr 1000 b 0,.v (.int .i64 0)] j8 (by simp) hR ?_
 rintro ⟨a,c,mb⟩ hfp hR'
 rw [zbF]
 (repeat' ((conv=>whnf);first|refine zh ?_|refine zm (.v _) (fun w hR=>zhV w) ?_|((first|apply zc|apply za|apply zd)<;>intro h<;>try (exfalso;omega))|refine pay ?_|intro _));(all_goals (conv=>whnf))
 all_goals (exact ⟨ze8 a c mb (.skip (.refl _)) rfl⟩)
theorem zug (b:Nat) (S:Sto) (i:Nat) (hi:i<S.E.length) (hE:S.E.length<=1048576) :
 SC qp #[pS b,.int .i64 ((i:Int)+1)] b S S (znQ (S.E.getD i kJ)):=by
 intro key fp w hR
 refine kU [.ptr 1000 b 0,.v (.int .i64 ((i:Int)+1))] j8 (by simp) hR ?_
 rintro ⟨a,c,mb⟩ hfp hR'
 rw [zbF] at hR' ⊢
 have hne:=znE (key:=1001) hR' rfl (by omega)
 have e1:((i:Int)+1 - 1).toNat=i:=by omega
 have hat:=zk3 hi
 (repeat' ((conv=>whnf);first|refine zh ?_|rw [e1]|refine ⟨zgt (S.E.getD i kJ),rfl,Rd.own (key:=1001) rfl (Nat.succ_pos _) hat,?_⟩|((first|apply zc|apply za|apply zd)<;>intro h<;>try (exfalso;omega))|refine pay ?_|refine And.intro (by first|exact hne) ?_|intro _));(all_goals (conv=>whnf))
 all_goals (exact ⟨ze8 a c mb (.skip (.refl _)) rfl⟩)
theorem ruV_inj {r r':Rul}:qB (ruV r) (ruV r')=true↔r=r':=by
 obtain ⟨k,l,a,b,t⟩:=r
 obtain ⟨k',l',a',b',t'⟩:=r'
 simp [qB,zK]
theorem znR (r:Rul):zS kkR (ruV r):=⟨_,rfl,⟨⟨rfl,rfl⟩,⟨rfl,rfl⟩,⟨rfl,rfl⟩,⟨rfl,rfl⟩,⟨rfl,rfl⟩,trivial⟩⟩
theorem znS (r:Rul):∀ (E:List Entr) (i:Nat),qI (zdT i E) (ruV r)=if idx r i E=0 then none else some (.int .i64 (idx r i E))
 | [],i=>rfl
 | x :: E,i => by
   simp only [zdT,qI]
   by_cases h:r=x.r
   ·have hi:idx r i (x::E)=i+1:=if_pos h
    rw [if_pos (ruV_inj.2 h),hi,if_neg (by omega)]
   ·have hi:idx r i (x::E)=idx r (i+1) E:=if_neg h
    rw [if_neg (fun hk=>h (ruV_inj.1 hk)),hi]
    exact znS r E (i+1)
theorem znT (r:Rul) (u:Value):∀ (E:List Entr) (i:Nat),idx r i E=0->yd (zdT i E) (ruV r) u=zdT i E++[(ruV r,u)]
 | [],i,_=>rfl
 | x :: E,i,h => by
   simp only [idx] at h
   split at h
   ·omega
   ·rename_i hr
    simp only [zdT,yd,if_neg (fun hk=>hr (ruV_inj.1 hk)),znT r u E (i+1) h,List.cons_append]
theorem zlO (x:Entr):∀ (E:List Entr) (i:Nat),zdT i E++[(ruV x.r,.int .i64 ((i+E.length+1:Nat):Int))]=zdT i (E++[x])
 | [],i=>rfl
 | y :: E,i => by
   have ih:=zlO x E (i+1)
   rw [show i+1+E.length+1=i+(y::E).length+1 by rw [List.length_cons];omega] at ih
   simp only [zdT,List.cons_append]
   rw [←ih]
def zdq (S:Sto) (r:Rul):Value :=
 if yJ r S.E=0 then (if S.most<=S.E.length then .tuple #[.int .i64 0,yg 3] else .tuple #[.int .i64 0,.nilIface]) else .tuple #[.int .i64 (yJ r S.E),.nilIface]
theorem ze9 (b:Nat) (S:Sto) (r:Rul) :
 SC yx #[pS b,ruV r] b S S (zdq S r):=by
 intro key fp w hR
 refine kU [.ptr 1000 b 0,.v (ruV r)] zdL (by simp) hR ?_
 rintro ⟨a,c,mb⟩ hfp hR'
 rw [zbF] at hR' ⊢
 have hm:=znS r S.E 0
 have hk:=znR r
 unfold zdq
 by_cases h0:yJ r S.E=0
 ·rw [if_pos h0] at hm ⊢
  (repeat' ((conv=>whnf);first|refine jO hm ?_|refine ⟨.mp 1002 _,⟨rfl,rfl⟩,?_⟩|refine zh ?_|((first|apply zc|apply za|apply zd)<;>intro h<;>try (exfalso;omega))|refine pay ?_|refine And.intro (by first|exact ⟨rfl,rfl,hk⟩) ?_|intro _));(all_goals (conv=>whnf))
  ·refine ⟨ze8 a c mb (.skip (.refl _)) ?_⟩
   rw [if_pos (by omega)];rfl
  ·refine ⟨ze8 a c mb (.skip (.refl _)) ?_⟩
   rw [if_neg (by omega)]
 ·rw [if_neg h0] at hm ⊢
  (repeat' ((conv=>whnf);first|refine zau hm ?_|refine ⟨.mp 1002 _,⟨rfl,rfl⟩,?_⟩|refine zh ?_|((first|apply zc|apply za|apply zd)<;>intro h<;>try (exfalso;omega))|refine pay ?_|refine And.intro (by first|exact ⟨rfl,rfl,hk⟩) ?_|intro _));(all_goals (conv=>whnf))
  exact ⟨ze8 a c mb (.skip (.refl _)) rfl⟩
theorem zgu (b:Nat) (S:Sto) (x:Entr) (hx:yJ x.r S.E=0) (hE:S.E.length<=1048576) :
 SC qV #[pS b,znQ x] b S (vP S x) (.int .i64 (S.E.length+1:Nat)):=by
 intro key fp w hR
 refine kU [.ptr 1000 b 0,.v (znQ x)] zen (by simp) hR ?_
 rintro ⟨a,c,mb⟩ hfp hR'
 rw [zbF] at hR' ⊢
 have hm:=znT x.r (.int .i64 ((S.E.length+1:Nat):Int)) S.E 0 hx
 have hk:=znR x.r
 have hs:=zlO x S.E 0
 rw [Nat.zero_add] at hs
 rw [hs] at hm
 have hsn:=zsb S.E x
 (repeat' ((conv=>whnf);first|rw [hm]|rw [hsn]|refine ⟨.sl 1001 _ _ _,⟨rfl,rfl,rfl,rfl⟩,?_⟩|refine ⟨.mp 1002 _,⟨rfl,rfl⟩,?_⟩|refine zh ?_|((first|apply zc|apply za|apply zd)<;>intro h<;>try (exfalso;omega))|refine pay ?_|refine And.intro (by first|exact ⟨rfl,rfl,hk⟩|exact ⟨by omega,by unfold maxLen;omega⟩|exact ⟨by unfold maxLen;omega,by omega⟩) ?_|intro _));(all_goals (conv=>whnf))
 rename_i b3 b12 a' c'
 have hlen:(S.E++[x]).length=S.E.length+1:=by simp
 refine ⟨ze8 a' c' mb (.skip (.skip ?_)) rfl⟩
 rw [zbF]
 simp only [hlen]
 exact Thin.refl _
theorem xB (b:Nat) (S:Sto) {n:Int} (h:known S n):SC zW #[pS b,.int .i64 n] b S S (.bool true):=by
 have c:=zhW b S n
 rwa [decide_eq_true (by exact h)] at c
theorem uH (b:Nat) (S:Sto) {n:Int} (h:¬known S n):SC zW #[pS b,.int .i64 n] b S S (.bool false):=by
 have c:=zhW b S n
 rwa [decide_eq_false (by exact h)] at c
theorem jQ (b:Nat) (S:Sto) {n:Int} (h:known S n) (hE:S.E.length<=1048576):SC qp #[pS b,.int .i64 n] b S S (znQ (atE S.E n)):=by
 by_cases h0:n=0
 ·subst h0
  exact zsc b S
 ·have h1:=h.1
  have h2:=h.2
  obtain ⟨i,rfl⟩:∃ i:Nat,n=(i:Int)+1:=⟨n.toNat - 1,by omega⟩
  rw [zcC]
  exact zug b S i (by omega) hE
theorem zfa {S:Sto} {r:Rul} (h:yJ r S.E=0) (h1:S.most<=S.E.length):qd S r=(S,0,3):=by rw [qd,if_pos h,if_pos h1]
theorem zgv {S:Sto} {r:Rul} (h:yJ r S.E=0) (h1:¬S.most<=S.E.length):qd S r=(vP S (mkE S.E r),((S.E.length+1:Nat):Int),0):=by rw [qd,if_pos h,if_neg h1]
theorem zgw {S:Sto} {r:Rul} (h:yJ r S.E≠0):qd S r=(S,((yJ r S.E:Nat):Int),0):=by rw [qd,if_neg h]
theorem zfb {S:Sto} {r:Rul} (h:yJ r S.E=0) (h1:S.most<=S.E.length):zdq S r=.tuple #[.int .i64 0,yg 3]:=by rw [zdq,if_pos h,if_pos h1]
theorem zgx {S:Sto} {r:Rul} (h:yJ r S.E=0) (h1:¬S.most<=S.E.length):zdq S r=.tuple #[.int .i64 0,.nilIface]:=by rw [zdq,if_pos h,if_neg h1]
theorem zgy {S:Sto} {r:Rul} (h:yJ r S.E≠0):zdq S r=.tuple #[.int .i64 (yJ r S.E:Nat),.nilIface]:=by rw [zdq,if_neg h]
theorem znU (b:Nat) (S:Sto) (l:Nat) (hl:l<256) (hE:S.E.length<=1048576):SC km #[pS b,.int .u8 l] b S (qd S (zdS l)).1 (zre (qd S (zdS l)).2):=by
 intro key fp w hR
 refine zr [.v (pS b),.v (.int .u8 l)] zcy (by simp) (hR.key 77) ?_
 have c1:=ze9 b S (zdS l)
 have c3:=zmu l hl
 by_cases h0:yJ (zdS l) S.E=0
 ·by_cases h1:S.most<=S.E.length
  ·rw [zfb h0 h1] at c1
   rw [zfa h0 h1]
   (repeat' ((conv=>whnf);first|refine SC.go 77 c1 rfl fun fp'=>?_|((first|apply zc|apply za|apply zd)<;>intro h<;>try (exfalso;omega))|refine pay ?_|intro _));(all_goals (conv=>whnf))
   exact ⟨ku (by (repeat (first|exact Thin.nil _|exact Thin.refl _|refine Thin.keep rfl (fun _ h=>h) ?_|refine Thin.skip ?_))) rfl⟩
  ·rw [zgx h0 h1] at c1
   rw [zgv h0 h1]
   have c2:=zgu b S (mkE S.E (zdS l)) h0 hE
   (repeat' ((conv=>whnf);first|refine SC.go 77 c1 rfl fun fp'=>?_|refine SC.go 77 c2 rfl fun fp'=>?_|(refine yF (.v _) (fun w hR=>c3 w) ?_)|((first|apply zc|apply za|apply zd)<;>intro h<;>try (exfalso;omega))|refine pay ?_|intro _));(all_goals (conv=>whnf))
   exact ⟨ku (by (repeat (first|exact Thin.nil _|exact Thin.refl _|refine Thin.keep rfl (fun _ h=>h) ?_|refine Thin.skip ?_))) rfl⟩
 ·rw [zgy h0] at c1
  rw [zgw h0]
  (repeat' ((conv=>whnf);first|refine SC.go 77 c1 rfl fun fp'=>?_|((first|apply zc|apply za|apply zd)<;>intro h<;>try (exfalso;omega))|refine pay ?_|intro _));(all_goals (conv=>whnf))
  exact ⟨ku (by (repeat (first|exact Thin.nil _|exact Thin.refl _|refine Thin.keep rfl (fun _ h=>h) ?_|refine Thin.skip ?_))) rfl⟩
theorem zxE {a b:Bool} {p q:Nat} (ha:a=true) (hb:b=true) (h:-1<=(p:Int) - (q:Int)):decide ((p:Int) - (q:Int)<=1)=(a&&b&&decide (p<=q+1)&&decide (q<=p+1)):=by
 subst ha hb
 rw [decide_eq_true (p:=q<=p+1) (by omega),Bool.and_true,Bool.true_and,Bool.true_and,decide_eq_decide]
 omega
theorem zxF {a b:Bool} {p q:Nat} (h:¬-1<=(p:Int) - (q:Int)):false=(a&&b&&decide (p<=q+1)&&decide (q<=p+1)):=by
 rw [decide_eq_false (p:=q<=p+1) (by omega),Bool.and_false]
theorem zxG {a b:Bool} {p q:Nat} (h:b=false):false=(a&&b&&decide (p<=q+1)&&decide (q<=p+1)):=by
 subst h;simp
theorem zxH {a b:Bool} {p q:Nat} (h:a=false):false=(a&&b&&decide (p<=q+1)&&decide (q<=p+1)):=by
 subst h;simp
theorem znV (b:Nat) (S:Sto) (i j:Int) (hi:known S i) (hj:known S j) (hi0:i≠0) (hj0:j≠0) (hE:S.E.length<=1048576) (hl:(tm S.E i).len+(tm S.E j).len<=LM) (hd:(tm S.E i).dep<=1048576) (hd':(tm S.E j).dep<=1048576) :
 SC xy #[pS b,.int .i64 i,.int .i64 j] b S (qd S (vQ i j)).1 (zre (qd S (vQ i j)).2):=by
 intro key fp w hR
 refine zr [.v (pS b),.v (.int .i64 i),.v (.int .i64 j)] yz (by simp) (hR.key 77) ?_
 have c1:=ze9 b S (vQ i j)
 have c3:=xB b S hi
 have c4:=xB b S hj
 have c5:=jQ b S hi hE
 have c6:=jQ b S hj hE
 have hpe:mkE S.E (vQ i j)=⟨vQ i j,.pr (tm S.E i) (tm S.E j)⟩:=rfl
 unfold tm at *
 generalize atE S.E i=x at *
 generalize atE S.E j=y at *
 unfold Tm.len at hl
 have c7:=ze4 x.m.txt.length y.m.txt.length (by omega) (by omega)
 rw [show znK x.m.txt.length y.m.txt.length=.tuple #[.int .i64 ((x.m.txt.length+y.m.txt.length:Nat):Int),.nilIface] from if_pos hl] at c7
 have c8:=zpv x.m.txt y.m.txt hl
 by_cases h0:yJ (vQ i j) S.E=0
 ·by_cases h1:S.most<=S.E.length
  ·rw [zfb h0 h1] at c1
   rw [zfa h0 h1]
   (repeat' ((conv=>whnf);first|refine SC.go 77 c1 rfl fun fp'=>?_|refine SC.go 77 c3 rfl fun fp'=>?_|refine SC.go 77 c4 rfl fun fp'=>?_|refine SC.go 77 c5 rfl fun fp'=>?_|refine SC.go 77 c6 rfl fun fp'=>?_|(first|refine puK c7 ?_|refine quK c7 ?_)|((first|apply zc|apply za|apply zd)<;>intro h<;>try (exfalso;omega))|refine pay ?_|intro _));(all_goals (conv=>whnf))
   exact ⟨ku (by (repeat (first|exact Thin.nil _|exact Thin.refl _|refine Thin.keep rfl (fun _ h=>h) ?_|refine Thin.skip ?_))) rfl⟩
  ·rw [zgx h0 h1] at c1
   rw [zgv h0 h1,hpe]
   have c2:∀ (d':Int) (e':Bool),d'=((1+max x.m.dep y.m.dep:Nat):Int)->e'=(x.m.evn&&y.m.evn&&decide (x.m.dep<=y.m.dep+1)&&decide (y.m.dep<=x.m.dep+1))->SC qV #[pS b,.agg #[.int .i64 2,.int .u8 0,.int .i64 i,.int .i64 j,.int .i64 0,.int .i64 (x.m.txt++y.m.txt).length,.int .i64 (zJ (x.m.txt++y.m.txt)),.int .i64 (qQ (x.m.txt++y.m.txt)),.int .i64 (qE (x.m.txt++y.m.txt)),.int .u64 (kI (x.m.txt++y.m.txt)),.int .u64 (qY (x.m.txt++y.m.txt)),.int .i64 d',.bool e']] b S (vP S ⟨vQ i j,.pr x.m y.m⟩) (.int .i64 (S.E.length+1:Nat)):=fun d' e' h1 h2=>by subst h1 h2;exact zgu b S ⟨vQ i j,.pr x.m y.m⟩ h0 hE
   (repeat' ((conv=>whnf);first|refine SC.go 77 c1 rfl fun fp'=>?_|(refine qa (key:=77) rfl (fun w hR h0=>c2 _ _ (by omega) (by first|exact zxE (by assumption) (by assumption) (by assumption)|exact zxF (by assumption)|exact zxG (by assumption)|exact zxH (by assumption)) _ _ _ h0) ?_;rintro _ _ ⟨rfl,fp',rfl⟩;refine ⟨.v _,rfl,?_⟩)|refine SC.go 77 c3 rfl fun fp'=>?_|refine SC.go 77 c4 rfl fun fp'=>?_|refine SC.go 77 c5 rfl fun fp'=>?_|refine SC.go 77 c6 rfl fun fp'=>?_|(first|refine puK c7 ?_|refine quK c7 ?_)|(first|refine puK c8 ?_|refine quK c8 ?_)|((first|apply zc|apply za|apply zd)<;>intro h<;>try (exfalso;omega))|refine pay ?_|intro _));(all_goals (conv=>whnf))
   all_goals (exact ⟨ku (by (repeat (first|exact Thin.nil _|exact Thin.refl _|refine Thin.keep rfl (fun _ h=>h) ?_|refine Thin.skip ?_))) rfl⟩)
 ·rw [zgy h0] at c1
  rw [zgw h0]
  (repeat' ((conv=>whnf);first|refine SC.go 77 c1 rfl fun fp'=>?_|refine SC.go 77 c3 rfl fun fp'=>?_|refine SC.go 77 c4 rfl fun fp'=>?_|refine SC.go 77 c5 rfl fun fp'=>?_|refine SC.go 77 c6 rfl fun fp'=>?_|(first|refine puK c7 ?_|refine quK c7 ?_)|((first|apply zc|apply za|apply zd)<;>intro h<;>try (exfalso;omega))|refine pay ?_|intro _));(all_goals (conv=>whnf))
  exact ⟨ku (by (repeat (first|exact Thin.nil _|exact Thin.refl _|refine Thin.keep rfl (fun _ h=>h) ?_|refine Thin.skip ?_))) rfl⟩
theorem zrf (b:Nat) (S:Sto) (hw:WF S) (i j:Int):SC xy #[pS b,.int .i64 i,.int .i64 j] b S (zbb S i j).1 (zre (zbb S i j).2):=by
 unfold zbb
 have hE:=hw.small
 by_cases hu:¬known S i∨¬known S j
 ·rw [if_pos hu]
  intro key fp w hR
  refine zr [.v (pS b),.v (.int .i64 i),.v (.int .i64 j)] yz (by simp) (hR.key 77) ?_
  by_cases hi:known S i
  ·have c1:=xB b S hi
   have c2:=uH b S (by rcases hu with h|h;exact absurd hi h;exact h)
   (repeat' ((conv=>whnf);first|refine SC.go 77 c1 rfl fun fp'=>?_|refine SC.go 77 c2 rfl fun fp'=>?_|((first|apply zc|apply za|apply zd)<;>intro h<;>try (exfalso;omega))|refine pay ?_|intro _));(all_goals (conv=>whnf))
   exact ⟨ku (by (repeat (first|exact Thin.nil _|exact Thin.refl _|refine Thin.keep rfl (fun _ h=>h) ?_|refine Thin.skip ?_))) rfl⟩
  ·have c1:=uH b S hi
   (repeat' ((conv=>whnf);first|refine SC.go 77 c1 rfl fun fp'=>?_|((first|apply zc|apply za|apply zd)<;>intro h<;>try (exfalso;omega))|refine pay ?_|intro _));(all_goals (conv=>whnf))
   exact ⟨ku (by (repeat (first|exact Thin.nil _|exact Thin.refl _|refine Thin.keep rfl (fun _ h=>h) ?_|refine Thin.skip ?_))) rfl⟩
 ·rw [if_neg hu]
  have hi:known S i:=Decidable.byContradiction fun h=>hu (.inl h)
  have hj:known S j:=Decidable.byContradiction fun h=>hu (.inr h)
  have c1:=xB b S hi
  have c2:=xB b S hj
  by_cases hi0:i=0
  ·rw [if_pos hi0]
   intro key fp w hR
   refine zr [.v (pS b),.v (.int .i64 i),.v (.int .i64 j)] yz (by simp) (hR.key 77) ?_
   (repeat' ((conv=>whnf);first|refine SC.go 77 c1 rfl fun fp'=>?_|refine SC.go 77 c2 rfl fun fp'=>?_|((first|apply zc|apply za|apply zd)<;>intro h<;>try (exfalso;omega))|refine pay ?_|intro _));(all_goals (conv=>whnf))
   exact ⟨ku (by (repeat (first|exact Thin.nil _|exact Thin.refl _|refine Thin.keep rfl (fun _ h=>h) ?_|refine Thin.skip ?_))) rfl⟩
  ·rw [if_neg hi0]
   by_cases hj0:j=0
   ·rw [if_pos hj0]
    intro key fp w hR
    refine zr [.v (pS b),.v (.int .i64 i),.v (.int .i64 j)] yz (by simp) (hR.key 77) ?_
    (repeat' ((conv=>whnf);first|refine SC.go 77 c1 rfl fun fp'=>?_|refine SC.go 77 c2 rfl fun fp'=>?_|((first|apply zc|apply za|apply zd)<;>intro h<;>try (exfalso;omega))|refine pay ?_|intro _));(all_goals (conv=>whnf))
    exact ⟨ku (by (repeat (first|exact Thin.nil _|exact Thin.refl _|refine Thin.keep rfl (fun _ h=>h) ?_|refine Thin.skip ?_))) rfl⟩
   ·rw [if_neg hj0]
    by_cases hl:LM<(tm S.E i).len+(tm S.E j).len
    ·rw [if_pos hl]
     intro key fp w hR
     refine zr [.v (pS b),.v (.int .i64 i),.v (.int .i64 j)] yz (by simp) (hR.key 77) ?_
     have c5:=jQ b S hi hE
     have c6:=jQ b S hj hE
     have l1:=hw.le hi.2
     have l2:=hw.le hj.2
     unfold tm at *
     generalize atE S.E i=x at *
     generalize atE S.E j=y at *
     unfold Tm.len at hl l1 l2
     have c7:=ze4 x.m.txt.length y.m.txt.length l1 l2
     rw [show znK x.m.txt.length y.m.txt.length=.tuple #[.int .i64 0,yg 2] from if_neg (by omega)] at c7
     (repeat' ((conv=>whnf);first|refine SC.go 77 c1 rfl fun fp'=>?_|refine SC.go 77 c2 rfl fun fp'=>?_|refine SC.go 77 c5 rfl fun fp'=>?_|refine SC.go 77 c6 rfl fun fp'=>?_|(first|refine puK c7 ?_|refine quK c7 ?_)|((first|apply zc|apply za|apply zd)<;>intro h<;>try (exfalso;omega))|refine pay ?_|intro _));(all_goals (conv=>whnf))
     exact ⟨ku (by (repeat (first|exact Thin.nil _|exact Thin.refl _|refine Thin.keep rfl (fun _ h=>h) ?_|refine Thin.skip ?_))) rfl⟩
    ·rw [if_neg hl]
     exact znV b S i j hi hj hi0 hj0 hE (by omega) (hw.dep hi.2) (hw.dep hj.2)
theorem zpw (b:Nat) (S:Sto) (hw:WF S) (i k:Int) (hk:k<=9223372036854775807):SC kH #[pS b,.int .i64 i,.int .i64 k] b S (zer S i k).1 (zre (zer S i k).2):=by
 unfold zer
 have hE:=hw.small
 by_cases hi:known S i
 case neg =>
  rw [if_pos (.inl hi)]
  have c1:=uH b S hi
  intro key fp w hR
  refine zr [.v (pS b),.v (.int .i64 i),.v (.int .i64 k)] qH (by simp) (hR.key 77) ?_
  (repeat' ((conv=>whnf);first|refine SC.go 77 c1 rfl fun fp'=>?_|((first|apply zc|apply za|apply zd)<;>intro h<;>try (exfalso;omega))|refine pay ?_|intro _));(all_goals (conv=>whnf))
  exact ⟨ku (by (repeat (first|exact Thin.nil _|exact Thin.refl _|refine Thin.keep rfl (fun _ h=>h) ?_|refine Thin.skip ?_))) rfl⟩
 have c1:=xB b S hi
 by_cases hk0:k<0
 ·rw [if_pos (.inr hk0)]
  intro key fp w hR
  refine zr [.v (pS b),.v (.int .i64 i),.v (.int .i64 k)] qH (by simp) (hR.key 77) ?_
  (repeat' ((conv=>whnf);first|refine SC.go 77 c1 rfl fun fp'=>?_|((first|apply zc|apply za|apply zd)<;>intro h<;>try (exfalso;omega))|refine pay ?_|intro _));(all_goals (conv=>whnf))
  exact ⟨ku (by (repeat (first|exact Thin.nil _|exact Thin.refl _|refine Thin.keep rfl (fun _ h=>h) ?_|refine Thin.skip ?_))) rfl⟩
 ·rw [if_neg (by rintro (h|h);exact h hi;exact hk0 h)]
  by_cases hz:k=0∨i=0
  ·rw [if_pos hz]
   intro key fp w hR
   refine zr [.v (pS b),.v (.int .i64 i),.v (.int .i64 k)] qH (by simp) (hR.key 77) ?_
   (repeat' ((conv=>whnf);first|refine SC.go 77 c1 rfl fun fp'=>?_|((first|apply zc|apply za|apply zd)<;>intro h<;>try (exfalso;omega))|refine pay ?_|intro _));(all_goals (conv=>whnf))
   all_goals first|(exfalso;omega)|exact ⟨ku (by (repeat (first|exact Thin.nil _|exact Thin.refl _|refine Thin.keep rfl (fun _ h=>h) ?_|refine Thin.skip ?_))) rfl⟩
  ·rw [if_neg hz]
   by_cases h1:k=1
   ·rw [if_pos h1]
    intro key fp w hR
    refine zr [.v (pS b),.v (.int .i64 i),.v (.int .i64 k)] qH (by simp) (hR.key 77) ?_
    (repeat' ((conv=>whnf);first|refine SC.go 77 c1 rfl fun fp'=>?_|((first|apply zc|apply za|apply zd)<;>intro h<;>try (exfalso;omega))|refine pay ?_|intro _));(all_goals (conv=>whnf))
    exact ⟨ku (by (repeat (first|exact Thin.nil _|exact Thin.refl _|refine Thin.keep rfl (fun _ h=>h) ?_|refine Thin.skip ?_))) rfl⟩
   ·rw [if_neg h1]
    have l1:=hw.le hi.2
    have c5:=jQ b S hi hE
    obtain ⟨k',hk'⟩:∃ k':Nat,k=k':=⟨k.toNat,by omega⟩
    have hpe:mkE S.E (j9 i k)=⟨j9 i k,.pw (tm S.E i) k.toNat⟩:=rfl
    have hdep:=hw.dep hi.2
    by_cases hl:LM<(tm S.E i).len*k.toNat
    ·rw [if_pos hl]
     intro key fp w hR
     refine zr [.v (pS b),.v (.int .i64 i),.v (.int .i64 k)] qH (by simp) (hR.key 77) ?_
     unfold tm at *
     generalize atE S.E i=x at *
     unfold Tm.len at hl l1
     subst hk'
     rw [g7q] at hl
     have c7:=ze5 x.m.txt.length k' l1 (by omega)
     rw [show znL x.m.txt.length k'=.tuple #[.int .i64 0,yg 2] from if_neg (by omega)] at c7
     (repeat' ((conv=>whnf);first|refine SC.go 77 c1 rfl fun fp'=>?_|refine SC.go 77 c5 rfl fun fp'=>?_|(first|refine puK c7 ?_|refine quK c7 ?_)|((first|apply zc|apply za|apply zd)<;>intro h<;>try (exfalso;omega))|refine pay ?_|intro _));(all_goals (conv=>whnf))
     exact ⟨ku (by (repeat (first|exact Thin.nil _|exact Thin.refl _|refine Thin.keep rfl (fun _ h=>h) ?_|refine Thin.skip ?_))) rfl⟩
    ·rw [if_neg hl]
     intro key fp w hR
     refine zr [.v (pS b),.v (.int .i64 i),.v (.int .i64 k)] qH (by simp) (hR.key 77) ?_
     have c2:=ze9 b S (j9 i k)
     unfold tm at *
     generalize atE S.E i=x at *
     unfold Tm.len at hl l1
     subst hk'
     rw [g7q] at hl hpe
     have c7:=ze5 x.m.txt.length k' l1 (by omega)
     rw [show znL x.m.txt.length k'=.tuple #[.int .i64 ((x.m.txt.length*k':Nat):Int),.nilIface] from if_pos (by omega)] at c7
     have c8:=zmv x.m.txt k' (by omega) (by omega) l1
     by_cases h0:yJ (j9 i k') S.E=0
     ·by_cases h1:S.most<=S.E.length
      ·rw [zfb h0 h1] at c2
       rw [zfa h0 h1]
       (repeat' ((conv=>whnf);first|refine SC.go 77 c1 rfl fun fp'=>?_|refine SC.go 77 c5 rfl fun fp'=>?_|(first|refine puK c7 ?_|refine quK c7 ?_)|refine SC.go 77 c2 rfl fun fp'=>?_|((first|apply zc|apply za|apply zd)<;>intro h<;>try (exfalso;omega))|refine pay ?_|intro _));(all_goals (conv=>whnf))
       exact ⟨ku (by (repeat (first|exact Thin.nil _|exact Thin.refl _|refine Thin.keep rfl (fun _ h=>h) ?_|refine Thin.skip ?_))) rfl⟩
      ·rw [zgx h0 h1] at c2
       rw [zgv h0 h1,hpe]
       have c3:=zgu b S ⟨j9 i k',.pw x.m k'⟩ h0 hE
       have q1:(1:Int)+(x.m.dep:Int)=((1+x.m.dep:Nat):Int):=by omega
       (repeat' ((conv=>whnf);first|rw [q1]|refine SC.go 77 c1 rfl fun fp'=>?_|refine SC.go 77 c5 rfl fun fp'=>?_|(first|refine puK c7 ?_|refine quK c7 ?_)|(first|refine puK c8 ?_|refine quK c8 ?_)|refine SC.go 77 c2 rfl fun fp'=>?_|refine SC.go 77 c3 rfl fun fp'=>?_|((first|apply zc|apply za|apply zd)<;>intro h<;>try (exfalso;omega))|refine pay ?_|intro _));(all_goals (conv=>whnf))
       exact ⟨ku (by (repeat (first|exact Thin.nil _|exact Thin.refl _|refine Thin.keep rfl (fun _ h=>h) ?_|refine Thin.skip ?_))) rfl⟩
     ·rw [zgy h0] at c2
      rw [zgw h0]
      (repeat' ((conv=>whnf);first|refine SC.go 77 c1 rfl fun fp'=>?_|refine SC.go 77 c5 rfl fun fp'=>?_|(first|refine puK c7 ?_|refine quK c7 ?_)|refine SC.go 77 c2 rfl fun fp'=>?_|((first|apply zc|apply za|apply zd)<;>intro h<;>try (exfalso;omega))|refine pay ?_|intro _));(all_goals (conv=>whnf))
      exact ⟨ku (by (repeat (first|exact Thin.nil _|exact Thin.refl _|refine Thin.keep rfl (fun _ h=>h) ?_|refine Thin.skip ?_))) rfl⟩
end
section
open Go.EG
def zwn:Rul:=⟨0,0,0,0,0⟩
end
section
open Go.EG
attribute [local irreducible] zT yE Go.Calls
set_option maxRecDepth 20000
def zrg (S:Sto) (n:Int):Value:=if 1<=n/\n<=S.E.length then .tuple #[ruV (atE S.E n).r,.nilIface] else .tuple #[ruV zwn,yg 1]
theorem zfc {S:Sto} {n:Int} (h:1<=n) (h':n<=S.E.length):zrg S n=.tuple #[ruV (atE S.E n).r,.nilIface]:=if_pos ⟨h,h'⟩
theorem zsd {E:List Entr} {i:Nat} (h:i<E.length):((zcE E).drop (i*13)).take 5=ruC (E.getD i kJ).r:=by
 have:=congrArg (List.take 5) (zk3 h)
 rw [List.take_take] at this
 exact this
theorem zfd (b:Nat) (S:Sto) (n:Int) (hE:S.E.length<=1048576):SC yy #[pS b,.int .i64 n] b S S (zrg S n):=by
 intro key fp w hR
 refine zr [.ptr 1000 b 0,.v (.int .i64 n)] zdO (by simp) (hR.key 77) ?_
 by_cases hn:1<=n/\n<=S.E.length
 ·rw [zfc hn.1 hn.2]
  have c1:=xB b S (n:=n) ⟨by omega,by omega⟩
  obtain ⟨i,rfl⟩:∃ i:Nat,n=(i:Int)+1:=⟨n.toNat - 1,by omega⟩
  rw [zcC]
  have e1:((i:Int)+1 - 1).toNat=i:=by omega
  have hat:=zsd (E:=S.E) (i:=i) (by omega)
  (repeat' ((conv=>whnf);first|(refine zpq (key:=77) rfl (fun w hR h0=>c1 _ _ _ h0) ?_;rintro ⟨a',c',mb'⟩ w' hRu;rw [zbF];refine ⟨.v _,rfl,?_⟩)|rw [e1]|refine ⟨ruC (S.E.getD i kJ).r,rfl,Rd.own (key:=1001) rfl (Nat.succ_pos _) hat,?_⟩|refine zh ?_|((first|apply zc|apply za|apply zd)<;>intro h<;>try (exfalso;omega))|refine pay ?_|refine And.intro (by first|exact znE (key:=1001) hRu rfl (by omega)) ?_|intro _));(all_goals (conv=>whnf))
  exact ⟨ze8 _ _ _ (by (repeat (first|exact Thin.nil _|exact Thin.refl _|refine Thin.keep rfl (fun _ h=>h) ?_|refine Thin.skip ?_))) rfl⟩
 ·rw [show zrg S n=.tuple #[ruV zwn,yg 1] from if_neg hn]
  by_cases h0:n=0
  ·(repeat' ((conv=>whnf);first|((first|apply zc|apply za|apply zd)<;>intro h<;>try (exfalso;omega))|refine pay ?_|intro _));(all_goals (conv=>whnf))
   exact ⟨ku (by (repeat (first|exact Thin.nil _|exact Thin.refl _|refine Thin.keep rfl (fun _ h=>h) ?_|refine Thin.skip ?_))) rfl⟩
  ·have c1:=uH b S (n:=n) (fun h=>by have:=h.1;have:=h.2;omega)
   (repeat' ((conv=>whnf);first|refine SC.go 77 c1 rfl fun fp'=>?_|((first|apply zc|apply za|apply zd)<;>intro h<;>try (exfalso;omega))|refine pay ?_|intro _));(all_goals (conv=>whnf))
   exact ⟨ku (by (repeat (first|exact Thin.nil _|exact Thin.refl _|refine Thin.keep rfl (fun _ h=>h) ?_|refine Thin.skip ?_))) rfl⟩
def zx0 (key:Nat) (S:Sto) (v:Value) (L1:List Ent):Prop:=∃ b fp',v=pS b/\L1=[packE key fp' (fS b S)]
def zhf (m:Int):Nat:=(if m<0 then 0 else if m>1048576 then 1048576 else m).toNat
theorem zlP (m:Int) (key:Nat) (w:World):Calls Tryz.prog jl #[.int .i64 m] w fun e w'=>∃ v L1,e=.returned v/\R w [] L1 w'/\zx0 key ⟨zhf m,[]⟩ v L1:=by
 refine zQ [.v (.int .i64 m)] zmp (by simp) ?_
 have c1:=zpu m 0 1048576
 have e1:(if m<0 then 0 else if m>1048576 then 1048576 else m)=((zhf m:Nat):Int):=by unfold zhf;split;rfl;split<;>omega
 rw [e1] at c1
 (repeat' ((conv=>whnf);first|(first|refine puK c1 ?_|refine quK c1 ?_)|((first|apply zc|apply za|apply zd)<;>intro h<;>try (exfalso;omega))|refine pay ?_|intro _));(all_goals (conv=>whnf))
 rename_i mb b
 exact ⟨⟨_,(Ref.ownNil 1001 qD 13).trans ((Ref.perm (.swap _ _ _)).trans (Ref.pack (key:=key) (f:=fS b ⟨zhf m,[]⟩) (none,0,mb) (by rw [zbF];exact .keep rfl (fun _ h=>h) (.keep rfl (fun _ h=>h) (.keep rfl (fun _ h=>h) (.nil _)))))),_,_,rfl,rfl⟩⟩
theorem za0 {k:IntKind} {xs:List Int} {j:Nat} {z:Int} (h:j<xs.length):zv (zu k xs) j [.int k z]=zu k (xs.set j z):=by
 unfold zv zu
 rw [List.set_eq_take_append_cons_drop,if_pos h]
 simp
theorem zaa (m:Nat):(List.replicate m [Value.int .i64 0]).flatten=zu .i64 (List.replicate m 0):=by
 induction m with
 | zero=>rfl
 | succ m ih=>rw [List.replicate_succ,List.replicate_succ,List.flatten_cons,ih];rfl
set_option maxHeartbeats 1000000
end
section
open Go.EG
end
section
open Go.EG
attribute [local irreducible] zT yE Go.Calls
set_option maxRecDepth 20000
set_option maxHeartbeats 1000000
abbrev wt0:Value:=.agg #[.int .i64 0,.int .i64 0,.int .i64 0,.int .i64 0,.int .u64 0,.int .u64 0]
def zrh (S:Sto) (n:Int):Value:=if known S n then .tuple #[wtV (tm S.E n).txt,.nilIface] else .tuple #[wt0,yg 1]
theorem zcF {S:Sto} {n:Int} (h:known S n):zrh S n=.tuple #[wtV (tm S.E n).txt,.nilIface]:=if_pos h
theorem ud (b:Nat) (S:Sto) (n:Int) (hE:S.E.length<=1048576):SC qh #[pS b,.int .i64 n] b S S (zrh S n):=by
 intro key fp w hR
 refine zr [.v (pS b),.v (.int .i64 n)] zcA (by simp) (hR.key 77) ?_
 unfold zrh
 by_cases h:known S n
 ·rw [if_pos h]
  have c1:=xB b S h
  have c2:=jQ b S h hE
  unfold tm
  generalize atE S.E n=x at *
  (repeat' ((conv=>whnf);first|refine SC.go 77 c1 rfl fun fp'=>?_|refine SC.go 77 c2 rfl fun fp'=>?_|((first|apply zc|apply za|apply zd)<;>intro h<;>try (exfalso;omega))|refine pay ?_|refine And.intro (by first|exact Nat.le_of_ble_eq_true rfl) ?_|intro _));(all_goals (conv=>whnf))
  exact ⟨ku (by (repeat (first|exact Thin.nil _|exact Thin.refl _|refine Thin.keep rfl (fun _ h=>h) ?_|refine Thin.skip ?_))) rfl⟩
 ·rw [if_neg h]
  have c1:=uH b S h
  (repeat' ((conv=>whnf);first|refine SC.go 77 c1 rfl fun fp'=>?_|((first|apply zc|apply za|apply zd)<;>intro h<;>try (exfalso;omega))|refine pay ?_|intro _));(all_goals (conv=>whnf))
  exact ⟨ku (by (repeat (first|exact Thin.nil _|exact Thin.refl _|refine Thin.keep rfl (fun _ h=>h) ?_|refine Thin.skip ?_))) rfl⟩
def zcG (i n len:Int):Value:=if 0<=i/\0<=n/\i<=len/\n<=len - i then .nilIface else yg 1
theorem zgz (i n:Int) (len:Nat) (hl:len<=LM) (w:World):Calls Tryz.prog uw #[.int .i64 i,.int .i64 n,.int .i64 len] w fun e w'=>e=.returned (zcG i n len)/\Ext w w':=by
 refine zF [.v (.int .i64 i),.v (.int .i64 n),.v (.int .i64 len)] w zjL (by simp) ?_
 have c1:=uF len
 unfold LM at hl
 rw [decide_eq_true (by omega)] at c1
 unfold zcG
 (repeat' ((conv=>whnf);first|(first|refine puK c1 ?_|refine quK c1 ?_)|((first|apply zc|apply za|apply zd)<;>intro h<;>try (exfalso;omega))|refine pay ?_|intro _));(all_goals (conv=>whnf))
 all_goals (refine ⟨?_⟩;first|(rw [if_pos (by omega)]<;>exact rfl)|(rw [if_neg (by omega)]<;>exact rfl))
end
end Go.Proofs.YtjmlialibdobpaaGreatDoor
namespace Go.EG
def Ent.key:Ent->Nat
 | .own k ..=>k
 | .box k ..=>k
 | .abs k ..=>k
 | .mapE k ..=>k
def zmZ (key:Nat):List Ent->Option (Ent × List Ent)
 | []=>none
 | e::L=>if e.key=key then some (e,L) else (zmZ key L).map fun p=>(p.1,e::p.2)
def zdr:List Nat->List Ent->Option (List Ent × List Ent)
 | [],L=>some ([],L)
 | k::ks,L=>(zmZ k L).bind fun q=>(zdr ks q.2).map fun p=>(q.1::p.1,p.2)
theorem zjT {key:Nat}:∀ {L:List Ent} {e:Ent} {Lr:List Ent},zmZ key L=some (e,Lr)->L.Perm (e::Lr)
 | [],_,_,h=>by cases h
 | e0 :: L,e,Lr,h => by
   simp only [zmZ] at h
   split at h
   ·simp only [g3q,Prod.mk.injEq] at h
    rw [h.1,h.2]
   ·obtain ⟨p,hp,h⟩:=Option.map_eq_some_iff.1 h
    simp only [Prod.mk.injEq] at h
    obtain ⟨rfl,rfl⟩:=h
    exact ((zjT hp).cons e0).trans (.swap _ _ _)
theorem uW:∀ {ks:List Nat} {L L0 Lr:List Ent},zdr ks L=some (L0,Lr)->L.Perm (L0++Lr)
 | [],L,L0,Lr,h => by
   simp only [zdr,g3q,Prod.mk.injEq] at h
   obtain ⟨rfl,rfl⟩:=h
   exact .refl _
 | k :: ks,L,L0,Lr,h => by
   simp only [zdr] at h
   obtain ⟨q,hq,h⟩:=Option.bind_eq_some_iff.1 h
   obtain ⟨p,hp,h⟩:=Option.map_eq_some_iff.1 h
   simp only [Prod.mk.injEq] at h
   obtain ⟨rfl,rfl⟩:=h
   exact (zjT hq).trans ((uW hp).cons _)
section
variable {P:Program} {w0 w:World} {fp0:List Nat} {L:List Ent}
theorem zD {f:FuncId} {args:List Value} {k:SV->List Ent->Prop} (ks:List Nat) {L0 Lr:List Ent} {Q:Value->List Ent->Prop} (hp:zdr ks L=some (L0,Lr))
 (h:∀ w,R w0 fp0 (L0++Lr) w->R w (fps L0) L0 w->Calls P f args.toArray w fun e w'=>∃ v L1,e=.returned v/\R w (fps L0) L1 w'/\Q v L1)
 (hk:∀ v L1,Q v L1->∃ s:SV,s.val=v/\k s (L1++Lr)):zT P w0 fp0 f args L k :=
 zbC (uW hp) h hk
theorem Ref.take (ks:List Nat) {L0 Lr:List Ent} (h:zdr ks L=some (L0,Lr)):Ref w0 fp0 L L0 :=
 (Ref.perm (uW h)).trans (Ref.sub (List.sublist_append_left _ _))
theorem Ref.takes (ks:List Nat) {L0 Lr L1:List Ent} (h:zdr ks L=some (L0,Lr)) (k:Thin L0 L1):Ref w0 fp0 L L1:=(Ref.take ks h).trans k.ref
theorem zlQ (a:Option Addr) (c sz:Nat):jX a c 0 sz=a:=by
 unfold jX
 split
 ·rfl
 ·cases a with
  | none=>rfl
  | some x=>simp [Addr.add]
theorem In.castL {L0 Lr:List Ent} {a:Option Addr} {xs:List Value} (h:In w0 fp0 a xs) (hR:R w0 fp0 (L0++Lr) w):In w (fps L0) a xs :=
 h.cast hR fun b hb=>by
  unfold fps at hb ⊢
  rw [List.flatMap_append]
  exact List.mem_append_left _ hb
theorem In.besideL {key:Nat} {L0 Lr:List Ent} {a:Option Addr} {n c T sz:Nat} {xs:List Value} (hR:R w0 fp0 (L0++Lr) w) (h:zL key Lr=some ⟨a,n,c,T,sz,xs⟩):In w (fps L0) a xs:=by
 have hR2:R w0 fp0 (.abs 0 (fps L0) (fun w=>∀ e∈L0,e.ok w)::Lr) w:=by
  refine ⟨hR.os,hR.tape,hR.output,hR.drawn,hR.size,hR.old,?_,?_,?_⟩
  ·have:=hR.nodup
   simpa [fps,Ent.fp] using this
  ·have:=hR.range
   simpa [fps,Ent.fp] using this
  ·intro e he
   rw [List.mem_cons] at he
   rcases he with rfl|he
   ·exact fun w' hs e he=>Ent.ok_same (hR.ok e (List.mem_append_left _ he)) fun b hb=>hs b (List.mem_flatMap.2 ⟨e,he,hb⟩)
   ·exact hR.ok e (List.mem_append_right _ he)
 exact In.beside hR2 h
theorem zes {k:IntKind}:∀ (xs:List Int),yL (zu k xs)
 | []=>trivial
 | x::xs=>⟨trivial,zes xs⟩
theorem In.besideRo {key n c:Nat} {L0 Lr:List Ent} {a:Option Addr} {xs:List Value} (hR:R w0 fp0 (L0++Lr) w) (hm:Ent.abs key (Value.slice a n c).ownBlock.toList (zie a xs)∈Lr):In w (fps L0) a xs:=by
 by_cases hx:xs=[]
 ·exact .inl hx
 ·have hro:=Ent.abs_ok (hR.ok _ (List.mem_append_right L0 hm))
  have hpos:0<xs.length:=List.length_pos_iff.2 hx
  obtain ⟨g,ha,hc⟩:=hro 0 _ (g2q hpos)
  refine .inr ⟨g,0,ha,?_,fun hg=>?_,fun j v hv=>?_⟩
  ·unfold World.cell? at hc
   rcases Nat.lt_or_ge g w.heap.size with h|h
   ·exact h
   ·rw [Array.getElem?_eq_none h] at hc
    simp at hc
  ·have hnd:=hR.nodup
   rw [yY] at hnd
   refine (List.nodup_append.1 hnd).2.2 g hg g ?_ rfl
   exact List.mem_flatMap.2 ⟨_,hm,by simp [Ent.fp,ha,Value.ownBlock]⟩
  ·obtain ⟨g',ha',hc'⟩:=hro j v hv
   rw [ha] at ha'
   simp only [g3q,Addr.mk.injEq,and_true] at ha'
   subst ha'
   rw [Nat.zero_add]
   exact hc'
end
end Go.EG
