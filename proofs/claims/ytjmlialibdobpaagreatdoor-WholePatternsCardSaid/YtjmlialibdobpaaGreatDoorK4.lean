/- Arithmetic modulo 2^61 - 1, of numbers. Plain Lean: no program in sight. -/
import Derived.Test.YtjmlialibdobpaaGreatDoorK2
import Derived.Test.YtjmlialibdobpaaGreatDoorK3
namespace Go.Proofs.YtjmlialibdobpaaGreatDoor
open Go.EG
abbrev PP:Nat:=2305843009213693951
theorem zqT (q r:Nat):(q*2305843009213693952+r)%PP=(q+r)%PP:=by
 rw [show q*2305843009213693952+r=PP*q+(q+r) by unfold PP;omega,Nat.mul_add_mod]
theorem zvf (x:Nat):x%PP=(x/2305843009213693952+x%2305843009213693952)%PP:=by
 rw [←zqT]
 congr 1
 omega
theorem zqU {x s:Nat} (hx:x<18446744073709551616) (hs:s=x%2305843009213693952+x/2305843009213693952):x%PP=if PP≤s then s - PP else s:=by
 rw [zvf,Nat.add_comm,←hs]
 have h1:s<PP+8:=by unfold PP;omega
 split
 ·rename_i h
  rw [Nat.mod_eq_sub_mod h,Nat.mod_eq_of_lt (by unfold PP at *;omega)]
 ·rename_i h
  exact Nat.mod_eq_of_lt (by omega)
theorem zqV (a b:Nat):a*b=(a/4294967296*(b/4294967296))*18446744073709551616+(a/4294967296*(b%4294967296)+a%4294967296*(b/4294967296))*4294967296+a%4294967296*(b%4294967296):=by
 conv=>lhs;rw [←Nat.div_add_mod a 4294967296,←Nat.div_add_mod b 4294967296]
 generalize a/4294967296=x1
 generalize a%4294967296=x0
 generalize b/4294967296=y1
 generalize b%4294967296=y0
 rw [Nat.add_mul,Nat.mul_add,Nat.mul_add]
 have e1:4294967296*x1*(4294967296*y1)=x1*y1*18446744073709551616:=by
  rw [Nat.mul_mul_mul_comm];omega
 have e2:4294967296*x1*y0=x1*y0*4294967296:=by rw [Nat.mul_assoc,Nat.mul_comm]
 have e3:x0*(4294967296*y1)=x0*y1*4294967296:=by rw [Nat.mul_left_comm,Nat.mul_comm]
 rw [e1,e2,e3]
 omega
theorem zfB {a b c d:Nat} (h:a≤c) (k:b≤d):a*b≤c*d:=Nat.mul_le_mul h k
theorem zwD {a b x0 x1 y0 y1 w0 t w1 w2 v1:Nat} (ha:a<18446744073709551616) (hb:b<18446744073709551616) (hx0:x0=a%4294967296) (hx1:x1=a/4294967296) (hy0:y0=b%4294967296) (hy1:y1=b/4294967296)
 (hw0:w0=x0*y0) (ht:t=x1*y0+w0/4294967296) (hw1:w1=t%4294967296) (hw2:w2=t/4294967296) (hv1:v1=w1+x0*y1) :
 t<18446744073709551616∧v1<18446744073709551616∧x1*y1+w2+v1/4294967296=a*b/18446744073709551616∧x0*y0<18446744073709551616∧x1*y0<18446744073709551616∧x0*y1<18446744073709551616∧x1*y1+w2+v1/4294967296<18446744073709551616∧x1*y1+w2<18446744073709551616∧x1*y1<18446744073709551616:=by
 have hs:=zqV a b
 rw [←hx0,←hx1,←hy0,←hy1] at hs
 have h00:x0*y0≤4294967295*4294967295:=zfB (by omega) (by omega)
 have h10:x1*y0≤4294967295*4294967295:=zfB (by omega) (by omega)
 have h01:x0*y1≤4294967295*4294967295:=zfB (by omega) (by omega)
 have h11:x1*y1≤4294967295*4294967295:=zfB (by omega) (by omega)
 generalize x0*y0=p00 at *
 generalize x1*y0=p10 at *
 generalize x0*y1=p01 at *
 generalize x1*y1=p11 at *
 generalize a*b=m at *
 omega
theorem zwW {x y hi lo:Nat} (hx:x<PP) (hy:y<PP) (hhi:hi=x*y/18446744073709551616) (hlo:lo=x*y%18446744073709551616) :
 hi*8+lo/2305843009213693952+lo%2305843009213693952<18446744073709551616∧hi*8<18446744073709551616∧hi*8+lo/2305843009213693952<18446744073709551616∧(hi*8+lo/2305843009213693952+lo%2305843009213693952)%PP=x*y%PP:=by
 have h1:x*y≤2305843009213693950*2305843009213693950:=zfB (by unfold PP at hx;omega) (by unfold PP at hy;omega)
 refine ⟨by omega,by omega,by omega,?_⟩
 rw [←zqT]
 congr 1
 generalize x*y=m at *
 omega
theorem zmH (a n:Nat):a ^ n=(a*a) ^ (n/2)*a ^ (n%2):=by
 conv=>lhs;rw [←Nat.div_add_mod n 2]
 rw [Nat.pow_add,Nat.pow_mul,Nat.pow_two]
theorem zdl (a b:Nat):(a%PP)*(b%PP)%PP=a*b%PP:=(Nat.mul_mod a b PP).symm
theorem zmI (a b:Nat):(a%PP)*b%PP=a*b%PP:=by rw [Nat.mul_mod,Nat.mod_mod,←Nat.mul_mod]
theorem uC (a b:Nat):a*(b%PP)%PP=a*b%PP:=by rw [Nat.mul_mod,Nat.mod_mod,←Nat.mul_mod]
theorem zki (a n:Nat):(a%PP) ^ n%PP=a ^ n%PP:=(Nat.pow_mod a n PP).symm
theorem zfC (a b:Nat):(a%PP+b%PP)%PP=(a+b)%PP:=(Nat.add_mod a b PP).symm
theorem zpI {r a n t:Nat} (h:r*a ^ n%PP=t) (hn:n%2=1):(r*a%PP)*(a*a%PP) ^ (n/2)%PP=t:=by
 rw [←h,zmI,←uC,zki,uC]
 rw [zmH a n,hn,Nat.pow_one]
 congr 1
 ac_rfl
theorem zpJ {r a n t:Nat} (h:r*a ^ n%PP=t) (hn:n%2≠1):r*(a*a%PP) ^ (n/2)%PP=t:=by
 rw [←h,←uC,zki,uC]
 rw [zmH a n,show n%2=0 by omega,Nat.pow_zero,Nat.mul_one]
abbrev BB:Nat:=1103515245
def zcR (v:Nat) (t:List Nat):Nat:=t.foldl (fun v b=>v*BB+(b+1)) v
def zdm (t:List Nat):Nat:=zcR 0 t
theorem zhx:∀ (t:List Nat) (v:Nat),zcR v t=v*BB ^ t.length+zdm t
 | [],v=>by simp [zcR,zdm]
 | b :: t, v => by
   have h1:=zhx t (v*BB+(b+1))
   have h2:=zhx t (0*BB+(b+1))
   have e1:zcR v (b::t)=zcR (v*BB+(b+1)) t:=rfl
   have e2:zdm (b::t)=zcR (0*BB+(b+1)) t:=rfl
   rw [e1,e2,h1,h2,List.length_cons,Nat.pow_succ,Nat.add_mul,Nat.zero_mul,Nat.zero_add,Nat.mul_assoc,Nat.mul_comm BB,Nat.add_assoc]
theorem zoc (s t:List Nat):zdm (s++t)=zdm s*BB ^ t.length+zdm t:=by
 rw [←zhx]
 simp [zdm,zcR,List.foldl_append]
def zN (t:List Nat):Nat:=t.count 10
def yA (t:List Nat):Nat:=(t.takeWhile (· != 10)).length
def qU (t:List Nat):Nat:=(t.reverse.takeWhile (· != 10)).length
theorem zmJ (s t:List Nat):zN (s++t)=zN s+zN t:=List.count_append
theorem ze8 {p:Nat→Bool}:∀ {s:List Nat},(∀ x∈s,p x=true)→∀ t,(s++t).takeWhile p=s++t.takeWhile p
 | [],_,t=>rfl
 | x :: s, h, t => by
   rw [List.cons_append,List.takeWhile_cons,if_pos (h x List.mem_cons_self),ze8 (fun y hy=>h y (List.mem_cons_of_mem _ hy)),List.cons_append]
theorem zdR {p:Nat→Bool}:∀ {s:List Nat} {x:Nat},x∈s→p x=false→∀ t,(s++t).takeWhile p=s.takeWhile p
 | y :: s, x, hx, hp, t => by
   rw [List.cons_append,List.takeWhile_cons,List.takeWhile_cons]
   by_cases hy:p y=true
   ·rw [if_pos hy,if_pos hy]
    rcases List.mem_cons.1 hx with rfl|hx
    ·rw [hp] at hy;cases hy
    ·rw [zdR hx hp]
   ·rw [if_neg hy,if_neg hy]
theorem zvg {s:List Nat} (h:zN s=0):∀ x∈s,(x != 10)=true:=fun x hx=>by
 have:x≠10:=fun hx10=>by
  subst hx10
  exact absurd hx (List.count_eq_zero.1 h)
 simpa using this
theorem zum {s:List Nat} (h:zN s≠0):10∈s:=by
 apply Classical.byContradiction
 intro hn
 exact h (List.count_eq_zero.2 hn)
theorem zdn (s t:List Nat):yA (s++t)=if zN s=0 then s.length+yA t else yA s:=by
 unfold yA
 split
 ·rename_i h
  rw [ze8 (zvg h),List.length_append]
 ·rename_i h
  rw [zdR (zum h) rfl]
theorem zlx (s:List Nat):zN s.reverse=zN s:=List.count_reverse
theorem zaA (s t:List Nat):qU (s++t)=if zN t=0 then t.length+qU s else qU t:=by
 have:=zdn t.reverse s.reverse
 unfold yA at this
 unfold qU
 rw [List.reverse_append,this,zlx,List.length_reverse]
theorem zcS {t:List Nat} (h:zN t=0):yA t=t.length:=by
 have:=zdn t []
 rw [if_pos h,List.append_nil] at this
 simpa [yA] using this
theorem zcT {t:List Nat} (h:zN t=0):qU t=t.length:=by
 have:=zaA [] t
 rw [if_pos h,List.nil_append] at this
 simpa [qU] using this
theorem zaI:∀ t:List Nat,zN t≠0→yA t+zN t+qU t≤t.length∧(zN t=1→yA t+1+qU t=t.length)
 | [],h=>absurd rfl h
 | x :: t, h => by
   by_cases hx:x=10
   ·subst hx
    have e1:yA (10::t)=0:=rfl
    have e2:zN (10::t)=zN t+1:=by simp [zN]
    have e3:qU (10::t)=if zN t=0 then t.length+qU [10] else qU t:=zaA [10] t
    have e4:qU [10]=0:=rfl
    by_cases h0:zN t=0
    ·rw [if_pos h0,e4] at e3
     rw [e1,e2,e3,h0,List.length_cons];omega
    ·rw [if_neg h0] at e3
     have:=zaI t h0
     rw [e1,e2,e3,List.length_cons];omega
   ·have e1:yA (x::t)=yA t+1:=by
     unfold yA
     rw [List.takeWhile_cons,if_pos (by simpa using hx),List.length_cons]
    have e2:zN (x::t)=zN t:=by simp [zN,hx]
    have e3:qU (x::t)=if zN t=0 then t.length+qU [x] else qU t:=zaA [x] t
    rw [e2] at h ⊢
    rw [if_neg h] at e3
    have:=zaI t h
    rw [e1,e3,List.length_cons];omega
def rep (k:Nat) (t:List Nat):List Nat:=(List.replicate k t).flatten
theorem zev (t:List Nat):rep 0 t=[]:=rfl
theorem zdS (t:List Nat):rep 1 t=t:=by simp [rep]
theorem vR (k:Nat) (t:List Nat):rep (k+1) t=t++rep k t:=by simp [rep,List.replicate_succ]
theorem zbK (j k:Nat) (t:List Nat):rep (j+k) t=rep j t++rep k t:=by
 rw [rep,←List.replicate_append_replicate,List.flatten_append];rfl
theorem zew (k:Nat) (t:List Nat):(rep k t).length=k*t.length:=by simp [rep]
structure Wt where
 len:Nat
 lines:Nat
 head:Nat
 tail:Nat
 val:Nat
 scale:Nat
def vh (t:List Nat):Nat:=zdm t%PP
def yx (t:List Nat):Nat:=BB ^ t.length%PP
theorem zun (t:List Nat):vh t<PP:=Nat.mod_lt _ (by decide)
theorem zod (s t:List Nat):(vh s*yx t%PP+vh t)%PP=vh (s++t):=by
 unfold vh yx
 rw [zoc,zdl,zfC]
theorem zly (s t:List Nat):yx s*yx t%PP=yx (s++t):=by
 unfold yx
 rw [zdl,List.length_append,Nat.pow_add]
end Go.Proofs.YtjmlialibdobpaaGreatDoor
namespace Go.Proofs.YtjmlialibdobpaaGreatDoor
open Go.EG
attribute [local irreducible] zP yj Go.Calls
set_option linter.unusedSimpArgs false
set_option linter.unusedVariables false
set_option maxRecDepth 20000
theorem zmK (x:Nat):x&&&2305843009213693951=x%2305843009213693952:=Nat.and_two_pow_sub_one_eq_mod x 61
theorem zpK (x:Nat):x&&&4294967295=x%4294967296:=Nat.and_two_pow_sub_one_eq_mod x 32
theorem xO (x:Nat) (hx:x<18446744073709551616) (w:World):Calls Tryz.prog qo #[.int .u64 x] w fun e w'=>e=.returned (.int .u64 (x%PP:Nat))∧Ext w w':=by
 refine zx [.v (.int .u64 x)] w zgA (by simp) ?_
 have e1:(((x:Int).toNat&&&(2305843009213693951:Int).toNat:Nat):Int)=((x%2305843009213693952:Nat):Int):=by
  rw [Int.toNat_natCast];exact congrArg _ (zmK x)
 have e2:(x:Int)/((2 ^ (61:Int).toNat:Nat):Int)=((x/2305843009213693952:Nat):Int):=by
  rw [Int.natCast_ediv];rfl
 have hr:=zqU hx rfl
 generalize hs:x%2305843009213693952+x/2305843009213693952=s at *
 have hss:((x%2305843009213693952:Nat):Int)+((x/2305843009213693952:Nat):Int)=(s:Int):=by omega
 have hsb:s<2305843009213693960:=by omega
 unfold PP at hr
 (repeat' ((conv=>whnf);first|rw [e1]|rw [e2]|rw [hss]|(refine zd (fun h=>?_) (fun h=>?_)<;>try (exfalso;omega))|(refine zc (fun h=>?_) (fun h=>?_)<;>try (exfalso;omega))|(refine za (fun h=>?_) (fun h=>?_)<;>(try simp only [zqa,zqb,zqc,zqd,zqe,zqf,zqg] at h))|refine pay ?_|refine And.intro (by first|exact ⟨by omega,by omega,by decide,by decide⟩|exact ⟨by decide,by show _≤(64:Int);decide⟩) ?_|intro _));(all_goals (conv=>whnf))
 all_goals (refine ⟨?_⟩;rw [hr];congr 1;split<;>omega)
theorem zoe (a b:Nat) (ha:a<18446744073709551616) (hb:b<18446744073709551616) (w:World):Calls Tryz.prog vQ #[.int .u64 a,.int .u64 b] w fun e w'=>e=.returned (.tuple #[.int .u64 (a*b/18446744073709551616:Nat),.int .u64 (a*b%18446744073709551616:Nat)])∧Ext w w':=by
 refine zx [.v (.int .u64 a),.v (.int .u64 b)] w zfA (by simp) ?_
 have hand:∀ x:Nat,(((x:Int).toNat&&&(4294967295:Int).toNat:Nat):Int)=((x%4294967296:Nat):Int):=fun x=>by
  rw [Int.toNat_natCast];exact congrArg _ (zpK x)
 have hsh:∀ x:Nat,(x:Int)/((2 ^ (32:Int).toNat:Nat):Int)=((x/4294967296:Nat):Int):=fun x=>by
  rw [Int.natCast_ediv];rfl
 obtain ⟨x0,hx0⟩:∃ x0,x0=a%4294967296:=⟨_,rfl⟩
 obtain ⟨x1,hx1⟩:∃ x1,x1=a/4294967296:=⟨_,rfl⟩
 obtain ⟨y0,hy0⟩:∃ y0,y0=b%4294967296:=⟨_,rfl⟩
 obtain ⟨y1,hy1⟩:∃ y1,y1=b/4294967296:=⟨_,rfl⟩
 obtain ⟨w0,hw0⟩:∃ w0,w0=x0*y0:=⟨_,rfl⟩
 obtain ⟨t,ht⟩:∃ t,t=x1*y0+w0/4294967296:=⟨_,rfl⟩
 obtain ⟨w1,hw1⟩:∃ w1,w1=t%4294967296:=⟨_,rfl⟩
 obtain ⟨w2,hw2⟩:∃ w2,w2=t/4294967296:=⟨_,rfl⟩
 obtain ⟨v1,hv1⟩:∃ v1,v1=w1+x0*y1:=⟨_,rfl⟩
 obtain ⟨k1,k2,k3,k4,k5,k6,k7,k8,k9⟩:=zwD ha hb hx0 hx1 hy0 hy1 hw0 ht hw1 hw2 hv1
 have wr:∀ n:Nat,n<18446744073709551616→(n:Int)%18446744073709551616=n:=fun n hn=>by omega
 have q1:=hand a
 have q2:=hsh a
 have q3:=hand b
 have q4:=hsh b
 rw [←hx0] at q1
 rw [←hx1] at q2
 rw [←hy0] at q3
 rw [←hy1] at q4
 have q5:(x0:Int)*(y0:Int)%18446744073709551616=(w0:Int):=by rw [hw0,←Int.natCast_mul,wr _ k4]
 have q6:(x1:Int)*(y0:Int)%18446744073709551616=((x1*y0:Nat):Int):=by rw [←Int.natCast_mul,wr _ k5]
 have q7:=hsh w0
 have q8:(((x1*y0:Nat):Int)+((w0/4294967296:Nat):Int))%18446744073709551616=(t:Int):=by rw [←Int.natCast_add,←ht,wr _ k1]
 have q9:=hand t
 have q10:=hsh t
 rw [←hw1] at q9
 rw [←hw2] at q10
 have q11:(x0:Int)*(y1:Int)%18446744073709551616=((x0*y1:Nat):Int):=by rw [←Int.natCast_mul,wr _ k6]
 have q12:((w1:Int)+((x0*y1:Nat):Int))%18446744073709551616=(v1:Int):=by rw [←Int.natCast_add,←hv1,wr _ k2]
 have q13:(x1:Int)*(y1:Int)%18446744073709551616=((x1*y1:Nat):Int):=by rw [←Int.natCast_mul,wr _ k9]
 have q14:(((x1*y1:Nat):Int)+(w2:Int))%18446744073709551616=((x1*y1+w2:Nat):Int):=by rw [←Int.natCast_add,wr _ k8]
 have q15:=hsh v1
 have q16:(((x1*y1+w2:Nat):Int)+((v1/4294967296:Nat):Int))%18446744073709551616=((a*b/18446744073709551616:Nat):Int):=by rw [←Int.natCast_add,k3,wr _ (by omega)]
 have q17:(a:Int)*(b:Int)%18446744073709551616=((a*b%18446744073709551616:Nat):Int):=by rw [←Int.natCast_mul];omega
 have bx0:x0≤4294967295:=by omega
 clear hw0 ht hv1 hx0 hx1 hy0 hy1 hw1 hw2
 (repeat' ((conv=>whnf);first|rw [q1]|rw [q2]|rw [q3]|rw [q4]|rw [q5]|rw [q6]|rw [q7]|rw [q8]|rw [q9]|rw [q10]|rw [q11]|rw [q12]|rw [q13]|rw [q14]|rw [q15]|rw [q16]|rw [q17]|(refine zd (fun h=>?_) (fun h=>?_)<;>try (exfalso;omega))|(refine zc (fun h=>?_) (fun h=>?_)<;>try (exfalso;omega))|(refine za (fun h=>?_) (fun h=>?_)<;>(try simp only [zqa,zqb,zqc,zqd,zqe,zqf,zqg] at h))|refine pay ?_|refine And.intro (by first|exact ⟨by omega,by omega,by decide,by decide⟩|exact ⟨by decide,by show _≤(64:Int);decide⟩) ?_|intro _));(all_goals (conv=>whnf))
 exact ⟨rfl⟩
theorem zpL (a b:Nat) (ha:a<18446744073709551616) (hb:b<18446744073709551616) (w:World):Calls Tryz.prog jU #[.int .u64 a,.int .u64 b] w fun e w'=>e=.returned (.int .u64 ((a+b)%PP:Nat))∧Ext w w':=by
 refine zx [.v (.int .u64 a),.v (.int .u64 b)] w zjZ (by simp) ?_
 have h1:a%PP<PP:=Nat.mod_lt _ (by decide)
 have h2:b%PP<PP:=Nat.mod_lt _ (by decide)
 have hs:(((a%PP:Nat):Int)+((b%PP:Nat):Int))%18446744073709551616=((a%PP+b%PP:Nat):Int):=by unfold PP at *;omega
 rw [←zfC]
 have hlt:a%PP+b%PP<18446744073709551616:=by unfold PP at *;omega
 generalize a%PP+b%PP=s at *
 (repeat' ((conv=>whnf);first|rw [hs]|refine zm (.v _) (fun w hR=>xO a ha w) ?_|refine zm (.v _) (fun w hR=>xO b hb w) ?_|refine zm (.v _) (fun w hR=>xO s hlt w) ?_|(refine zd (fun h=>?_) (fun h=>?_)<;>try (exfalso;omega))|(refine zc (fun h=>?_) (fun h=>?_)<;>try (exfalso;omega))|(refine za (fun h=>?_) (fun h=>?_)<;>(try simp only [zqa,zqb,zqc,zqd,zqe,zqf,zqg] at h))|refine pay ?_|intro _));(all_goals (conv=>whnf))
 exact ⟨rfl⟩
theorem zbh (a b:Nat) (ha:a<18446744073709551616) (hb:b<18446744073709551616) (w:World):Calls Tryz.prog xK #[.int .u64 a,.int .u64 b] w fun e w'=>e=.returned (.int .u64 (a*b%PP:Nat))∧Ext w w':=by
 refine zx [.v (.int .u64 a),.v (.int .u64 b)] w zjW (by simp) ?_
 rw [←zdl]
 have h1:a%PP<PP:=Nat.mod_lt _ (by decide)
 have h2:b%PP<PP:=Nat.mod_lt _ (by decide)
 have c1:=xO a ha
 have c2:=xO b hb
 generalize a%PP=x at *
 generalize b%PP=y at *
 have c3:=zoe x y (Nat.lt_trans h1 (by decide)) (Nat.lt_trans h2 (by decide))
 obtain ⟨k1,k2,k3,k4⟩:=zwW h1 h2 rfl rfl
 rw [←k4]
 generalize hhi:x*y/18446744073709551616=hi at *
 generalize hlo:x*y%18446744073709551616=lo at *
 have hlo2:lo<18446744073709551616:=by omega
 have c4:=xO _ k1
 have q1:(hi:Int)*((2 ^ (3:Int).toNat:Nat):Int)%18446744073709551616=((hi*8:Nat):Int):=by
  show (hi:Int)*8%18446744073709551616=_
  omega
 have q2:(lo:Int)/((2 ^ (61:Int).toNat:Nat):Int)=((lo/2305843009213693952:Nat):Int):=by rw [Int.natCast_ediv];rfl
 have q3:(((hi*8:Nat):Int)+((lo/2305843009213693952:Nat):Int))%18446744073709551616=((hi*8+lo/2305843009213693952:Nat):Int):=by omega
 have q4:(((lo:Int).toNat&&&(2305843009213693951:Int).toNat:Nat):Int)=((lo%2305843009213693952:Nat):Int):=by rw [Int.toNat_natCast];exact congrArg _ (zmK lo)
 have q5:(((hi*8+lo/2305843009213693952:Nat):Int)+((lo%2305843009213693952:Nat):Int))%18446744073709551616=((hi*8+lo/2305843009213693952+lo%2305843009213693952:Nat):Int):=by omega
 (repeat' ((conv=>whnf);first|rw [q1]|rw [q2]|rw [q3]|rw [q4]|rw [q5]|refine zm (.v _) (fun w hR=>c1 w) ?_|refine zm (.v _) (fun w hR=>c2 w) ?_|refine zm (.v _) (fun w hR=>c3 w) ?_|refine zm (.v _) (fun w hR=>c4 w) ?_|(refine zd (fun h=>?_) (fun h=>?_)<;>try (exfalso;omega))|(refine zc (fun h=>?_) (fun h=>?_)<;>try (exfalso;omega))|(refine za (fun h=>?_) (fun h=>?_)<;>(try simp only [zqa,zqb,zqc,zqd,zqe,zqf,zqg] at h))|refine pay ?_|refine And.intro (by first|exact ⟨by omega,by omega,by decide,by decide⟩|exact ⟨by decide,by show _≤(64:Int);decide⟩) ?_|intro _));(all_goals (conv=>whnf))
 exact ⟨rfl⟩
structure PowG where
 r:Nat
 a:Nat
 n:Nat
theorem zpM (a n:Nat) (ha:a<18446744073709551616) (hn:n<18446744073709551616) (w:World):Calls Tryz.prog jS #[.int .u64 a,.int .u64 n] w fun e w'=>e=.returned (.int .u64 (a ^ n%PP:Nat))∧Ext w w':=by
 refine zx [.v (.int .u64 a),.v (.int .u64 n)] w zj2 (by simp) ?_
 (repeat' ((conv=>whnf);first|refine zm (.v _) (fun w hR=>xO a ha w) ?_|(refine zd (fun h=>?_) (fun h=>?_)<;>try (exfalso;omega))|(refine zc (fun h=>?_) (fun h=>?_)<;>try (exfalso;omega))|(refine za (fun h=>?_) (fun h=>?_)<;>(try simp only [zqa,zqb,zqc,zqd,zqe,zqf,zqg] at h))|refine pay ?_|intro _));(all_goals (conv=>whnf))
 refine zu PowG (fun g=>[(0,.v (.int .u64 g.a)),(1,.v (.int .u64 g.n)),(5,.v (.int .u64 g.r))]) (fun _=>[]) (fun g=>g.r<PP∧g.a<PP∧g.n<18446744073709551616∧g.r*g.a ^ g.n%PP=a ^ n%PP) (fun g=>g.n) ⟨1,a%PP,n⟩ ⟨by dsimp only;decide,Nat.mod_lt _ (by decide),hn,by dsimp only;rw [Nat.one_mul,zki]⟩ (by (repeat ((conv=>whnf);refine vS ?_));exact trivial) (Ref.refl _) ?_
 rintro ⟨r,x,m⟩ ⟨hr,hx,hm,hi⟩
 dsimp only at hr hx hm hi ⊢
 have c1:=zbh r x (Nat.lt_trans hr (by decide)) (Nat.lt_trans hx (by decide))
 have c2:=zbh x x (Nat.lt_trans hx (by decide)) (Nat.lt_trans hx (by decide))
 have hm2:(m:Int)/2=((m/2:Nat):Int):=by omega
 (repeat' ((conv=>whnf);first|refine zm (.v _) (fun w hR=>c1 w) ?_|refine zm (.v _) (fun w hR=>c2 w) ?_|rw [hm2]|(refine zd (fun h=>?_) (fun h=>?_)<;>try (exfalso;omega))|(refine zc (fun h=>?_) (fun h=>?_)<;>try (exfalso;omega))|(refine za (fun h=>?_) (fun h=>?_)<;>(try simp only [zqa,zqb,zqc,zqd,zqe,zqf,zqg] at h))|refine pay ?_|intro _));(all_goals (conv=>whnf))
 ·refine zi ⟨r*x%PP,x*x%PP,m/2⟩ (by dsimp only;exact ⟨Nat.mod_lt _ (by decide),Nat.mod_lt _ (by decide),by omega,zpI hi (by omega)⟩) (by ((try dsimp only);omega)) (by (repeat ((conv=>whnf);refine vS ?_));exact trivial) (Ref.refl _)
 ·refine zi ⟨r,x*x%PP,m/2⟩ (by dsimp only;exact ⟨hr,Nat.mod_lt _ (by decide),by omega,zpJ hi (by omega)⟩) (by ((try dsimp only);omega)) (by (repeat ((conv=>whnf);refine vS ?_));exact trivial) (Ref.refl _)
 ·have hm0:m=0:=by omega
  subst hm0
  rw [Nat.pow_zero,Nat.mul_one,Nat.mod_eq_of_lt hr] at hi
  rw [←hi]
  exact ⟨rfl⟩
abbrev LM:Nat:=1152921504606846976
abbrev xh (n:Int):Value:=.iface zq (.int .i64 n)
abbrev zex (t:List Nat):Value:=.agg #[.int .u64 (vh t),.int .u64 (yx t)]
abbrev wtV (t:List Nat):Value:=.agg #[.int .i64 t.length,.int .i64 (zN t),.int .i64 (yA t),.int .i64 (qU t),.int .u64 (vh t),.int .u64 (yx t)]
theorem jj (n:Int) (w:World):Calls Tryz.prog xq #[.int .i64 n] w fun e w'=>e=.returned (.bool (decide (0≤n∧n≤1152921504606846976)))∧Ext w w':=by
 refine zx [.v (.int .i64 n)] w ziI (by simp) ?_
 (repeat' ((conv=>whnf);first|(refine zd (fun h=>?_) (fun h=>?_)<;>try (exfalso;omega))|(refine zc (fun h=>?_) (fun h=>?_)<;>try (exfalso;omega))|(refine za (fun h=>?_) (fun h=>?_)<;>(try simp only [zqa,zqb,zqc,zqd,zqe,zqf,zqg] at h))|refine pay ?_|intro _));(all_goals (conv=>whnf))
 all_goals (refine ⟨?_⟩;congr 1;simp;omega)
theorem zof (n lo hi:Int) (w:World):Calls Tryz.prog jO #[.int .i64 n,.int .i64 lo,.int .i64 hi] w fun e w'=>e=.returned (.int .i64 (if n<lo then lo else if n>hi then hi else n))∧Ext w w':=by
 refine zx [.v (.int .i64 n),.v (.int .i64 lo),.v (.int .i64 hi)] w zkb (by simp) ?_
 (repeat' ((conv=>whnf);first|(refine zd (fun h=>?_) (fun h=>?_)<;>try (exfalso;omega))|(refine zc (fun h=>?_) (fun h=>?_)<;>try (exfalso;omega))|(refine za (fun h=>?_) (fun h=>?_)<;>(try simp only [zqa,zqb,zqc,zqd,zqe,zqf,zqg] at h))|refine pay ?_|intro _));(all_goals (conv=>whnf))
 all_goals (refine ⟨?_⟩;congr 1;repeat' split<;>omega)
def zmL (a b:Nat):Value:=if a+b≤LM then .tuple #[.int .i64 ((a+b:Nat):Int),.nilIface] else .tuple #[.int .i64 0,xh 2]
theorem zey (a b:Nat) (ha:a≤LM) (hb:b≤LM) (w:World):Calls Tryz.prog uB #[.int .i64 a,.int .i64 b] w fun e w'=>e=.returned (zmL a b)∧Ext w w':=by
 refine zx [.v (.int .i64 a),.v (.int .i64 b)] w zlt (by simp) ?_
 unfold LM at ha hb
 have c1:=jj a
 have c2:=jj b
 rw [decide_eq_true (by omega)] at c1 c2
 (repeat' ((conv=>whnf);first|refine zm (.v _) (fun w hR=>c1 w) ?_|refine zm (.v _) (fun w hR=>c2 w) ?_|(refine zd (fun h=>?_) (fun h=>?_)<;>try (exfalso;omega))|(refine zc (fun h=>?_) (fun h=>?_)<;>try (exfalso;omega))|(refine za (fun h=>?_) (fun h=>?_)<;>(try simp only [zqa,zqb,zqc,zqd,zqe,zqf,zqg] at h))|refine pay ?_|intro _));(all_goals (conv=>whnf))
 all_goals (refine ⟨?_⟩;unfold zmL LM;first|rw [if_pos (by omega)]|rw [if_neg (by omega)])
 all_goals first|rfl|(congr 4;omega)
theorem zog (w:World):Calls Tryz.prog jR #[] w fun e w'=>e=.returned (zex [])∧Ext w w':=by
 refine zx [] w zj5 (by simp) ?_
 (repeat' ((conv=>whnf);first|(refine zd (fun h=>?_) (fun h=>?_)<;>try (exfalso;omega))|(refine zc (fun h=>?_) (fun h=>?_)<;>try (exfalso;omega))|(refine za (fun h=>?_) (fun h=>?_)<;>(try simp only [zqa,zqb,zqc,zqd,zqe,zqf,zqg] at h))|refine pay ?_|intro _));(all_goals (conv=>whnf))
 exact ⟨rfl⟩
theorem zlz (b:Nat) (hb:b<256) (w:World):Calls Tryz.prog vg #[.int .u8 b] w fun e w'=>e=.returned (zex [b])∧Ext w w':=by
 refine zx [.v (.int .u8 b)] w zht (by simp) ?_
 have e1:vh [b]=b+1:=by
  have:zdm [b]=b+1:=by simp [zdm,zcR]
  rw [vh,this];exact Nat.mod_eq_of_lt (by unfold PP;omega)
 have e2:yx [b]=1103515245:=rfl
 have q:((b:Int)+1)%18446744073709551616=((b+1:Nat):Int):=by omega
 have q2:(b:Int)%18446744073709551616=b:=by omega
 unfold zex
 rw [e1,e2]
 (repeat' ((conv=>whnf);first|rw [q]|rw [q2]|(refine zd (fun h=>?_) (fun h=>?_)<;>try (exfalso;omega))|(refine zc (fun h=>?_) (fun h=>?_)<;>try (exfalso;omega))|(refine za (fun h=>?_) (fun h=>?_)<;>(try simp only [zqa,zqb,zqc,zqd,zqe,zqf,zqg] at h))|refine pay ?_|intro _));(all_goals (conv=>whnf))
 exact ⟨rfl⟩
theorem zs4 {n:Nat}:n%PP<18446744073709551616:=Nat.lt_trans (Nat.mod_lt n (by decide)) (by decide)
theorem zmM (t:List Nat):vh t<18446744073709551616:=zs4
theorem zez (t:List Nat):yx t<18446744073709551616:=zs4
theorem zoh (s t:List Nat) (w:World):Calls Tryz.prog jT #[zex s,zex t] w fun e w'=>e=.returned (zex (s++t))∧Ext w w':=by
 refine zx [.v (zex s),.v (zex t)] w zj8 (by simp) ?_
 have c1:=zbh (vh s) (yx t) (zmM _) (zez _)
 have c2:=zpL (vh s*yx t%PP) (vh t) zs4 (zmM _)
 have c3:=zbh (yx s) (yx t) (zez _) (zez _)
 rw [zod] at c2
 rw [zly] at c3
 (repeat' ((conv=>whnf);first|refine zm (.v _) (fun w hR=>c1 w) ?_|refine zm (.v _) (fun w hR=>c2 w) ?_|refine zm (.v _) (fun w hR=>c3 w) ?_|refine y7 (.v _) (fun w hR=>c1 w) ?_|refine y7 (.v _) (fun w hR=>c2 w) ?_|refine y7 (.v _) (fun w hR=>c3 w) ?_|(refine zd (fun h=>?_) (fun h=>?_)<;>try (exfalso;omega))|(refine zc (fun h=>?_) (fun h=>?_)<;>try (exfalso;omega))|(refine za (fun h=>?_) (fun h=>?_)<;>(try simp only [zqa,zqb,zqc,zqd,zqe,zqf,zqg] at h))|refine pay ?_|intro _));(all_goals (conv=>whnf))
 exact ⟨rfl⟩
structure RepG where
 m:Nat
 i:Nat
 k:Nat
theorem zoi (w:World):Calls Tryz.prog jP #[] w fun e w'=>e=.returned (wtV [])∧Ext w w':=by
 refine zx [] w zke (by simp) ?_
 (repeat' ((conv=>whnf);first|refine zm (.v _) (fun w hR=>zog w) ?_|(refine zd (fun h=>?_) (fun h=>?_)<;>try (exfalso;omega))|(refine zc (fun h=>?_) (fun h=>?_)<;>try (exfalso;omega))|(refine za (fun h=>?_) (fun h=>?_)<;>(try simp only [zqa,zqb,zqc,zqd,zqe,zqf,zqg] at h))|refine pay ?_|intro _));(all_goals (conv=>whnf))
 exact ⟨rfl⟩
theorem zlA (b:Nat) (hb:b<256) (w:World):Calls Tryz.prog uK #[.int .u8 b] w fun e w'=>e=.returned (wtV [b])∧Ext w w':=by
 refine zx [.v (.int .u8 b)] w zhw (by simp) ?_
 have e0:b≠10→zN [b]=0∧yA [b]=1∧qU [b]=1:=fun h=>by
  have h0:zN [b]=0:=by simp [zN,h]
  exact ⟨h0,zcS h0,zcT h0⟩
 (repeat' ((conv=>whnf);first|refine zm (.v _) (fun w hR=>zlz b hb w) ?_|(refine zd (fun h=>?_) (fun h=>?_)<;>try (exfalso;omega))|(refine zc (fun h=>?_) (fun h=>?_)<;>try (exfalso;omega))|(refine za (fun h=>?_) (fun h=>?_)<;>(try simp only [zqa,zqb,zqc,zqd,zqe,zqf,zqg] at h))|refine pay ?_|intro _));(all_goals (conv=>whnf))
 ·refine ⟨?_⟩
  have:b=10:=by omega
  subst this
  rfl
 ·refine ⟨?_⟩
  obtain ⟨e1,e2,e3⟩:=e0 (by omega)
  unfold wtV
  rw [e1,e2,e3]
  rfl
theorem zfD (t:List Nat) (ht:t.length≤LM) (w:World):Calls Tryz.prog vG #[wtV t] w fun e w'=>e=.returned (.bool true)∧Ext w w':=by
 refine zx [.v (wtV t)] w ziO (by simp) ?_
 unfold LM at ht
 have c1:=jj t.length
 rw [decide_eq_true (by omega)] at c1
 have c2:=zpM 1103515245 t.length (by decide) (by omega)
 have h0:zN t=0→yA t=t.length∧qU t=t.length:=fun h=>⟨zcS h,zcT h⟩
 have h1:=zaI t
 have h2:=zun t
 have h3:t.length=0→vh t=0:=fun h=>by rw [List.eq_nil_of_length_eq_zero h];rfl
 have h4:yx t=1103515245 ^ t.length%PP:=rfl
 rw [←h4] at c2
 have q1:(t.length:Int)%18446744073709551616=t.length:=by omega
 clear h4
 unfold PP at h2
 unfold wtV
 generalize t.length=n at *
 generalize zN t=l at *
 generalize yA t=hd at *
 generalize qU t=tl at *
 generalize vh t=v at *
 generalize yx t=sc at *
 (repeat' ((conv=>whnf);first|rw [q1]|refine zm (.v _) (fun w hR=>c1 w) ?_|refine y7 (.v _) (fun w hR=>c2 w) ?_|(refine zd (fun h=>?_) (fun h=>?_)<;>try (exfalso;omega))|(refine zc (fun h=>?_) (fun h=>?_)<;>try (exfalso;omega))|(refine za (fun h=>?_) (fun h=>?_)<;>(try simp only [zqa,zqb,zqc,zqd,zqe,zqf,zqg] at h))|refine pay ?_|intro _));(all_goals (conv=>whnf))
 all_goals (refine ⟨?_⟩;first|rfl|(exfalso;omega)|(congr 1;simp))
theorem zoj (s t:List Nat) (h:s.length+t.length≤LM) (w:World):Calls Tryz.prog jQ #[wtV s,wtV t] w fun e w'=>e=.returned (.tuple #[wtV (s++t),.nilIface])∧Ext w w':=by
 refine zx [.v (wtV s),.v (wtV t)] w zkh (by simp) ?_
 have c1:=zfD s (by omega)
 have c2:=zfD t (by omega)
 have c3:=zey s.length t.length (by omega) (by omega)
 rw [show zmL s.length t.length=.tuple #[.int .i64 ((s.length+t.length:Nat):Int),.nilIface] from if_pos h] at c3
 have c4:=zoh s t
 have e1:=zmJ s t
 have e2:=zdn s t
 have e3:=zaA s t
 have b1:=zaI s
 have b2:=zaI t
 have z1:zN s=0→yA s=s.length∧qU s=s.length:=fun h=>⟨zcS h,zcT h⟩
 have z2:zN t=0→yA t=t.length∧qU t=t.length:=fun h=>⟨zcS h,zcT h⟩
 unfold LM at h
 unfold wtV at *
 unfold zex at c4
 rw [List.length_append,e1,e2,e3]
 generalize vh (s++t)=v at *
 generalize yx (s++t)=sc at *
 clear e1 e2 e3
 generalize s.length=n at *
 generalize t.length=n' at *
 generalize zN s=l at *
 generalize zN t=l' at *
 generalize yA s=hd at *
 generalize yA t=hd' at *
 generalize qU s=tl at *
 generalize qU t=tl' at *
 (repeat' ((conv=>whnf);first|refine zm (.v _) (fun w hR=>c1 w) ?_|refine zm (.v _) (fun w hR=>c2 w) ?_|refine zm (.v _) (fun w hR=>c3 w) ?_|refine y7 (.v _) (fun w hR=>c1 w) ?_|refine y7 (.v _) (fun w hR=>c2 w) ?_|refine y7 (.v _) (fun w hR=>c4 w) ?_|(refine zd (fun h=>?_) (fun h=>?_)<;>try (exfalso;omega))|(refine zc (fun h=>?_) (fun h=>?_)<;>try (exfalso;omega))|(refine za (fun h=>?_) (fun h=>?_)<;>(try simp only [zqa,zqb,zqc,zqd,zqe,zqf,zqg] at h))|refine pay ?_|intro _));(all_goals (conv=>whnf))
 all_goals (refine ⟨?_⟩)
 all_goals (try rw [if_pos (by omega:l=0)]) 
 all_goals (try rw [if_neg (by omega:¬l=0)])
 all_goals (try rw [if_pos (by omega:l'=0)])
 all_goals (try rw [if_neg (by omega:¬l'=0)])
 all_goals exact rfl
structure Rul where
 k:Int
 l:Int
 a:Int
 b:Int
 t:Int
deriving DecidableEq
abbrev ruC (r:Rul):List Value:=[.int .i64 r.k,.int .u8 r.l,.int .i64 r.a,.int .i64 r.b,.int .i64 r.t]
abbrev ruV (r:Rul):Value:=.agg #[.int .i64 r.k,.int .u8 r.l,.int .i64 r.a,.int .i64 r.b,.int .i64 r.t]
def okR (r:Rul) (n:Int):Prop :=
 (r.k=1∧r.a=0∧r.b=0∧r.t=0∧1≤n)∨(r.k=2∧r.l=0∧r.t=0∧1≤r.a∧r.a<n∧1≤r.b∧r.b<n)∨(r.k=3∧r.l=0∧r.b=0∧2≤r.t∧1≤r.a∧r.a<n)
instance (r:Rul) (n:Int):Decidable (okR r n):=by unfold okR;exact inferInstance
def xB (r:Rul):List Int:=if r.k=2 then [r.a,r.b] else if r.k=3 then [r.a] else []
theorem zpN (r:Rul) (w:World):Calls Tryz.prog zb0 #[ruV r] w (zs3 xH 1 (xB r).length (zo .i64 (xB r)) w):=by
 refine zpH [.v (ruV r)] w zmG (by simp) ?_
 have e2:r.k=2→xB r=[r.a,r.b]:=fun h=>if_pos h
 have e3:r.k=3→xB r=[r.a]:=fun h=>by rw [xB,if_neg (by omega),if_pos h]
 have e0:r.k≠2→r.k≠3→xB r=[]:=fun h h'=>by rw [xB,if_neg h,if_neg h']
 (repeat' ((conv=>whnf);first|(refine zd (fun h=>?_) (fun h=>?_)<;>try (exfalso;omega))|(refine zc (fun h=>?_) (fun h=>?_)<;>try (exfalso;omega))|(refine za (fun h=>?_) (fun h=>?_)<;>(try simp only [zqa,zqb,zqc,zqd,zqe,zqf,zqg] at h))|refine pay ?_|intro _));(all_goals (conv=>whnf))
 ·refine ⟨?_⟩
  rw [e2 (by omega)]
  exact ⟨_,_,rfl,Thin.ref (.keep rfl (fun _ h=>h) (.nil _))⟩
 ·refine ⟨?_⟩
  rw [e3 (by omega)]
  exact ⟨_,_,rfl,Thin.ref (.keep rfl (fun _ h=>h) (.nil _))⟩
 ·refine ⟨?_⟩
  rw [e0 (by omega) (by omega)]
  exact ⟨none,0,rfl,fun w' h=>(h.sub (List.nil_sublist _)).ownNil 0 xH 1⟩
theorem zqW (r:Rul):(xB r).length≤2:=by
 unfold xB
 split
 ·exact Nat.le_refl 2
 ·split<;>simp
end Go.Proofs.YtjmlialibdobpaaGreatDoor
namespace Go.Proofs.YtjmlialibdobpaaGreatDoor
open Go.EG
set_option linter.unusedSimpArgs false
set_option linter.unusedVariables false
inductive Tm where
 | nil
 | lt (l:Nat)
 | pr (a b:Tm)
 | pw (a:Tm) (k:Nat)
deriving DecidableEq
def Tm.txt:Tm→List Nat
 | .nil=>[]
 | .lt l=>[l]
 | .pr a b=>a.txt++b.txt
 | .pw a k=>rep k a.txt
def Tm.dep:Tm→Nat
 | .nil=>0
 | .lt _=>0
 | .pr a b=>1+max a.dep b.dep
 | .pw a _=>1+a.dep
def Tm.evn:Tm→Bool
 | .nil=>true
 | .lt _=>true
 | .pr a b=>a.evn&&b.evn&&decide (a.dep≤b.dep+1)&&decide (b.dep≤a.dep+1)
 | .pw _ _=>false
def Tm.len (m:Tm):Nat:=m.txt.length
structure Entr where
 r:Rul
 m:Tm
def xV:Entr:=⟨⟨0,0,0,0,0⟩,.nil⟩
def atE (E:List Entr) (n:Int):Entr:=if n≤0 then xV else E.getD (n.toNat - 1) xV
def tm (E:List Entr) (n:Int):Tm:=(atE E n).m
def mkT (E:List Entr) (r:Rul):Tm:=if r.k=1 then .lt r.l.toNat else if r.k=2 then .pr (tm E r.a) (tm E r.b) else .pw (tm E r.a) r.t.toNat
def mkE (E:List Entr) (r:Rul):Entr:=⟨r,mkT E r⟩
def idx (r:Rul):Nat→List Entr→Nat
 | _,[]=>0
 | i,x::E=>if r=x.r then i+1 else idx r (i+1) E
abbrev yG (r:Rul) (E:List Entr):Nat:=idx r 0 E
structure Sto where
 most:Nat
 E:List Entr
abbrev vi (S:Sto) (x:Entr):Sto:=⟨S.most,S.E++[x]⟩
structure WF (S:Sto):Prop where
 most:S.most≤1048576
 len:S.E.length≤S.most
 rul:∀ i,i<S.E.length→okR (S.E.getD i xV).r (i+1)
 let_:∀ i,i<S.E.length→0≤(S.E.getD i xV).r.l∧(S.E.getD i xV).r.l<256
 tms:∀ i,i<S.E.length→(S.E.getD i xV).m=mkT S.E (S.E.getD i xV).r
 leng:∀ i,i<S.E.length→(S.E.getD i xV).m.len≤LM
 uniq:∀ i,i<S.E.length→yG (S.E.getD i xV).r S.E=i+1
def known (S:Sto) (n:Int):Prop:=0≤n∧n≤S.E.length
instance (S:Sto) (n:Int):Decidable (known S n):=by unfold known;exact inferInstance
def qb (S:Sto) (r:Rul):Sto × Int × Nat :=
 if yG r S.E=0 then (if S.most≤S.E.length then (S,0,3) else (vi S (mkE S.E r),((S.E.length+1:Nat):Int),0)) else (S,((yG r S.E:Nat):Int),0)
def zdo (l:Nat):Rul:=⟨1,l,0,0,0⟩
def vj (i j:Int):Rul:=⟨2,0,i,j,0⟩
def zaJ (S:Sto) (i j:Int):Sto × Int × Nat :=
 if ¬known S i∨¬known S j then (S,0,1)
 else if i=0 then (S,j,0)
 else if j=0 then (S,i,0)
 else if LM<(tm S.E i).len+(tm S.E j).len then (S,0,2)
 else qb S (vj i j)
theorem zb7 (E:List Entr) (i:Nat):atE E ((i:Int)+1)=E.getD i xV:=by
 unfold atE
 rw [if_neg (by omega),show ((i:Int)+1).toNat - 1=i by omega]
theorem zoU {E:List Entr} {n:Int} (h:0<n):atE E n=E.getD (n.toNat - 1) xV:=if_neg (by omega)
theorem zkj (E:List Entr):tm E 0=.nil:=rfl
theorem zb8 {α:Type} {l l':List α} {i:Nat} {d:α} (h:i<l.length):(l++l').getD i d=l.getD i d:=by
 simp [List.getD_eq_getElem?_getD,List.getElem?_append,h]
theorem zpO {E E':List Entr} {n:Int} (h:n≤E.length):atE (E++E') n=atE E n:=by
 unfold atE
 split
 ·rfl
 ·rw [zb8 (by omega)]
theorem zaK {E E':List Entr} {n:Int} (h:n≤E.length):tm (E++E') n=tm E n:=by unfold tm;rw [zpO h]
theorem ziP {E E':List Entr} {r:Rul} {n:Int} (h:okR r (n+1)) (hn:n≤E.length):mkT (E++E') r=mkT E r:=by
 unfold mkT
 rcases h with h|⟨h1,h2,h3,h4,h5,h6,h7⟩|⟨h1,h2,h3,h4,h5,h6⟩
 ·rw [if_pos h.1,if_pos h.1]
 ·rw [if_neg (by omega),if_pos h1,if_neg (by omega),if_pos h1,zaK (by omega),zaK (by omega)]
 ·rw [if_neg (by omega),if_neg (by omega),if_neg (by omega),if_neg (by omega),zaK (by omega)]
theorem ziQ {r:Rul}:∀ {E:List Entr} {i:Nat},idx r i E≠0→∀ E',idx r i (E++E')=idx r i E
 | [],_,h,_=>absurd rfl h
 | x :: E, i, h, E' => by
   simp only [List.cons_append,idx] at h ⊢
   split
   ·rfl
   ·rename_i hr
    rw [if_neg hr] at h
    exact ziQ h E'
theorem zmN {r:Rul}:∀ {E:List Entr} {i:Nat},idx r i E=0→∀ {E':List Entr},idx r i (E++E')=idx r (i+E.length) E'
 | [],i,_,E'=>by simp
 | x :: E, i, h, E' => by
   simp only [idx] at h
   split at h
   ·omega
   ·rename_i hr
    simp only [List.cons_append,idx,if_neg hr,List.length_cons]
    rw [zmN h]
    congr 1
    omega
theorem zqX {r:Rul}:∀ {E:List Entr} {i:Nat},idx r i E≤i+E.length
 | [],_=>by simp [idx]
 | x :: E, i => by
   simp only [idx,List.length_cons]
   split
   ·omega
   ·have:=zqX (r:=r) (E:=E) (i:=i+1);omega
theorem zmO {r:Rul}:∀ {E:List Entr} {i:Nat},idx r i E≠0→i<idx r i E∧(E.getD (idx r i E - 1 - i) xV).r=r
 | [],_,h=>absurd rfl h
 | x :: E, i, h => by
   by_cases hr:r=x.r
   ·have e:idx r i (x::E)=i+1:=if_pos hr
    rw [e]
    refine ⟨by omega,?_⟩
    rw [show i+1 - 1 - i=0 by omega]
    exact hr.symm
   ·have e:idx r i (x::E)=idx r (i+1) E:=if_neg hr
    rw [e] at h ⊢
    have ⟨h1,h2⟩:=zmO h
    refine ⟨by omega,?_⟩
    rw [show idx r (i+1) E - 1 - i=(idx r (i+1) E - 1 - (i+1))+1 by omega,List.getD_cons_succ]
    exact h2
theorem zuo {r:Rul} {E:List Entr} (h:yG r E≠0):(atE E (yG r E)).r=r∧yG r E≤E.length:=by
 have h1:=zmO h
 have h2:=zqX (r:=r) (E:=E) (i:=0)
 refine ⟨?_,by unfold yG;omega⟩
 rw [zoU (by unfold yG;omega)]
 have:((yG r E:Nat):Int).toNat - 1=idx r 0 E - 1 - 0:=by unfold yG;omega
 rw [this]
 exact h1.2
section
variable {S:Sto} (h:WF S)
theorem WF.at_ {n:Int} (h:WF S) (h0:1≤n) (h1:n≤S.E.length):okR (atE S.E n).r n∧(0≤(atE S.E n).r.l∧(atE S.E n).r.l<256)∧tm S.E n=mkT S.E (atE S.E n).r∧(tm S.E n).len≤LM∧yG (atE S.E n).r S.E=n.toNat:=by
 rw [show tm S.E n=(atE S.E n).m from rfl,zoU (by omega)]
 have hi:n.toNat - 1<S.E.length:=by omega
 refine ⟨?_,h.let_ _ hi,h.tms _ hi,h.leng _ hi,?_⟩
 ·have:=h.rul _ hi
  rwa [show ((n.toNat - 1:Nat):Int)+1=n by omega] at this
 ·rw [h.uniq _ hi];omega
theorem WF.le {n:Int} (h:WF S) (h1:n≤S.E.length):(tm S.E n).len≤LM:=by
 by_cases h0:n≤0
 ·rw [tm,atE,if_pos h0];exact Nat.zero_le _
 ·exact (h.at_ (by omega) h1).2.2.2.1
theorem zkk (k:Nat) (t:List Nat):(rep k t).length=k*t.length:=zew k t
theorem WF.pos (h:WF S):∀ (k:Nat) (n:Int),n=k→1≤n→n≤S.E.length→1≤(tm S.E n).len∧(tm S.E n).dep<k:=by
 intro k
 induction k using Nat.strongRecOn with
 | ind k ih =>
   intro n hk h0 h1
   obtain ⟨hr,_,ht,_⟩:=h.at_ h0 h1
   rw [ht]
   unfold mkT
   rcases hr with hr|⟨h1',h2',h3',h4',h5',h6',h7'⟩|⟨h1',h2',h3',h4',h5',h6'⟩
   ·rw [if_pos hr.1];exact ⟨Nat.le_refl 1,by simp only [Tm.dep];omega⟩
   ·rw [if_neg (by omega),if_pos h1']
    have i1:=ih (atE S.E n).r.a.toNat (by omega) (atE S.E n).r.a (by omega) h4' (by omega)
    have i2:=ih (atE S.E n).r.b.toNat (by omega) (atE S.E n).r.b (by omega) h6' (by omega)
    refine ⟨?_,?_⟩
    ·have:=i1.1
     unfold Tm.len at this ⊢
     rw [Tm.txt,List.length_append];omega
    ·simp only [Tm.dep];omega
   ·rw [if_neg (by omega),if_neg (by omega)]
    have i1:=ih (atE S.E n).r.a.toNat (by omega) (atE S.E n).r.a (by omega) h5' (by omega)
    refine ⟨?_,?_⟩
    ·have:=i1.1
     unfold Tm.len at this ⊢
     rw [Tm.txt,zkk]
     exact Nat.mul_pos (by omega) this
    ·simp only [Tm.dep];omega
theorem WF.pos1 {n:Int} (h:WF S) (h0:1≤n) (h1:n≤S.E.length):1≤(tm S.E n).len:=(h.pos n.toNat n (by omega) h0 h1).1
theorem WF.dep {n:Int} (h:WF S) (h1:n≤S.E.length):(tm S.E n).dep≤1048576:=by
 by_cases h0:n≤0
 ·rw [tm,atE,if_pos h0];exact Nat.zero_le _
 ·have:=(h.pos n.toNat n (by omega) (by omega) h1).2
  have:=h.most
  have:=h.len
  omega
theorem WF.small (h:WF S):S.E.length≤1048576:=Nat.le_trans h.len h.most
end
structure Fit (S:Sto) (r:Rul):Prop where
 ok:okR r (S.E.length+1)
 let_:0≤r.l∧r.l<256
 len:(mkT S.E r).len≤LM
theorem zmP {α:Type} {l:List α} {x d:α} {i:Nat} (h:i<l.length):(l++[x]).getD i d=l.getD i d:=zb8 h
theorem WF.add {S:Sto} {r:Rul} (h:WF S) (hr:Fit S r) (hn:yG r S.E=0) (hm:S.E.length<S.most):WF (vi S (mkE S.E r)):=by
 have key:∀ i,i<(S.E++[mkE S.E r]).length→(i<S.E.length∧(S.E++[mkE S.E r]).getD i xV=S.E.getD i xV)∨(i=S.E.length∧(S.E++[mkE S.E r]).getD i xV=mkE S.E r):=fun i hi=>by
  rw [List.length_append] at hi
  simp only [List.length_cons,List.length_nil] at hi
  by_cases h:i<S.E.length
  ·exact .inl ⟨h,zmP h⟩
  ·exact .inr ⟨by omega,zcP (by omega)⟩
 refine ⟨h.most,by simp only [vi,List.length_append,List.length_cons,List.length_nil];omega,fun i hi=>?_,fun i hi=>?_,fun i hi=>?_,fun i hi=>?_,fun i hi=>?_⟩
 ·rcases key i hi with ⟨h1,h2⟩|⟨h1,h2⟩
  ·simp only [vi,h2];exact h.rul i h1
  ·simp only [vi,h2];rw [h1];exact hr.ok
 ·rcases key i hi with ⟨h1,h2⟩|⟨h1,h2⟩
  ·simp only [vi,h2];exact h.let_ i h1
  ·simp only [vi,h2];exact hr.let_
 ·rcases key i hi with ⟨h1,h2⟩|⟨h1,h2⟩
  ·simp only [vi,h2]
   rw [ziP (h.rul i h1) (by omega)]
   exact h.tms i h1
  ·simp only [vi,h2]
   rw [show (mkE S.E r).r=r from rfl,ziP hr.ok (by omega)];rfl
 ·rcases key i hi with ⟨h1,h2⟩|⟨h1,h2⟩
  ·simp only [vi,h2];exact h.leng i h1
  ·simp only [vi,h2];exact hr.len
 ·rcases key i hi with ⟨h1,h2⟩|⟨h1,h2⟩
  ·simp only [vi,h2]
   have:=h.uniq i h1
   unfold yG at this ⊢
   rw [ziQ (by omega)];exact this
  ·simp only [vi,h2]
   rw [h1]
   unfold yG at hn ⊢
   rw [show (mkE S.E r).r=r from rfl,zmN hn]
   simp [idx,mkE]
theorem WF.new (most:Nat) (h:most≤1048576):WF ⟨most,[]⟩:=by
 refine ⟨h,Nat.zero_le _,?_,?_,?_,?_,?_⟩<;>(intro i hi;exact absurd hi (Nat.not_lt_zero _))
def Grow (S S':Sto):Prop:=∃ E',S'=⟨S.most,S.E++E'⟩
theorem Grow.refl (S:Sto):Grow S S:=⟨[],by simp⟩
theorem Grow.trans {S S' S'':Sto} (h:Grow S S') (k:Grow S' S''):Grow S S'':=by
 obtain ⟨E',rfl⟩:=h
 obtain ⟨E'',rfl⟩:=k
 exact ⟨E'++E'',by simp⟩
theorem Grow.tm {S S':Sto} (h:Grow S S') {n:Int} (hn:n≤S.E.length):tm S'.E n=tm S.E n:=by
 obtain ⟨E',rfl⟩:=h
 exact zaK hn
theorem Grow.len {S S':Sto} (h:Grow S S'):S.E.length≤S'.E.length:=by
 obtain ⟨E',rfl⟩:=h
 simp
theorem Grow.most {S S':Sto} (h:Grow S S'):S'.most=S.most:=by
 obtain ⟨E',rfl⟩:=h
 rfl
theorem Grow.known {S S':Sto} (h:Grow S S') {n:Int} (hn:known S n):known S' n:=⟨hn.1,by have:=h.len;have:=hn.2;omega⟩
theorem zpP {S:Sto} {r:Rul} (h:WF S) (hr:Fit S r):WF (qb S r).1∧Grow S (qb S r).1∧((qb S r).2.2=0→1≤(qb S r).2.1∧known (qb S r).1 (qb S r).2.1∧tm (qb S r).1.E (qb S r).2.1=mkT S.E r∧(atE (qb S r).1.E (qb S r).2.1).r=r)∧((qb S r).2.2≠0→(qb S r).2.2=3∧S.most≤S.E.length∧(qb S r).2.1=0)∧(qb S r).1.E.length≤S.E.length+1:=by
 unfold qb
 by_cases h0:yG r S.E=0
 ·rw [if_pos h0]
  by_cases h1:S.most≤S.E.length
  ·rw [if_pos h1]
   exact ⟨h,Grow.refl S,fun (h:(3:Nat)=0)=>absurd h (by decide),fun _=>⟨rfl,h1,rfl⟩,Nat.le_succ _⟩
  ·rw [if_neg h1]
   refine ⟨h.add hr h0 (by omega),⟨_,rfl⟩,fun _=>⟨by simp only;omega,⟨by simp only;omega,by simp [vi]⟩,?_,?_⟩,fun hn=>absurd rfl hn,by simp [vi]⟩
   ·show tm (S.E++[mkE S.E r]) ((S.E.length+1:Nat):Int)=_
    rw [tm,show ((S.E.length+1:Nat):Int)=((S.E.length:Nat):Int)+1 by omega,zb7,zcP rfl];rfl
   ·show (atE (S.E++[mkE S.E r]) ((S.E.length+1:Nat):Int)).r=_
    rw [show ((S.E.length+1:Nat):Int)=((S.E.length:Nat):Int)+1 by omega,zb7,zcP rfl];rfl
 ·rw [if_neg h0]
  have h1:=zuo h0
  refine ⟨h,Grow.refl S,fun _=>⟨by simp only;omega,⟨by simp only;omega,by simp only;omega⟩,?_,h1.1⟩,fun hn=>absurd rfl hn,by simp⟩
  have h2:=(h.at_ (n:=(yG r S.E:Nat)) (by omega) (by omega)).2.2.1
  rw [h1.1] at h2
  exact h2
theorem zup (S:Sto) {l:Nat} (hl:l<256):Fit S (zdo l):=by
 refine ⟨.inl ⟨rfl,rfl,rfl,rfl,by omega⟩,⟨by simp [zdo],by simp [zdo];omega⟩,?_⟩
 show (Tm.lt _).len≤LM
 exact (by decide:1≤LM)
theorem zs5 {S:Sto} {i j:Int} (h1:1≤i) (h2:i≤S.E.length) (h3:1≤j) (h4:j≤S.E.length) (h:(tm S.E i).len+(tm S.E j).len≤LM):Fit S (vj i j):=by
 refine ⟨.inr (.inl ⟨rfl,rfl,rfl,h1,by simp only [vj];omega,h3,by simp only [vj];omega⟩),⟨by simp [vj],by simp [vj]⟩,?_⟩
 show (Tm.pr (tm S.E i) (tm S.E j)).len≤LM
 unfold Tm.len at *
 rw [Tm.txt,List.length_append];exact h
end Go.Proofs.YtjmlialibdobpaaGreatDoor
namespace Go.Proofs.YtjmlialibdobpaaGreatDoor
open Go.EG
attribute [local irreducible] zP yj Go.Calls
set_option linter.unusedSimpArgs false
set_option linter.unusedVariables false
set_option maxRecDepth 20000
abbrev zfE (x:Entr):List Value:=[.int .i64 x.r.k,.int .u8 x.r.l,.int .i64 x.r.a,.int .i64 x.r.b,.int .i64 x.r.t,.int .i64 x.m.txt.length,.int .i64 (zN x.m.txt),.int .i64 (yA x.m.txt),.int .i64 (qU x.m.txt),.int .u64 (vh x.m.txt),.int .u64 (yx x.m.txt),.int .i64 x.m.dep,.bool x.m.evn]
abbrev zmQ (x:Entr):Value:=.agg #[.int .i64 x.r.k,.int .u8 x.r.l,.int .i64 x.r.a,.int .i64 x.r.b,.int .i64 x.r.t,.int .i64 x.m.txt.length,.int .i64 (zN x.m.txt),.int .i64 (yA x.m.txt),.int .i64 (qU x.m.txt),.int .u64 (vh x.m.txt),.int .u64 (yx x.m.txt),.int .i64 x.m.dep,.bool x.m.evn]
def zb9 (E:List Entr):List Value:=E.flatMap zfE
theorem zqY (E:List Entr) (x:Entr):zb9 E++zfE x=zb9 (E++[x]):=by simp [zb9]
theorem zkl:∀ {E:List Entr} {i:Nat},i<E.length→((zb9 E).drop (i*13)).take 13=zfE (E.getD i xV)
 | x::E,0,_=>by simp [zb9,zfE]
 | x :: E, i + 1, h => by
   have ih:=zkl (E:=E) (i:=i) (by simpa using h)
   have e1:zb9 (x::E)=zfE x++zb9 E:=by simp [zb9]
   rw [e1,show (i+1)*13=(zfE x).length+i*13 by simp [zfE];omega,←List.drop_drop,List.drop_left]
   simpa using ih
def zdp:Nat→List Entr→List (Value × Value)
 | _,[]=>[]
 | i,x::E=>(ruV x.r,.int .i64 ((i+1:Nat):Int))::zdp (i+1) E
abbrev ziw (E:List Entr):List (Value × Value):=zdp 0 E
abbrev kkR:KK:=.agg [.int .i64,.int .u8,.int .i64,.int .i64,.int .i64]
def fS (b:Nat) (S:Sto) (x:Option Addr × Nat × Nat):List Ent :=
 [.box 1000 b [.int .i64 S.most,.slice x.1 S.E.length x.2.1,.map (some x.2.2)] jg,.own 1001 x.1 S.E.length x.2.1 qI 13 (zb9 S.E),.mapE 1002 x.2.2 kkR (ziw S.E)]
theorem zbi (b:Nat) (S:Sto) (a:Option Addr) (c mb:Nat):fS b S (a,c,mb)=[.box 1000 b [.int .i64 S.most,.slice a S.E.length c,.map (some mb)] jg,.own 1001 a S.E.length c qI 13 (zb9 S.E),.mapE 1002 mb kkR (ziw S.E)]:=rfl
def zs6 (key b:Nat) (S:Sto) (r v:Value) (L1:List Ent):Prop:=v=r∧∃ fp',L1=[packE key fp' (fS b S)]
abbrev StR (w:World) (key:Nat) (fp:List Nat) (b:Nat) (S:Sto):Prop:=R w fp [packE key fp (fS b S)] w
theorem zeA {key b:Nat} {S:Sto} {r v:Value} {w0:World} {fp0:List Nat} {L:List Ent} (a:Option Addr) (c mb:Nat) (h:Thin L (fS b S (a,c,mb))) (hv:v=r):∃ L1,Ref w0 fp0 L L1∧zs6 key b S r v L1 :=
 ⟨_,Ref.pack (a,c,mb) h,hv,_,rfl⟩
theorem StR.key {w:World} {key fp b S} (h:StR w key fp b S) (k':Nat):StR w k' fp b S:=(Thin.packE (.nil [])).ref w h
theorem uL {key k' b:Nat} {fp'':List Nat} {S:Sto} {r v:Value} {w0:World} {fp0:List Nat} {L:List Ent} (h:Thin L [packE k' fp'' (fS b S)]) (hv:v=r):∃ L1,Ref w0 fp0 L L1∧zs6 key b S r v L1 :=
 ⟨[packE key fp'' (fS b S)],fun w hR=>(Thin.packE (.nil [])).ref w (h.ref w hR),hv,_,rfl⟩
def SC (f:Nat) (args:Array Value) (b:Nat) (S S':Sto) (r:Value):Prop :=
 ∀ (key:Nat) (fp:List Nat) (w:World),StR w key fp b S→Calls Tryz.prog f args w fun e w'=>∃ v L1,e=.returned v∧R w fp L1 w'∧zs6 key b S' r v L1
theorem SC.go {f:Nat} {args:List Value} {b:Nat} {S S':Sto} {r:Value} {w0:World} {fp0 fp:List Nat} {L Lr:List Ent} {k:SV→List Ent→Prop} (key:Nat) (h:SC f args.toArray b S S' r) (hp:qL key L=some (packE key fp (fS b S),Lr)) (hk:∀ fp',k (.v r) ([packE key fp' (fS b S')]++Lr)):zP Tryz.prog w0 fp0 f args L k :=
 yo hp (fun w hR h0=>h _ _ _ h0) (by rintro _ _ ⟨rfl,fp',rfl⟩;exact ⟨.v _,rfl,hk fp'⟩)
abbrev pS (b:Nat):Value:=.pointer (some ⟨b,0,none⟩)
def zvh:Nat→Value
 | 0=>.nilIface
 | n+1=>xh ((n+1:Nat):Int)
def zs7 (p:Int × Nat):Value:=.tuple #[.int .i64 p.1,zvh p.2]
theorem zg3 (b:Nat) (S:Sto) (n:Int) :
 SC zT #[pS b,.int .i64 n] b S S (.bool (decide (0≤n∧n≤S.E.length))):=by
 intro key fp w hR
 refine kg [.ptr 1000 b 0,.v (.int .i64 n)] zcC (by simp) hR ?_
 rintro ⟨a,c,mb⟩ hfp hR'
 rw [zbi]
 (repeat' ((conv=>whnf);first|refine ⟨_,⟨rfl,trivial⟩,?_⟩|(refine zd (fun h=>?_) (fun h=>?_)<;>try (exfalso;omega))|(refine zc (fun h=>?_) (fun h=>?_)<;>try (exfalso;omega))|(refine za (fun h=>?_) (fun h=>?_)<;>(try simp only [zqa,zqb,zqc,zqd,zqe,zqf,zqg] at h))|refine pay ?_|intro _));(all_goals (conv=>whnf))
 all_goals (refine ⟨zeA a c mb (Thin.refl _) ?_⟩;congr 1;simp;omega)
theorem ziR (b:Nat) (S:Sto) :
 SC xu #[pS b] b S S (.int .i64 S.E.length):=by
 intro key fp w hR
 refine kg [.ptr 1000 b 0] zdQ (by simp) hR ?_
 rintro ⟨a,c,mb⟩ hfp hR'
 rw [zbi]
 (repeat' ((conv=>whnf);first|refine ⟨_,⟨rfl,trivial⟩,?_⟩|(refine zd (fun h=>?_) (fun h=>?_)<;>try (exfalso;omega))|(refine zc (fun h=>?_) (fun h=>?_)<;>try (exfalso;omega))|(refine za (fun h=>?_) (fun h=>?_)<;>(try simp only [zqa,zqb,zqc,zqd,zqe,zqf,zqg] at h))|refine pay ?_|intro _));(all_goals (conv=>whnf))
 all_goals (exact ⟨zeA a c mb (Thin.refl _) rfl⟩)
theorem zqZ (b:Nat) (S:Sto) :
 SC qy #[pS b,.int .i64 0] b S S (zmQ xV):=by
 intro key fp w hR
 refine kg [.ptr 1000 b 0,.v (.int .i64 0)] ji (by simp) hR ?_
 rintro ⟨a,c,mb⟩ hfp hR'
 rw [zbi]
 (repeat' ((conv=>whnf);first|refine ⟨_,⟨rfl,trivial⟩,?_⟩|refine zm (.v _) (fun w hR=>zoi w) ?_|(refine zd (fun h=>?_) (fun h=>?_)<;>try (exfalso;omega))|(refine zc (fun h=>?_) (fun h=>?_)<;>try (exfalso;omega))|(refine za (fun h=>?_) (fun h=>?_)<;>(try simp only [zqa,zqb,zqc,zqd,zqe,zqf,zqg] at h))|refine pay ?_|intro _));(all_goals (conv=>whnf))
 all_goals (exact ⟨zeA a c mb (.skip (Thin.refl _)) rfl⟩)
theorem zs8 (b:Nat) (S:Sto) (i:Nat) (hi:i<S.E.length) (hE:S.E.length≤1048576) :
 SC qy #[pS b,.int .i64 ((i:Int)+1)] b S S (zmQ (S.E.getD i xV)):=by
 intro key fp w hR
 refine kg [.ptr 1000 b 0,.v (.int .i64 ((i:Int)+1))] ji (by simp) hR ?_
 rintro ⟨a,c,mb⟩ hfp hR'
 rw [zbi] at hR' ⊢
 have hne:=zmD (key:=1001) hR' rfl (by omega)
 have e1:((i:Int)+1 - 1).toNat=i:=by omega
 have hat:=zkl hi
 (repeat' ((conv=>whnf);first|refine ⟨_,⟨rfl,trivial⟩,?_⟩|rw [e1]|refine ⟨zfE (S.E.getD i xV),rfl,Rd.own (key:=1001) rfl (Nat.succ_pos _) hat,?_⟩|(refine zd (fun h=>?_) (fun h=>?_)<;>try (exfalso;omega))|(refine zc (fun h=>?_) (fun h=>?_)<;>try (exfalso;omega))|(refine za (fun h=>?_) (fun h=>?_)<;>(try simp only [zqa,zqb,zqc,zqd,zqe,zqf,zqg] at h))|refine pay ?_|refine And.intro (by first|exact hne) ?_|intro _));(all_goals (conv=>whnf))
 all_goals (exact ⟨zeA a c mb (.skip (Thin.refl _)) rfl⟩)
theorem ruV_inj {r r':Rul}:qH (ruV r) (ruV r')=true↔r=r':=by
 obtain ⟨k,l,a,b,t⟩:=r
 obtain ⟨k',l',a',b',t'⟩:=r'
 simp [qH,zE]
theorem zmR (r:Rul):qm kkR (ruV r):=⟨_,rfl,⟨⟨rfl,rfl⟩,⟨rfl,rfl⟩,⟨rfl,rfl⟩,⟨rfl,rfl⟩,⟨rfl,rfl⟩,trivial⟩⟩
theorem zmS (r:Rul):∀ (E:List Entr) (i:Nat),qO (zdp i E) (ruV r)=if idx r i E=0 then none else some (.int .i64 (idx r i E))
 | [],i=>rfl
 | x :: E, i => by
   simp only [zdp,qO]
   by_cases h:r=x.r
   ·have hi:idx r i (x::E)=i+1:=if_pos h
    rw [if_pos (ruV_inj.2 h),hi,if_neg (by omega)]
   ·have hi:idx r i (x::E)=idx r (i+1) E:=if_neg h
    rw [if_neg (fun hk=>h (ruV_inj.1 hk)),hi]
    exact zmS r E (i+1)
theorem zmT (r:Rul) (u:Value):∀ (E:List Entr) (i:Nat),idx r i E=0→yF (zdp i E) (ruV r) u=zdp i E++[(ruV r,u)]
 | [],i,_=>rfl
 | x :: E, i, h => by
   simp only [idx] at h
   split at h
   ·omega
   ·rename_i hr
    simp only [zdp,yF,if_neg (fun hk=>hr (ruV_inj.1 hk)),zmT r u E (i+1) h,List.cons_append]
theorem zk1 (x:Entr):∀ (E:List Entr) (i:Nat),zdp i E++[(ruV x.r,.int .i64 ((i+E.length+1:Nat):Int))]=zdp i (E++[x])
 | [],i=>rfl
 | y :: E, i => by
   have ih:=zk1 x E (i+1)
   rw [show i+1+E.length+1=i+(y::E).length+1 by rw [List.length_cons];omega] at ih
   simp only [zdp,List.cons_append]
   rw [←ih]
def zcU (S:Sto) (r:Rul):Value :=
 if yG r S.E=0 then (if S.most≤S.E.length then .tuple #[.int .i64 0,xh 3] else .tuple #[.int .i64 0,.nilIface]) else .tuple #[.int .i64 (yG r S.E),.nilIface]
theorem ziS (b:Nat) (S:Sto) (r:Rul) :
 SC y9 #[pS b,ruV r] b S S (zcU S r):=by
 intro key fp w hR
 refine kg [.ptr 1000 b 0,.v (ruV r)] zdf (by simp) hR ?_
 rintro ⟨a,c,mb⟩ hfp hR'
 rw [zbi] at hR' ⊢
 have hm:=zmS r S.E 0
 have hk:=zmR r
 unfold zcU
 by_cases h0:yG r S.E=0
 ·rw [if_pos h0] at hm ⊢
  (repeat' ((conv=>whnf);first|refine uY hm ?_|refine ⟨.mp 1002 _,⟨rfl,rfl⟩,?_⟩|refine ⟨_,⟨rfl,trivial⟩,?_⟩|(refine zd (fun h=>?_) (fun h=>?_)<;>try (exfalso;omega))|(refine zc (fun h=>?_) (fun h=>?_)<;>try (exfalso;omega))|(refine za (fun h=>?_) (fun h=>?_)<;>(try simp only [zqa,zqb,zqc,zqd,zqe,zqf,zqg] at h))|refine pay ?_|refine And.intro (by first|exact ⟨rfl,rfl,hk⟩) ?_|intro _));(all_goals (conv=>whnf))
  ·refine ⟨zeA a c mb (.skip (Thin.refl _)) ?_⟩
   rw [if_pos (by omega)];rfl
  ·refine ⟨zeA a c mb (.skip (Thin.refl _)) ?_⟩
   rw [if_neg (by omega)]
 ·rw [if_neg h0] at hm ⊢
  (repeat' ((conv=>whnf);first|refine jN hm ?_|refine ⟨.mp 1002 _,⟨rfl,rfl⟩,?_⟩|refine ⟨_,⟨rfl,trivial⟩,?_⟩|(refine zd (fun h=>?_) (fun h=>?_)<;>try (exfalso;omega))|(refine zc (fun h=>?_) (fun h=>?_)<;>try (exfalso;omega))|(refine za (fun h=>?_) (fun h=>?_)<;>(try simp only [zqa,zqb,zqc,zqd,zqe,zqf,zqg] at h))|refine pay ?_|refine And.intro (by first|exact ⟨rfl,rfl,hk⟩) ?_|intro _));(all_goals (conv=>whnf))
  exact ⟨zeA a c mb (.skip (Thin.refl _)) rfl⟩
theorem zk2 (b:Nat) (S:Sto) (x:Entr) (hx:yG x.r S.E=0) (hE:S.E.length≤1048576) :
 SC yw #[pS b,zmQ x] b S (vi S x) (.int .i64 (S.E.length+1:Nat)):=by
 intro key fp w hR
 refine kg [.ptr 1000 b 0,.v (zmQ x)] zdN (by simp) hR ?_
 rintro ⟨a,c,mb⟩ hfp hR'
 rw [zbi] at hR' ⊢
 have hm:=zmT x.r (.int .i64 ((S.E.length+1:Nat):Int)) S.E 0 hx
 have hk:=zmR x.r
 have hs:=zk1 x S.E 0
 rw [Nat.zero_add] at hs
 rw [hs] at hm
 have hsn:=zqY S.E x
 (repeat' ((conv=>whnf);first|rw [hm]|rw [hsn]|refine ⟨.sl 1001 _ _ _,⟨rfl,rfl,rfl,rfl⟩,?_⟩|refine ⟨.mp 1002 _,⟨rfl,rfl⟩,?_⟩|refine ⟨_,⟨rfl,trivial⟩,?_⟩|(refine zd (fun h=>?_) (fun h=>?_)<;>try (exfalso;omega))|(refine zc (fun h=>?_) (fun h=>?_)<;>try (exfalso;omega))|(refine za (fun h=>?_) (fun h=>?_)<;>(try simp only [zqa,zqb,zqc,zqd,zqe,zqf,zqg] at h))|refine pay ?_|refine And.intro (by first|exact ⟨rfl,rfl,hk⟩|exact ⟨by omega,by unfold maxLen;omega⟩|exact ⟨by unfold maxLen;omega,by omega⟩) ?_|intro _));(all_goals (conv=>whnf))
 rename_i b3 b12 a' c'
 have hlen:(S.E++[x]).length=S.E.length+1:=by simp
 refine ⟨zeA a' c' mb (.skip (.skip ?_)) rfl⟩
 rw [zbi]
 simp only [hlen]
 exact Thin.refl _
theorem xP (b:Nat) (S:Sto) {n:Int} (h:known S n):SC zT #[pS b,.int .i64 n] b S S (.bool true):=by
 have c:=zg3 b S n
 rwa [decide_eq_true (by exact h)] at c
theorem jk (b:Nat) (S:Sto) {n:Int} (h:¬known S n):SC zT #[pS b,.int .i64 n] b S S (.bool false):=by
 have c:=zg3 b S n
 rwa [decide_eq_false (by exact h)] at c
theorem zaL (b:Nat) (S:Sto) {n:Int} (h:known S n) (hE:S.E.length≤1048576):SC qy #[pS b,.int .i64 n] b S S (zmQ (atE S.E n)):=by
 by_cases h0:n=0
 ·subst h0
  exact zqZ b S
 ·have h1:=h.1
  have h2:=h.2
  obtain ⟨i,rfl⟩:∃ i:Nat,n=(i:Int)+1:=⟨n.toNat - 1,by omega⟩
  rw [zb7]
  exact zs8 b S i (by omega) hE
theorem ziT {S:Sto} {r:Rul} (h:yG r S.E=0) (h1:S.most≤S.E.length):qb S r=(S,0,3):=by rw [qb,if_pos h,if_pos h1]
theorem zk3 {S:Sto} {r:Rul} (h:yG r S.E=0) (h1:¬S.most≤S.E.length):qb S r=(vi S (mkE S.E r),((S.E.length+1:Nat):Int),0):=by rw [qb,if_pos h,if_neg h1]
theorem zk4 {S:Sto} {r:Rul} (h:yG r S.E≠0):qb S r=(S,((yG r S.E:Nat):Int),0):=by rw [qb,if_neg h]
theorem ziU {S:Sto} {r:Rul} (h:yG r S.E=0) (h1:S.most≤S.E.length):zcU S r=.tuple #[.int .i64 0,xh 3]:=by rw [zcU,if_pos h,if_pos h1]
theorem zk5 {S:Sto} {r:Rul} (h:yG r S.E=0) (h1:¬S.most≤S.E.length):zcU S r=.tuple #[.int .i64 0,.nilIface]:=by rw [zcU,if_pos h,if_neg h1]
theorem zk6 {S:Sto} {r:Rul} (h:yG r S.E≠0):zcU S r=.tuple #[.int .i64 (yG r S.E:Nat),.nilIface]:=by rw [zcU,if_neg h]
theorem zmU (b:Nat) (S:Sto) (l:Nat) (hl:l<256) (hE:S.E.length≤1048576):SC xN #[pS b,.int .u8 l] b S (qb S (zdo l)).1 (zs7 (qb S (zdo l)).2):=by
 intro key fp w hR
 refine zz [.v (pS b),.v (.int .u8 l)] zb3 (by simp) (hR.key 77) ?_
 have c1:=ziS b S (zdo l)
 have c3:=zlA l hl
 by_cases h0:yG (zdo l) S.E=0
 ·by_cases h1:S.most≤S.E.length
  ·rw [ziU h0 h1] at c1
   rw [ziT h0 h1]
   (repeat' ((conv=>whnf);first|refine SC.go 77 c1 rfl fun fp'=>?_|(refine zd (fun h=>?_) (fun h=>?_)<;>try (exfalso;omega))|(refine zc (fun h=>?_) (fun h=>?_)<;>try (exfalso;omega))|(refine za (fun h=>?_) (fun h=>?_)<;>(try simp only [zqa,zqb,zqc,zqd,zqe,zqf,zqg] at h))|refine pay ?_|intro _));(all_goals (conv=>whnf))
   exact ⟨uL (by (repeat (first|exact Thin.nil _|exact Thin.refl _|refine Thin.keep rfl (fun _ h=>h) ?_|refine Thin.skip ?_))) rfl⟩
  ·rw [zk5 h0 h1] at c1
   rw [zk3 h0 h1]
   have c2:=zk2 b S (mkE S.E (zdo l)) h0 hE
   (repeat' ((conv=>whnf);first|refine SC.go 77 c1 rfl fun fp'=>?_|refine SC.go 77 c2 rfl fun fp'=>?_|(refine y7 (.v _) (fun w hR=>c3 w) ?_)|(refine zd (fun h=>?_) (fun h=>?_)<;>try (exfalso;omega))|(refine zc (fun h=>?_) (fun h=>?_)<;>try (exfalso;omega))|(refine za (fun h=>?_) (fun h=>?_)<;>(try simp only [zqa,zqb,zqc,zqd,zqe,zqf,zqg] at h))|refine pay ?_|intro _));(all_goals (conv=>whnf))
   exact ⟨uL (by (repeat (first|exact Thin.nil _|exact Thin.refl _|refine Thin.keep rfl (fun _ h=>h) ?_|refine Thin.skip ?_))) rfl⟩
 ·rw [zk6 h0] at c1
  rw [zk4 h0]
  (repeat' ((conv=>whnf);first|refine SC.go 77 c1 rfl fun fp'=>?_|(refine zd (fun h=>?_) (fun h=>?_)<;>try (exfalso;omega))|(refine zc (fun h=>?_) (fun h=>?_)<;>try (exfalso;omega))|(refine za (fun h=>?_) (fun h=>?_)<;>(try simp only [zqa,zqb,zqc,zqd,zqe,zqf,zqg] at h))|refine pay ?_|intro _));(all_goals (conv=>whnf))
  exact ⟨uL (by (repeat (first|exact Thin.nil _|exact Thin.refl _|refine Thin.keep rfl (fun _ h=>h) ?_|refine Thin.skip ?_))) rfl⟩
theorem zwE {a b:Bool} {p q:Nat} (ha:a=true) (hb:b=true) (h:-1≤(p:Int) - (q:Int)):decide ((p:Int) - (q:Int)≤1)=(a&&b&&decide (p≤q+1)&&decide (q≤p+1)):=by
 subst ha hb
 rw [decide_eq_true (p:=q≤p+1) (by omega),Bool.and_true,Bool.true_and,Bool.true_and,decide_eq_decide]
 omega
theorem zwF {a b:Bool} {p q:Nat} (h:¬-1≤(p:Int) - (q:Int)):false=(a&&b&&decide (p≤q+1)&&decide (q≤p+1)):=by
 rw [decide_eq_false (p:=q≤p+1) (by omega),Bool.and_false]
theorem zwG {a b:Bool} {p q:Nat} (h:b=false):false=(a&&b&&decide (p≤q+1)&&decide (q≤p+1)):=by
 subst h;simp
theorem zwH {a b:Bool} {p q:Nat} (h:a=false):false=(a&&b&&decide (p≤q+1)&&decide (q≤p+1)):=by
 subst h;simp
theorem zmV (b:Nat) (S:Sto) (i j:Int) (hi:known S i) (hj:known S j) (hi0:i≠0) (hj0:j≠0) (hE:S.E.length≤1048576) (hl:(tm S.E i).len+(tm S.E j).len≤LM) (hd:(tm S.E i).dep≤1048576) (hd':(tm S.E j).dep≤1048576) :
 SC xd #[pS b,.int .i64 i,.int .i64 j] b S (qb S (vj i j)).1 (zs7 (qb S (vj i j)).2):=by
 intro key fp w hR
 refine zz [.v (pS b),.v (.int .i64 i),.v (.int .i64 j)] yd (by simp) (hR.key 77) ?_
 have c1:=ziS b S (vj i j)
 have c3:=xP b S hi
 have c4:=xP b S hj
 have c5:=zaL b S hi hE
 have c6:=zaL b S hj hE
 have hpe:mkE S.E (vj i j)=⟨vj i j,.pr (tm S.E i) (tm S.E j)⟩:=rfl
 unfold tm at *
 generalize atE S.E i=x at *
 generalize atE S.E j=y at *
 unfold Tm.len at hl
 have c7:=zey x.m.txt.length y.m.txt.length (by omega) (by omega)
 rw [show zmL x.m.txt.length y.m.txt.length=.tuple #[.int .i64 ((x.m.txt.length+y.m.txt.length:Nat):Int),.nilIface] from if_pos hl] at c7
 have c8:=zoj x.m.txt y.m.txt hl
 by_cases h0:yG (vj i j) S.E=0
 ·by_cases h1:S.most≤S.E.length
  ·rw [ziU h0 h1] at c1
   rw [ziT h0 h1]
   (repeat' ((conv=>whnf);first|refine SC.go 77 c1 rfl fun fp'=>?_|refine SC.go 77 c3 rfl fun fp'=>?_|refine SC.go 77 c4 rfl fun fp'=>?_|refine SC.go 77 c5 rfl fun fp'=>?_|refine SC.go 77 c6 rfl fun fp'=>?_|(first|refine puK c7 ?_|refine quK c7 ?_)|(refine zd (fun h=>?_) (fun h=>?_)<;>try (exfalso;omega))|(refine zc (fun h=>?_) (fun h=>?_)<;>try (exfalso;omega))|(refine za (fun h=>?_) (fun h=>?_)<;>(try simp only [zqa,zqb,zqc,zqd,zqe,zqf,zqg] at h))|refine pay ?_|intro _));(all_goals (conv=>whnf))
   exact ⟨uL (by (repeat (first|exact Thin.nil _|exact Thin.refl _|refine Thin.keep rfl (fun _ h=>h) ?_|refine Thin.skip ?_))) rfl⟩
  ·rw [zk5 h0 h1] at c1
   rw [zk3 h0 h1,hpe]
   have c2:∀ (d':Int) (e':Bool),d'=((1+max x.m.dep y.m.dep:Nat):Int)→e'=(x.m.evn&&y.m.evn&&decide (x.m.dep≤y.m.dep+1)&&decide (y.m.dep≤x.m.dep+1))→SC yw #[pS b,.agg #[.int .i64 2,.int .u8 0,.int .i64 i,.int .i64 j,.int .i64 0,.int .i64 (x.m.txt++y.m.txt).length,.int .i64 (zN (x.m.txt++y.m.txt)),.int .i64 (yA (x.m.txt++y.m.txt)),.int .i64 (qU (x.m.txt++y.m.txt)),.int .u64 (vh (x.m.txt++y.m.txt)),.int .u64 (yx (x.m.txt++y.m.txt)),.int .i64 d',.bool e']] b S (vi S ⟨vj i j,.pr x.m y.m⟩) (.int .i64 (S.E.length+1:Nat)):=fun d' e' h1 h2=>by subst h1 h2;exact zk2 b S ⟨vj i j,.pr x.m y.m⟩ h0 hE
   (repeat' ((conv=>whnf);first|refine SC.go 77 c1 rfl fun fp'=>?_|(refine yo (key:=77) rfl (fun w hR h0=>c2 _ _ (by omega) (by first|exact zwE (by assumption) (by assumption) (by assumption)|exact zwF (by assumption)|exact zwG (by assumption)|exact zwH (by assumption)) _ _ _ h0) ?_;rintro _ _ ⟨rfl,fp',rfl⟩;refine ⟨.v _,rfl,?_⟩)|refine SC.go 77 c3 rfl fun fp'=>?_|refine SC.go 77 c4 rfl fun fp'=>?_|refine SC.go 77 c5 rfl fun fp'=>?_|refine SC.go 77 c6 rfl fun fp'=>?_|(first|refine puK c7 ?_|refine quK c7 ?_)|(first|refine puK c8 ?_|refine quK c8 ?_)|(refine zd (fun h=>?_) (fun h=>?_)<;>try (exfalso;omega))|(refine zc (fun h=>?_) (fun h=>?_)<;>try (exfalso;omega))|(refine za (fun h=>?_) (fun h=>?_)<;>(try simp only [zqa,zqb,zqc,zqd,zqe,zqf,zqg] at h))|refine pay ?_|intro _));(all_goals (conv=>whnf))
   all_goals (exact ⟨uL (by (repeat (first|exact Thin.nil _|exact Thin.refl _|refine Thin.keep rfl (fun _ h=>h) ?_|refine Thin.skip ?_))) rfl⟩)
 ·rw [zk6 h0] at c1
  rw [zk4 h0]
  (repeat' ((conv=>whnf);first|refine SC.go 77 c1 rfl fun fp'=>?_|refine SC.go 77 c3 rfl fun fp'=>?_|refine SC.go 77 c4 rfl fun fp'=>?_|refine SC.go 77 c5 rfl fun fp'=>?_|refine SC.go 77 c6 rfl fun fp'=>?_|(first|refine puK c7 ?_|refine quK c7 ?_)|(refine zd (fun h=>?_) (fun h=>?_)<;>try (exfalso;omega))|(refine zc (fun h=>?_) (fun h=>?_)<;>try (exfalso;omega))|(refine za (fun h=>?_) (fun h=>?_)<;>(try simp only [zqa,zqb,zqc,zqd,zqe,zqf,zqg] at h))|refine pay ?_|intro _));(all_goals (conv=>whnf))
  exact ⟨uL (by (repeat (first|exact Thin.nil _|exact Thin.refl _|refine Thin.keep rfl (fun _ h=>h) ?_|refine Thin.skip ?_))) rfl⟩
theorem zpQ (b:Nat) (S:Sto) (hw:WF S) (i j:Int):SC xd #[pS b,.int .i64 i,.int .i64 j] b S (zaJ S i j).1 (zs7 (zaJ S i j).2):=by
 unfold zaJ
 have hE:=hw.small
 by_cases hu:¬known S i∨¬known S j
 ·rw [if_pos hu]
  intro key fp w hR
  refine zz [.v (pS b),.v (.int .i64 i),.v (.int .i64 j)] yd (by simp) (hR.key 77) ?_
  by_cases hi:known S i
  ·have c1:=xP b S hi
   have c2:=jk b S (by rcases hu with h|h;exact absurd hi h;exact h)
   (repeat' ((conv=>whnf);first|refine SC.go 77 c1 rfl fun fp'=>?_|refine SC.go 77 c2 rfl fun fp'=>?_|(refine zd (fun h=>?_) (fun h=>?_)<;>try (exfalso;omega))|(refine zc (fun h=>?_) (fun h=>?_)<;>try (exfalso;omega))|(refine za (fun h=>?_) (fun h=>?_)<;>(try simp only [zqa,zqb,zqc,zqd,zqe,zqf,zqg] at h))|refine pay ?_|intro _));(all_goals (conv=>whnf))
   exact ⟨uL (by (repeat (first|exact Thin.nil _|exact Thin.refl _|refine Thin.keep rfl (fun _ h=>h) ?_|refine Thin.skip ?_))) rfl⟩
  ·have c1:=jk b S hi
   (repeat' ((conv=>whnf);first|refine SC.go 77 c1 rfl fun fp'=>?_|(refine zd (fun h=>?_) (fun h=>?_)<;>try (exfalso;omega))|(refine zc (fun h=>?_) (fun h=>?_)<;>try (exfalso;omega))|(refine za (fun h=>?_) (fun h=>?_)<;>(try simp only [zqa,zqb,zqc,zqd,zqe,zqf,zqg] at h))|refine pay ?_|intro _));(all_goals (conv=>whnf))
   exact ⟨uL (by (repeat (first|exact Thin.nil _|exact Thin.refl _|refine Thin.keep rfl (fun _ h=>h) ?_|refine Thin.skip ?_))) rfl⟩
 ·rw [if_neg hu]
  have hi:known S i:=Decidable.byContradiction fun h=>hu (.inl h)
  have hj:known S j:=Decidable.byContradiction fun h=>hu (.inr h)
  have c1:=xP b S hi
  have c2:=xP b S hj
  by_cases hi0:i=0
  ·rw [if_pos hi0]
   intro key fp w hR
   refine zz [.v (pS b),.v (.int .i64 i),.v (.int .i64 j)] yd (by simp) (hR.key 77) ?_
   (repeat' ((conv=>whnf);first|refine SC.go 77 c1 rfl fun fp'=>?_|refine SC.go 77 c2 rfl fun fp'=>?_|(refine zd (fun h=>?_) (fun h=>?_)<;>try (exfalso;omega))|(refine zc (fun h=>?_) (fun h=>?_)<;>try (exfalso;omega))|(refine za (fun h=>?_) (fun h=>?_)<;>(try simp only [zqa,zqb,zqc,zqd,zqe,zqf,zqg] at h))|refine pay ?_|intro _));(all_goals (conv=>whnf))
   exact ⟨uL (by (repeat (first|exact Thin.nil _|exact Thin.refl _|refine Thin.keep rfl (fun _ h=>h) ?_|refine Thin.skip ?_))) rfl⟩
  ·rw [if_neg hi0]
   by_cases hj0:j=0
   ·rw [if_pos hj0]
    intro key fp w hR
    refine zz [.v (pS b),.v (.int .i64 i),.v (.int .i64 j)] yd (by simp) (hR.key 77) ?_
    (repeat' ((conv=>whnf);first|refine SC.go 77 c1 rfl fun fp'=>?_|refine SC.go 77 c2 rfl fun fp'=>?_|(refine zd (fun h=>?_) (fun h=>?_)<;>try (exfalso;omega))|(refine zc (fun h=>?_) (fun h=>?_)<;>try (exfalso;omega))|(refine za (fun h=>?_) (fun h=>?_)<;>(try simp only [zqa,zqb,zqc,zqd,zqe,zqf,zqg] at h))|refine pay ?_|intro _));(all_goals (conv=>whnf))
    exact ⟨uL (by (repeat (first|exact Thin.nil _|exact Thin.refl _|refine Thin.keep rfl (fun _ h=>h) ?_|refine Thin.skip ?_))) rfl⟩
   ·rw [if_neg hj0]
    by_cases hl:LM<(tm S.E i).len+(tm S.E j).len
    ·rw [if_pos hl]
     intro key fp w hR
     refine zz [.v (pS b),.v (.int .i64 i),.v (.int .i64 j)] yd (by simp) (hR.key 77) ?_
     have c5:=zaL b S hi hE
     have c6:=zaL b S hj hE
     have l1:=hw.le hi.2
     have l2:=hw.le hj.2
     unfold tm at *
     generalize atE S.E i=x at *
     generalize atE S.E j=y at *
     unfold Tm.len at hl l1 l2
     have c7:=zey x.m.txt.length y.m.txt.length l1 l2
     rw [show zmL x.m.txt.length y.m.txt.length=.tuple #[.int .i64 0,xh 2] from if_neg (by omega)] at c7
     (repeat' ((conv=>whnf);first|refine SC.go 77 c1 rfl fun fp'=>?_|refine SC.go 77 c2 rfl fun fp'=>?_|refine SC.go 77 c5 rfl fun fp'=>?_|refine SC.go 77 c6 rfl fun fp'=>?_|(first|refine puK c7 ?_|refine quK c7 ?_)|(refine zd (fun h=>?_) (fun h=>?_)<;>try (exfalso;omega))|(refine zc (fun h=>?_) (fun h=>?_)<;>try (exfalso;omega))|(refine za (fun h=>?_) (fun h=>?_)<;>(try simp only [zqa,zqb,zqc,zqd,zqe,zqf,zqg] at h))|refine pay ?_|intro _));(all_goals (conv=>whnf))
     exact ⟨uL (by (repeat (first|exact Thin.nil _|exact Thin.refl _|refine Thin.keep rfl (fun _ h=>h) ?_|refine Thin.skip ?_))) rfl⟩
    ·rw [if_neg hl]
     exact zmV b S i j hi hj hi0 hj0 hE (by omega) (hw.dep hi.2) (hw.dep hj.2)
end Go.Proofs.YtjmlialibdobpaaGreatDoor
namespace Go.Proofs.YtjmlialibdobpaaGreatDoor
open Go.EG
set_option linter.unusedSimpArgs false
set_option linter.unusedVariables false
def zkm:Rul:=⟨0,0,0,0,0⟩
def mAt (ms:List Tm) (n:Int):Tm:=if n≤0 then .nil else ms.getD (n.toNat - 1) .nil
structure Rel (S:Sto) (to:List Int) (ms:List Tm):Prop where
 len:to.length=ms.length+1
 zero:to.getD 0 0=0
 at_:∀ i:Nat,1≤i→i≤ms.length→1≤to.getD i 0∧to.getD i 0≤S.E.length∧tm S.E (to.getD i 0)=mAt ms i
end Go.Proofs.YtjmlialibdobpaaGreatDoor
namespace Go.Proofs.YtjmlialibdobpaaGreatDoor
open Go.EG
attribute [local irreducible] zP yj Go.Calls
set_option linter.unusedSimpArgs false
set_option linter.unusedVariables false
set_option maxRecDepth 20000
def zpR (S:Sto) (n:Int):Value:=if 1≤n∧n≤S.E.length then .tuple #[ruV (atE S.E n).r,.nilIface] else .tuple #[ruV zkm,xh 1]
theorem zhy {S:Sto} {n:Int} (h:1≤n) (h':n≤S.E.length):zpR S n=.tuple #[ruV (atE S.E n).r,.nilIface]:=if_pos ⟨h,h'⟩
theorem zq0 {E:List Entr} {i:Nat} (h:i<E.length):((zb9 E).drop (i*13)).take 5=ruC (E.getD i xV).r:=by
 have:=congrArg (List.take 5) (zkl h)
 rw [List.take_take] at this
 exact this
theorem ziV (b:Nat) (S:Sto) (n:Int) (hE:S.E.length≤1048576):SC xe #[pS b,.int .i64 n] b S S (zpR S n):=by
 intro key fp w hR
 refine zz [.ptr 1000 b 0,.v (.int .i64 n)] zdk (by simp) (hR.key 77) ?_
 by_cases hn:1≤n∧n≤S.E.length
 ·rw [zhy hn.1 hn.2]
  have c1:=xP b S (n:=n) ⟨by omega,by omega⟩
  obtain ⟨i,rfl⟩:∃ i:Nat,n=(i:Int)+1:=⟨n.toNat - 1,by omega⟩
  rw [zb7]
  have e1:((i:Int)+1 - 1).toNat=i:=by omega
  have hat:=zq0 (E:=S.E) (i:=i) (by omega)
  (repeat' ((conv=>whnf);first|(refine zob (key:=77) rfl (fun w hR h0=>c1 _ _ _ h0) ?_;rintro ⟨a',c',mb'⟩ w' hRu;rw [zbi];refine ⟨.v _,rfl,?_⟩)|rw [e1]|refine ⟨ruC (S.E.getD i xV).r,rfl,Rd.own (key:=1001) rfl (Nat.succ_pos _) hat,?_⟩|refine ⟨_,⟨rfl,trivial⟩,?_⟩|(refine zd (fun h=>?_) (fun h=>?_)<;>try (exfalso;omega))|(refine zc (fun h=>?_) (fun h=>?_)<;>try (exfalso;omega))|(refine za (fun h=>?_) (fun h=>?_)<;>(try simp only [zqa,zqb,zqc,zqd,zqe,zqf,zqg] at h))|refine pay ?_|refine And.intro (by first|exact zmD (key:=1001) hRu rfl (by omega)) ?_|intro _));(all_goals (conv=>whnf))
  exact ⟨zeA _ _ _ (by (repeat (first|exact Thin.nil _|exact Thin.refl _|refine Thin.keep rfl (fun _ h=>h) ?_|refine Thin.skip ?_))) rfl⟩
 ·rw [show zpR S n=.tuple #[ruV zkm,xh 1] from if_neg hn]
  by_cases h0:n=0
  ·(repeat' ((conv=>whnf);first|(refine zd (fun h=>?_) (fun h=>?_)<;>try (exfalso;omega))|(refine zc (fun h=>?_) (fun h=>?_)<;>try (exfalso;omega))|(refine za (fun h=>?_) (fun h=>?_)<;>(try simp only [zqa,zqb,zqc,zqd,zqe,zqf,zqg] at h))|refine pay ?_|intro _));(all_goals (conv=>whnf))
   exact ⟨uL (by (repeat (first|exact Thin.nil _|exact Thin.refl _|refine Thin.keep rfl (fun _ h=>h) ?_|refine Thin.skip ?_))) rfl⟩
  ·have c1:=jk b S (n:=n) (fun h=>by have:=h.1;have:=h.2;omega)
   (repeat' ((conv=>whnf);first|refine SC.go 77 c1 rfl fun fp'=>?_|(refine zd (fun h=>?_) (fun h=>?_)<;>try (exfalso;omega))|(refine zc (fun h=>?_) (fun h=>?_)<;>try (exfalso;omega))|(refine za (fun h=>?_) (fun h=>?_)<;>(try simp only [zqa,zqb,zqc,zqd,zqe,zqf,zqg] at h))|refine pay ?_|intro _));(all_goals (conv=>whnf))
   exact ⟨uL (by (repeat (first|exact Thin.nil _|exact Thin.refl _|refine Thin.keep rfl (fun _ h=>h) ?_|refine Thin.skip ?_))) rfl⟩
def zwX (key:Nat) (S:Sto) (v:Value) (L1:List Ent):Prop:=∃ b fp',v=pS b∧L1=[packE key fp' (fS b S)]
def ziW (m:Int):Nat:=(if m<0 then 0 else if m>1048576 then 1048576 else m).toNat
theorem zq1 (m:Int) (key:Nat) (w:World):Calls Tryz.prog zaT #[.int .i64 m] w fun e w'=>∃ v L1,e=.returned v∧R w [] L1 w'∧zwX key ⟨ziW m,[]⟩ v L1:=by
 refine zV [.v (.int .i64 m)] zlw (by simp) ?_
 have c1:=zof m 0 1048576
 have e1:(if m<0 then 0 else if m>1048576 then 1048576 else m)=((ziW m:Nat):Int):=by unfold ziW;split;rfl;split<;>omega
 rw [e1] at c1
 (repeat' ((conv=>whnf);first|(first|refine puK c1 ?_|refine quK c1 ?_)|(refine zd (fun h=>?_) (fun h=>?_)<;>try (exfalso;omega))|(refine zc (fun h=>?_) (fun h=>?_)<;>try (exfalso;omega))|(refine za (fun h=>?_) (fun h=>?_)<;>(try simp only [zqa,zqb,zqc,zqd,zqe,zqf,zqg] at h))|refine pay ?_|intro _));(all_goals (conv=>whnf))
 rename_i mb b
 exact ⟨⟨_,(Ref.ownNil 1001 qI 13).trans ((Ref.perm (.swap _ _ _)).trans (Ref.pack (key:=key) (f:=fS b ⟨ziW m,[]⟩) (none,0,mb) (by rw [zbi];exact .keep rfl (fun _ h=>h) (.keep rfl (fun _ h=>h) (.keep rfl (fun _ h=>h) (.nil _)))))),_,_,rfl,rfl⟩⟩
theorem zaB {k:IntKind} {xs:List Int} {j:Nat} {z:Int} (h:j<xs.length):zr (zo k xs) j [.int k z]=zo k (xs.set j z):=by
 unfold zr zo
 rw [List.set_eq_take_append_cons_drop,if_pos h]
 simp
theorem jl (m:Nat):(List.replicate m [Value.int .i64 0]).flatten=zo .i64 (List.replicate m 0):=by
 induction m with
 | zero=>rfl
 | succ m ih=>rw [List.replicate_succ,List.replicate_succ,List.flatten_cons,ih];rfl
structure ImpG where
 i:Nat
 S:Sto
 to:List Int
 fp:List Nat
structure Gram (g:List Rul):Prop where
 rul:∀ i,i<g.length→okR (g.getD i zkm) (i+1)
 let_:∀ i,i<g.length→0≤(g.getD i zkm).l∧(g.getD i zkm).l<256
 tim:∀ i,i<g.length→(g.getD i zkm).t≤9223372036854775807
set_option maxHeartbeats 1000000
end Go.Proofs.YtjmlialibdobpaaGreatDoor
namespace Go.Proofs.YtjmlialibdobpaaGreatDoor
open Go.EG
set_option linter.unusedVariables false
end Go.Proofs.YtjmlialibdobpaaGreatDoor
namespace Go.Proofs.YtjmlialibdobpaaGreatDoor
open Go.EG
attribute [local irreducible] zP yj Go.Calls
set_option linter.unusedSimpArgs false
set_option linter.unusedVariables false
set_option maxRecDepth 20000
set_option maxHeartbeats 1000000
abbrev wt0:Value:=.agg #[.int .i64 0,.int .i64 0,.int .i64 0,.int .i64 0,.int .u64 0,.int .u64 0]
def zpS (S:Sto) (n:Int):Value:=if known S n then .tuple #[wtV (tm S.E n).txt,.nilIface] else .tuple #[wt0,xh 1]
theorem zeB {S:Sto} {n:Int} (h:known S n):zpS S n=.tuple #[wtV (tm S.E n).txt,.nilIface]:=if_pos h
theorem uD (b:Nat) (S:Sto) (n:Int) (hE:S.E.length≤1048576):SC qr #[pS b,.int .i64 n] b S S (zpS S n):=by
 intro key fp w hR
 refine zz [.v (pS b),.v (.int .i64 n)] zb6 (by simp) (hR.key 77) ?_
 unfold zpS
 by_cases h:known S n
 ·rw [if_pos h]
  have c1:=xP b S h
  have c2:=zaL b S h hE
  unfold tm
  generalize atE S.E n=x at *
  (repeat' ((conv=>whnf);first|refine SC.go 77 c1 rfl fun fp'=>?_|refine SC.go 77 c2 rfl fun fp'=>?_|(refine zd (fun h=>?_) (fun h=>?_)<;>try (exfalso;omega))|(refine zc (fun h=>?_) (fun h=>?_)<;>try (exfalso;omega))|(refine za (fun h=>?_) (fun h=>?_)<;>(try simp only [zqa,zqb,zqc,zqd,zqe,zqf,zqg] at h))|refine pay ?_|refine And.intro (by first|exact Nat.le_of_ble_eq_true rfl) ?_|intro _));(all_goals (conv=>whnf))
  exact ⟨uL (by (repeat (first|exact Thin.nil _|exact Thin.refl _|refine Thin.keep rfl (fun _ h=>h) ?_|refine Thin.skip ?_))) rfl⟩
 ·rw [if_neg h]
  have c1:=jk b S h
  (repeat' ((conv=>whnf);first|refine SC.go 77 c1 rfl fun fp'=>?_|(refine zd (fun h=>?_) (fun h=>?_)<;>try (exfalso;omega))|(refine zc (fun h=>?_) (fun h=>?_)<;>try (exfalso;omega))|(refine za (fun h=>?_) (fun h=>?_)<;>(try simp only [zqa,zqb,zqc,zqd,zqe,zqf,zqg] at h))|refine pay ?_|intro _));(all_goals (conv=>whnf))
  exact ⟨uL (by (repeat (first|exact Thin.nil _|exact Thin.refl _|refine Thin.keep rfl (fun _ h=>h) ?_|refine Thin.skip ?_))) rfl⟩
def zca (i n len:Int):Value:=if 0≤i∧0≤n∧i≤len∧n≤len - i then .nilIface else xh 1
theorem zfF (i n:Int) (len:Nat) (hl:len≤LM) (w:World):Calls Tryz.prog vF #[.int .i64 i,.int .i64 n,.int .i64 len] w fun e w'=>e=.returned (zca i n len)∧Ext w w':=by
 refine zx [.v (.int .i64 i),.v (.int .i64 n),.v (.int .i64 len)] w ziL (by simp) ?_
 have c1:=jj len
 unfold LM at hl
 rw [decide_eq_true (by omega)] at c1
 unfold zca
 (repeat' ((conv=>whnf);first|(first|refine puK c1 ?_|refine quK c1 ?_)|(refine zd (fun h=>?_) (fun h=>?_)<;>try (exfalso;omega))|(refine zc (fun h=>?_) (fun h=>?_)<;>try (exfalso;omega))|(refine za (fun h=>?_) (fun h=>?_)<;>(try simp only [zqa,zqb,zqc,zqd,zqe,zqf,zqg] at h))|refine pay ?_|intro _));(all_goals (conv=>whnf))
 all_goals (refine ⟨?_⟩;first|(rw [if_pos (by omega)]<;>exact rfl)|(rw [if_neg (by omega)]<;>exact rfl))
end Go.Proofs.YtjmlialibdobpaaGreatDoor
namespace Go.EG
set_option linter.unusedVariables false
def Ent.key:Ent→Nat
 | .own k ..=>k
 | .box k ..=>k
 | .abs k ..=>k
 | .mapE k ..=>k
def zl3 (key:Nat):List Ent→Option (Ent × List Ent)
 | []=>none
 | e::L=>if e.key=key then some (e,L) else (zl3 key L).map fun p=>(p.1,e::p.2)
def zcV:List Nat→List Ent→Option (List Ent × List Ent)
 | [],L=>some ([],L)
 | k::ks,L=>(zl3 k L).bind fun q=>(zcV ks q.2).map fun p=>(q.1::p.1,p.2)
theorem ziX {key:Nat}:∀ {L:List Ent} {e:Ent} {Lr:List Ent},zl3 key L=some (e,Lr)→L.Perm (e::Lr)
 | [],_,_,h=>by cases h
 | e0 :: L, e, Lr, h => by
   simp only [zl3] at h
   split at h
   ·simp only [Option.some.injEq,Prod.mk.injEq] at h
    rw [h.1,h.2]
   ·obtain ⟨p,hp,h⟩:=Option.map_eq_some_iff.1 h
    simp only [Prod.mk.injEq] at h
    obtain ⟨rfl,rfl⟩:=h
    exact ((ziX hp).cons e0).trans (.swap _ _ _)
theorem uc:∀ {ks:List Nat} {L L0 Lr:List Ent},zcV ks L=some (L0,Lr)→L.Perm (L0++Lr)
 | [], L, L0, Lr, h => by
   simp only [zcV,Option.some.injEq,Prod.mk.injEq] at h
   obtain ⟨rfl,rfl⟩:=h
   exact .refl _
 | k :: ks, L, L0, Lr, h => by
   simp only [zcV] at h
   obtain ⟨q,hq,h⟩:=Option.bind_eq_some_iff.1 h
   obtain ⟨p,hp,h⟩:=Option.map_eq_some_iff.1 h
   simp only [Prod.mk.injEq] at h
   obtain ⟨rfl,rfl⟩:=h
   exact (ziX hq).trans ((uc hp).cons _)
section
variable {P:Program} {w0 w:World} {fp0:List Nat} {L:List Ent}
theorem zL {f:FuncId} {args:List Value} {k:SV→List Ent→Prop} (ks:List Nat) {L0 Lr:List Ent} {Q:Value→List Ent→Prop} (hp:zcV ks L=some (L0,Lr))
 (h:∀ w,R w0 fp0 (L0++Lr) w→R w (fps L0) L0 w→Calls P f args.toArray w fun e w'=>∃ v L1,e=.returned v∧R w (fps L0) L1 w'∧Q v L1)
 (hk:∀ v L1,Q v L1→∃ s:SV,s.val=v∧k s (L1++Lr)):zP P w0 fp0 f args L k :=
 zbg (uc hp) h hk
theorem Ref.take (ks:List Nat) {L0 Lr:List Ent} (h:zcV ks L=some (L0,Lr)):Ref w0 fp0 L L0 :=
 (Ref.perm (uc h)).trans (Ref.sub (List.sublist_append_left _ _))
theorem Ref.takes (ks:List Nat) {L0 Lr L1:List Ent} (h:zcV ks L=some (L0,Lr)) (k:Thin L0 L1):Ref w0 fp0 L L1:=(Ref.take ks h).trans k.ref
theorem zk7 (a:Option Addr) (c sz:Nat):ja a c 0 sz=a:=by
 unfold ja
 split
 ·rfl
 ·cases a with
  | none=>rfl
  | some x=>simp [Addr.add]
theorem In.castL {L0 Lr:List Ent} {a:Option Addr} {xs:List Value} (h:In w0 fp0 a xs) (hR:R w0 fp0 (L0++Lr) w):In w (fps L0) a xs :=
 h.cast hR fun b hb=>by
  unfold fps at hb ⊢
  rw [List.flatMap_append]
  exact List.mem_append_left _ hb
theorem In.besideL {key:Nat} {L0 Lr:List Ent} {a:Option Addr} {n c T sz:Nat} {xs:List Value} (hR:R w0 fp0 (L0++Lr) w) (h:zG key Lr=some ⟨a,n,c,T,sz,xs⟩):In w (fps L0) a xs:=by
 have hR2:R w0 fp0 (.abs 0 (fps L0) (fun w=>∀ e∈L0,e.ok w)::Lr) w:=by
  refine ⟨hR.os,hR.tape,hR.output,hR.drawn,hR.size,hR.old,?_,?_,?_⟩
  ·have:=hR.nodup
   simpa [fps,Ent.fp] using this
  ·have:=hR.range
   simpa [fps,Ent.fp] using this
  ·intro e he
   rw [List.mem_cons] at he
   rcases he with rfl|he
   ·exact fun w' hs e he=>Ent.ok_same (hR.ok e (List.mem_append_left _ he)) fun b hb=>hs b (List.mem_flatMap.2 ⟨e,he,hb⟩)
   ·exact hR.ok e (List.mem_append_right _ he)
 exact In.beside hR2 h
theorem zdT {k:IntKind}:∀ (xs:List Int),yu (zo k xs)
 | []=>trivial
 | x::xs=>⟨trivial,zdT xs⟩
theorem In.besideRo {key n c:Nat} {L0 Lr:List Ent} {a:Option Addr} {xs:List Value} (hR:R w0 fp0 (L0++Lr) w) (hm:Ent.abs key (Value.slice a n c).ownBlock.toList (zhi a xs)∈Lr):In w (fps L0) a xs:=by
 by_cases hx:xs=[]
 ·exact .inl hx
 ·have hro:=Ent.abs_ok (hR.ok _ (List.mem_append_right L0 hm))
  have hpos:0<xs.length:=List.length_pos_iff.2 hx
  obtain ⟨g,ha,hc⟩:=hro 0 _ (List.getElem?_eq_getElem hpos)
  refine .inr ⟨g,0,ha,?_,fun hg=>?_,fun j v hv=>?_⟩
  ·unfold World.cell? at hc
   rcases Nat.lt_or_ge g w.heap.size with h|h
   ·exact h
   ·rw [Array.getElem?_eq_none h] at hc
    simp at hc
  ·have hnd:=hR.nodup
   rw [yJ] at hnd
   refine (List.nodup_append.1 hnd).2.2 g hg g ?_ rfl
   exact List.mem_flatMap.2 ⟨_,hm,by simp [Ent.fp,ha,Value.ownBlock]⟩
  ·obtain ⟨g',ha',hc'⟩:=hro j v hv
   rw [ha] at ha'
   simp only [Option.some.injEq,Addr.mk.injEq,and_true] at ha'
   subst ha'
   rw [Nat.zero_add]
   exact hc'
end
end Go.EG
