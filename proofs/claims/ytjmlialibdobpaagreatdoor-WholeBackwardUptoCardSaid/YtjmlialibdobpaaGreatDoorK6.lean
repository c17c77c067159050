/- Machines, runs and effects. Plain Lean: no program in sight. -/
import Derived.Test.YtjmlialibdobpaaGreatDoorK4
import Derived.Test.YtjmlialibdobpaaGreatDoorK5
set_option linter.unusedSectionVars false
set_option linter.unusedVariables false
set_option linter.unusedSimpArgs false
namespace Go.Proofs.YtjmlialibdobpaaGreatDoor
section
open Go.EG
structure Mch where
 start:Int
 cls:List Int
 nx:List (List Int)
 acc:List Bool
structure MOk (M:Mch) (k:Nat):Prop where
 cls:M.cls.length=256
 pos:0<M.nx.length
 most:M.nx.length<=256
 acc:M.acc.length=M.nx.length
 start:0<=M.start/\M.start<M.nx.length
 k1:1<=k/\k<=256
 row:∀ r∈M.nx,r.length=k/\∀ q∈r,0<=q/\q<M.nx.length
 letter:∀ c∈M.cls,0<=c/\c<k
def BY:Nat:=1152921504606846977
def stp (M:Mch) (q b:Nat):Nat:=((M.nx.getD q []).getD (M.cls.getD b 0).toNat 0).toNat
def zA (M:Mch):Nat->List Nat->Nat
 | q,[]=>q
 | q,b::t=>zA M (stp M q b) t
def zG (M:Mch) (H:List Int):Nat->List Nat->Nat
 | _,[]=>0
 | q,b::t=>(H.getD (stp M q b) 0).toNat+zG M H (stp M q b) t
theorem xZ (M:Mch):∀ (q:Nat) (s t:List Nat),zA M q (s++t)=zA M (zA M q s) t
 | _,[],_=>rfl
 | q,b::s,t=>xZ M (stp M q b) s t
theorem un (M:Mch) (H:List Int):∀ (q:Nat) (s t:List Nat),zG M H q (s++t)=zG M H q s+zG M H (zA M q s) t
 | _,[],_=>by simp [zG,zA]
 | q,b :: s,t => by
   simp only [List.cons_append,zG,zA]
   rw [un M H (stp M q b) s t,Nat.add_assoc]
theorem zZ {α:Type} {l:List α} {i:Nat} {d:α} (h:i<l.length):l.getD i d∈l:=by
 rw [g1q,g2q h];exact List.getElem_mem _
theorem znW {M:Mch} {k:Nat} (h:MOk M k) {q b:Nat} (hq:q<M.nx.length) (hb:b<256):stp M q b<M.nx.length:=by
 have hr:M.nx.getD q []∈M.nx:=zZ hq
 obtain ⟨h1,h2⟩:=h.row _ hr
 have hb':b<M.cls.length:=by rw [h.cls];exact hb
 have hc:M.cls.getD b 0∈M.cls:=zZ hb'
 obtain ⟨h3,h4⟩:=h.letter _ hc
 have hi:(M.cls.getD b 0).toNat<(M.nx.getD q []).length:=by omega
 obtain ⟨h5,h6⟩:=h2 _ (zZ (d:=0) hi)
 unfold stp
 omega
theorem xI {M:Mch} {k:Nat} (h:MOk M k):∀ {t:List Nat} {q:Nat},(∀ b∈t,b<256)->q<M.nx.length->zA M q t<M.nx.length
 | [],_,_,hq=>hq
 | b::t,q,hb,hq=>xI h (t:=t) (fun x hx=>hb x (g4q _ hx)) (znW h hq (hb b g5q))
structure Eff where
 en:List Int
 hi:List Int
def kG (M:Mch) (H:List Int) (T:List Nat):Eff:=⟨(List.range M.nx.length).map fun q=>(zA M q T:Int),(List.range M.nx.length).map fun q=>((min (zG M H q T) BY:Nat):Int)⟩
theorem xD (M:Mch) (H:List Int) (T:List Nat):(kG M H T).en.length=M.nx.length/\(kG M H T).hi.length=M.nx.length:=by simp [kG]
theorem zaE (M:Mch) (H:List Int) (T:List Nat) {q:Nat} (hq:q<M.nx.length):(kG M H T).en.getD q 0=(zA M q T:Int):=by
 simp [kG,g1q,List.getElem?_range hq]
theorem zaF (M:Mch) (H:List Int) (T:List Nat) {q:Nat} (hq:q<M.nx.length):(kG M H T).hi.getD q 0=((min (zG M H q T) BY:Nat):Int):=by
 simp [kG,g1q,List.getElem?_range hq]
theorem ziD (M:Mch) (H:List Int) (S T:List Nat) (q:Nat):zA M (zA M q S) T=zA M q (S++T)/\min (min (zG M H q S) BY+min (zG M H (zA M q S) T) BY) BY=min (zG M H q (S++T)) BY:=by
 refine ⟨(xZ M q S T).symm,?_⟩
 rw [un]
 omega
def ori (back:Bool) (t:List Nat):List Nat:=if back then t.reverse else t
theorem zjZ (back:Bool) (s t:List Nat):ori back (s++t)=if back then ori back t++ori back s else ori back s++ori back t:=by
 cases back<;>simp [ori]
theorem zuh (n m:Nat) (t:List Nat):rep n t++rep m t=rep m t++rep n t:=by rw [←kQ,←kQ,Nat.add_comm]
theorem zp7:∀ (n:Nat) (t:List Nat),(rep n t).reverse=rep n t.reverse
 | 0,_=>rfl
 | n + 1,t => by
   have h1:=zuh n 1 t.reverse
   rw [x7] at h1
   rw [vb,List.reverse_append,zp7 n t,vb,h1]
theorem zaG (back:Bool) (n:Nat) (t:List Nat):ori back (rep n t)=rep n (ori back t):=by
 cases back
 ·rfl
 ·exact zp7 n t
theorem zp8 (back:Bool) (t:List Nat):(ori back t).length=t.length:=by cases back<;>simp [ori]
theorem jR (back:Bool) {t:List Nat} {x:Nat}:x∈ori back t↔x∈t:=by cases back<;>simp [ori]
theorem zlR {k i:Nat}:k%2 ^ (i+1)=k%2 ^ i+(k/2 ^ i%2)*2 ^ i:=by
 have:=Nat.mod_pow_succ (b:=2) (x:=k) (k:=i)
 rw [this,Nat.mul_comm]
def qF (A B:Eff):Eff:=⟨(List.range A.en.length).map fun q=>B.en.getD (A.en.getD q 0).toNat 0,(List.range A.en.length).map fun q=>min (A.hi.getD q 0+B.hi.getD (A.en.getD q 0).toNat 0) 1152921504606846977⟩
structure EOk (N:Nat) (A:Eff):Prop where
 le:A.en.length=N
 lh:A.hi.length=N
 en:∀ q,q<N->0<=A.en.getD q 0/\A.en.getD q 0<N
 hi:∀ q,q<N->0<=A.hi.getD q 0/\A.hi.getD q 0<=1152921504606846977
theorem znX {A B:Eff} {q:Nat} (h:q<A.en.length):(qF A B).en.getD q 0=B.en.getD (A.en.getD q 0).toNat 0:=by
 simp [qF,g1q,List.getElem?_range h]
theorem znY {A B:Eff} {q:Nat} (h:q<A.en.length):(qF A B).hi.getD q 0=min (A.hi.getD q 0+B.hi.getD (A.en.getD q 0).toNat 0) 1152921504606846977:=by
 simp [qF,g1q,List.getElem?_range h]
theorem znZ {N:Nat} {A B:Eff} (hA:EOk N A) (hB:EOk N B):EOk N (qF A B):=by
 refine ⟨by simp [qF,hA.le],by simp [qF,hA.le],fun q hq=>?_,fun q hq=>?_⟩
 ·rw [znX (by rw [hA.le];exact hq)]
  have:=hA.en q hq
  exact hB.en _ (by omega)
 ·rw [znY (by rw [hA.le];exact hq)]
  have h1:=hA.en q hq
  have h2:=hA.hi q hq
  have h3:=hB.hi (A.en.getD q 0).toNat (by omega)
  omega
def qz (xs:List Int) (i:Nat):List Int:=xs.take i++List.replicate (xs.length - i) 0
theorem zbP (xs:List Int):qz xs 0=List.replicate xs.length 0:=by simp [qz]
theorem jS (xs:List Int) {i:Nat} (h:i<=xs.length):(qz xs i).length=xs.length:=by simp [qz];omega
theorem zds (xs:List Int):qz xs xs.length=xs:=by simp [qz]
theorem zdt (xs:List Int) {i:Nat} (h:i<xs.length):(qz xs i).set i (xs.getD i 0)=qz xs (i+1):=by
 have hl:(xs.take i).length=i:=by rw [List.length_take];omega
 unfold qz
 rw [List.set_append_right _ _ (by omega),hl,Nat.sub_self,show xs.length - i=(xs.length - (i+1))+1 by omega,List.replicate_succ,List.set_cons_zero]
 rw [show xs.take (i+1)=xs.take i++[xs.getD i 0] by
  rw [List.take_add_one,g1q,g2q h];rfl]
 simp
theorem zcb {α:Type} {f:α->List Value} {k:Nat} (hf:∀ x,(f x).length=k) (l:List α):(l.flatMap f).length=l.length*k:=by
 induction l with
 | nil=>simp
 | cons x l ih=>rw [List.flatMap_cons,g6q,hf,ih,List.length_cons,Nat.succ_mul,Nat.add_comm]
theorem zcN {α:Type} {f:α->List Value} {k:Nat} (hf:∀ x,(f x).length=k):∀ (l:List α) {i:Nat} {x:α},l[i]?=some x->((l.flatMap f).drop (i*k)).take k=f x
 | [],i,x,h=>by simp at h
 | y :: l,0,x,h => by
   simp only [List.getElem?_cons_zero,g3q] at h
   subst h
   rw [Nat.zero_mul,List.drop_zero,List.flatMap_cons,←hf y,List.take_left]
 | y :: l,i + 1,x,h => by
   rw [List.flatMap_cons,Nat.succ_mul,Nat.add_comm,←List.drop_drop,←hf y,List.drop_left,hf y]
   exact zcN hf l (by simpa using h)
theorem zhg {α:Type} {f:α->List Value} {k:Nat} (hf:∀ x,(f x).length=k) (l:List α) {i:Nat} (x:α) (hi:i<l.length):zv (l.flatMap f) (i*k) (f x)=(l.set i x).flatMap f:=by
 have e:l=l.take i++l[i]::l.drop (i+1):=by rw [List.getElem_cons_drop,List.take_append_drop]
 have hl:(l.take i).length=i:=by rw [List.length_take];omega
 have h2:(l.set i x)=l.take i++x::l.drop (i+1):=by rw [List.set_eq_take_append_cons_drop,if_pos hi]
 have h3:l.flatMap f=(l.take i).flatMap f++(f l[i]++(l.drop (i+1)).flatMap f):=by
  conv=>lhs;rw [e]
  rw [List.flatMap_append,List.flatMap_cons]
 have h4:((l.take i).flatMap f).length=i*k:=by rw [zcb hf,hl]
 rw [h2,h3,List.flatMap_append,List.flatMap_cons]
 unfold zv
 rw [←h4,List.take_left,hf x,List.append_assoc,←List.drop_drop,List.drop_left,←hf l[i],List.drop_left]
def Rvd {α:Type} (l y:List α) (i:Nat):Prop:=y.length=l.length/\∀ k,k<l.length->y[k]?=if k<i∨l.length - i<=k then l[l.length - 1 - k]? else l[k]?
theorem Rvd.start {α:Type} (l:List α):Rvd l l 0:=⟨rfl,fun k hk=>by rw [if_neg (by omega)]⟩
theorem Rvd.step {α:Type} {l y:List α} {i:Nat} (h:Rvd l y i) (hi:i<l.length - 1 - i) {a b:α} (ha:y[i]?=some a) (hb:y[l.length - 1 - i]?=some b):Rvd l ((y.set i b).set (l.length - 1 - i) a) (i+1):=by
 obtain ⟨h1,h2⟩:=h
 refine ⟨by rw [List.length_set,List.length_set,h1],fun k hk=>?_⟩
 have ea:=h2 i (by omega)
 have eb:=h2 (l.length - 1 - i) (by omega)
 rw [if_neg (by omega),ha] at ea
 rw [if_neg (by omega),hb] at eb
 by_cases k1:k=l.length - 1 - i
 ·subst k1
  rw [List.getElem?_set_self (by rw [List.length_set];omega),if_pos (by omega),ea]
  congr 1;omega
 ·rw [List.getElem?_set_ne (Ne.symm k1)]
  by_cases k2:k=i
  ·subst k2
   rw [List.getElem?_set_self (by omega),if_pos (by omega),eb]
  ·rw [List.getElem?_set_ne (Ne.symm k2),h2 k hk]
   by_cases hc:k<i∨l.length - i<=k
   ·rw [if_pos hc,if_pos (by omega)]
   ·rw [if_neg hc,if_neg (by omega)]
theorem Rvd.done {α:Type} {l y:List α} {i:Nat} (h:Rvd l y i) (hi:l.length<=i+1+i):y=l.reverse:=by
 obtain ⟨h1,h2⟩:=h
 apply List.ext_getElem?
 intro k
 rcases Nat.lt_or_ge k l.length with hk|hk
 ·rw [h2 k hk,List.getElem?_reverse hk]
  by_cases hc:k<i∨l.length - i<=k
  ·rw [if_pos hc]
  ·rw [if_neg hc]
   congr 1;omega
 ·rw [List.getElem?_eq_none (by omega),List.getElem?_eq_none (by rw [List.length_reverse];omega)]
structure Pc where
 id:Int
 fr:Nat
 n:Nat
structure Pt where
 id:Int
 pw:Int
 t:Nat
def pcT (S:Sto) (p:Pc):List Nat:=((tm S.E p.id).txt.drop p.fr).take p.n
def ptT (S:Sto) (q:Pt):List Nat:=rep q.t (tm S.E q.id).txt
def jq (r:Rul) (p:Pc) (L:Nat):List Pc :=
 if L<=p.fr then [⟨r.b,p.fr - L,p.n⟩] else [⟨r.a,p.fr,min p.n (L - p.fr)⟩,⟨r.b,0,p.n - min p.n (L - p.fr)⟩]
def ug (r:Rul) (p:Pc) (L:Nat):List Pc :=
 if 0<p.fr%L then
  [⟨r.a,p.fr%L,min p.n (L - p.fr%L)⟩,⟨p.id,p.fr+min p.n (L - p.fr%L),(p.n - min p.n (L - p.fr%L)) - (p.n - min p.n (L - p.fr%L))%L⟩,⟨r.a,0,(p.n - min p.n (L - p.fr%L))%L⟩]
 else [⟨p.id,p.fr,p.n - p.n%L⟩,⟨r.a,0,p.n%L⟩]
def kR (r:Rul) (p:Pc) (L:Nat):Pt:=if p.n=L then ⟨r.a,0,1⟩ else ⟨r.a,p.id,p.n/L⟩
def jr (S:Sto) (p:Pc):List Pt × List Pc :=
 if p.n=0∨p.id=0 then ([],[])
 else if (tm S.E p.id).len<=p.n then ([⟨p.id,0,1⟩],[])
 else if (atE S.E p.id).r.k=2 then ([],jq (atE S.E p.id).r p (tm S.E (atE S.E p.id).r.a).len)
 else if p.fr%(tm S.E (atE S.E p.id).r.a).len≠0∨p.n%(tm S.E (atE S.E p.id).r.a).len≠0 then ([],ug (atE S.E p.id).r p (tm S.E (atE S.E p.id).r.a).len)
 else ([kR (atE S.E p.id).r p (tm S.E (atE S.E p.id).r.a).len],[])
def Clo (S:Sto) (Kn:Int->Prop):Prop:=∀ i,Kn i->1<=i/\i<=S.E.length/\((atE S.E i).r.k≠1->Kn (atE S.E i).r.a)/\((atE S.E i).r.k=2->Kn (atE S.E i).r.b)
structure POk (S:Sto) (Kn:Int->Prop) (p:Pc):Prop where
 id:p.id=0∨Kn p.id
 to:p.fr+p.n<=(tm S.E p.id).len
def QOk (S:Sto) (Kn:Int->Prop) (q:Pt):Prop:=Kn q.id/\(q.t=1∨(2<=q.t/\Kn q.pw/\(atE S.E q.pw).r.k=3/\(atE S.E q.pw).r.a=q.id/\q.t<=(atE S.E q.pw).r.t.toNat))
theorem zn0 (u:List Nat):∀ {k j:Nat},j<=k->(rep k u).take (j*u.length)=rep j u
 | k,0,_=>by simp [zaz]
 | 0,j+1,h=>by omega
 | k + 1,j + 1,h => by
   rw [vb,vb,Nat.succ_mul,Nat.add_comm (j*u.length),List.take_length_add_append,zn0 u (by omega)]
theorem ziE (u:List Nat):∀ {k j:Nat},j<=k->(rep k u).drop (j*u.length)=rep (k - j) u
 | k,0,_=>by simp
 | 0,j+1,h=>by omega
 | k + 1,j + 1,h => by
   rw [vb,Nat.succ_mul,Nat.add_comm (j*u.length),←List.drop_drop,List.drop_left,ziE u (by omega),Nat.succ_sub_succ]
theorem zfe {S:Sto} (hw:WF S) {i:Int} (h1:1<=i) (h2:i<=S.E.length) :
 ((atE S.E i).r.k=1/\(tm S.E i).len=1) ∨
 ((atE S.E i).r.k=2/\(tm S.E i).txt=(tm S.E (atE S.E i).r.a).txt++(tm S.E (atE S.E i).r.b).txt/\(tm S.E i).dep=1+max (tm S.E (atE S.E i).r.a).dep (tm S.E (atE S.E i).r.b).dep) ∨
 ((atE S.E i).r.k=3/\(tm S.E i).txt=rep (atE S.E i).r.t.toNat (tm S.E (atE S.E i).r.a).txt/\(tm S.E i).dep=1+(tm S.E (atE S.E i).r.a).dep/\1<=(tm S.E (atE S.E i).r.a).len/\2<=(atE S.E i).r.t):=by
 obtain ⟨hr,_,ht,_⟩:=hw.at_ h1 h2
 rw [ht]
 unfold mkT
 rcases hr with ⟨k1,_⟩|⟨k1,_,_,k4,k5,k6,k7⟩|⟨k1,_,_,k4,k5,k6⟩
 ·rw [if_pos k1];exact .inl ⟨k1,rfl⟩
 ·rw [if_neg (by omega),if_pos k1]
  exact .inr (.inl ⟨k1,rfl,rfl⟩)
 ·rw [if_neg (by omega),if_neg (by omega)]
  exact .inr (.inr ⟨k1,rfl,rfl,(hw.pos (atE S.E i).r.a.toNat (atE S.E i).r.a (by omega) k5 (by omega)).1,k4⟩)
theorem zui (A B:List Nat) (fr n:Nat) (h:fr<A.length):((A++B).drop fr).take n=(A.drop fr).take (min n (A.length - fr))++(B.drop 0).take (n - min n (A.length - fr)):=by
 rw [List.drop_append_of_le_length (Nat.le_of_lt h),List.take_append,List.length_drop,List.drop_zero]
 congr 1
 ·by_cases hn:n<=A.length - fr
  ·rw [Nat.min_eq_left hn]
  ·rw [Nat.min_eq_right (by omega),List.take_of_length_le (by rw [List.length_drop];omega),List.take_of_length_le (by rw [List.length_drop];omega)]
 ·congr 1;omega
theorem zse (A B:List Nat) (fr n:Nat) (h:A.length<=fr):((A++B).drop fr).take n=(B.drop (fr - A.length)).take n:=by
 rw [List.drop_append,List.drop_of_length_le h,List.nil_append]
theorem zk6 (X:List Nat) (fr n m:Nat) (h:m<=n):(X.drop fr).take n=(X.drop fr).take m++(X.drop (fr+m)).take (n - m):=by
 rw [←List.drop_drop]
 generalize X.drop fr=Y
 have:=List.take_add (l:=Y) (i:=m) (j:=n - m)
 rwa [show m+(n - m)=n by omega] at this
theorem ziF (A:List Nat) {t fr m:Nat} (h:0<m->fr/A.length<t) (hm:fr%A.length+m<=A.length):((rep t A).drop fr).take m=(A.drop (fr%A.length)).take m:=by
 by_cases h0:m=0
 ·rw [h0];simp
 have hj:=h (by omega)
 have e:fr=fr/A.length*A.length+fr%A.length:=by rw [Nat.mul_comm];exact (Nat.div_add_mod fr A.length).symm
 rw [show (rep t A).drop fr=((rep t A).drop (fr/A.length*A.length)).drop (fr%A.length) by rw [List.drop_drop,←e],ziE A (Nat.le_of_lt hj),show t - fr/A.length=(t - fr/A.length - 1)+1 by omega,vb]
 rw [List.drop_append_of_le_length (by omega),List.take_append_of_le_length (by rw [List.length_drop];omega)]
theorem zri (A:List Nat) {t fr n:Nat} (h1:fr%A.length=0) (h2:n%A.length=0) (hL:0<A.length) (h:fr+n<=t*A.length):((rep t A).drop fr).take n=rep (n/A.length) A:=by
 have e1:fr=fr/A.length*A.length:=by have:=Nat.div_add_mod fr A.length;rw [h1,Nat.mul_comm] at this;omega
 have e2:n=n/A.length*A.length:=by have:=Nat.div_add_mod n A.length;rw [h2,Nat.mul_comm] at this;omega
 have h3:fr/A.length+n/A.length<=t:=by
  have h':(fr/A.length+n/A.length)*A.length<=t*A.length:=by rw [Nat.add_mul,←e1,←e2];exact h
  exact Nat.le_of_mul_le_mul_right h' hL
 have h4:=ziE A (k:=t) (j:=fr/A.length) (Nat.le_trans (Nat.le_add_right _ _) h3)
 have h5:=zn0 A (k:=t - fr/A.length) (j:=n/A.length) (Nat.le_sub_of_add_le' h3)
 rw [←e1] at h4
 rw [←e2] at h5
 rw [h4,h5]
def zff (S:Sto) (p:Pc):Prop:=p.n=0∨p.id=0∨(tm S.E p.id).len<=p.n∨((atE S.E p.id).r.k≠2/\p.fr%(tm S.E (atE S.E p.id).r.a).len=0/\p.n%(tm S.E (atE S.E p.id).r.a).len=0)
instance (S:Sto) (p:Pc):Decidable (zff S p):=by unfold zff;exact inferInstance
def cst (S:Sto) (p:Pc):Nat:=if zff S p then 1 else if p.fr=0∨p.fr+p.n=(tm S.E p.id).len then 3*(tm S.E p.id).dep+1 else 6*(tm S.E p.id).dep+1
def yU (S:Sto) (ps:List Pc):Nat:=(ps.map (cst S)).sum
theorem zp9 (S:Sto) (p:Pc):1<=cst S p:=by
 unfold cst;split<;>try split
 all_goals omega
theorem zj0 (S:Sto) (p:Pc):cst S p<=6*(tm S.E p.id).dep+1:=by
 unfold cst;split<;>try split
 all_goals omega
theorem zaH {S:Sto} {p:Pc} (h:p.fr=0∨p.fr+p.n=(tm S.E p.id).len):cst S p<=3*(tm S.E p.id).dep+1:=by
 unfold cst
 rw [if_pos h]
 split<;>omega
theorem zcO {S:Sto} {p:Pc} (h:zff S p):cst S p=1:=if_pos h
theorem zuj {S:Sto} (hw:WF S) {Kn:Int->Prop} (hK:Clo S Kn) {p:Pc} (h:POk S Kn p) (hi:Kn p.id) (hk:(atE S.E p.id).r.k=2) (hn:¬zff S p) :
 (jq (atE S.E p.id).r p (tm S.E (atE S.E p.id).r.a).len).flatMap (pcT S)=pcT S p/\(∀ q∈jq (atE S.E p.id).r p (tm S.E (atE S.E p.id).r.a).len,POk S Kn q)/\yU S (jq (atE S.E p.id).r p (tm S.E (atE S.E p.id).r.a).len)<cst S p:=by
 obtain ⟨hc1,hc2,hc3,hc4⟩:=hK _ hi
 have ha:=hc3 (by omega)
 have hb:=hc4 hk
 rcases zfe hw hc1 hc2 with ⟨v,_⟩|⟨_,v2,v3⟩|⟨v,_⟩
 ·omega
 ·generalize atE S.E p.id=e at *
  have hl:(tm S.E p.id).len=(tm S.E e.r.a).len+(tm S.E e.r.b).len:=by unfold Tm.len;rw [v2,g6q]
  have hto:=h.to
  have e1:cst S p=if p.fr=0∨p.fr+p.n=(tm S.E p.id).len then 3*(tm S.E p.id).dep+1 else 6*(tm S.E p.id).dep+1:=if_neg hn
  unfold jq
  by_cases hL:(tm S.E e.r.a).len<=p.fr
  ·rw [if_pos hL]
   refine ⟨?_,?_,?_⟩
   ·rw [List.flatMap_singleton]
    unfold pcT
    rw [v2]
    exact (zse _ _ _ _ hL).symm
   ·intro q hq
    rw [List.mem_singleton.1 hq]
    exact ⟨.inr hb,by simp only [];omega⟩
   ·have c1:=zj0 S ⟨e.r.b,p.fr - (tm S.E e.r.a).len,p.n⟩
    have c2:p.fr+p.n=(tm S.E p.id).len->cst S ⟨e.r.b,p.fr - (tm S.E e.r.a).len,p.n⟩<=_:=fun hh=>zaH (.inr (by simp only [];omega))
    simp only [yU,List.map_cons,List.map_nil,List.sum_cons,List.sum_nil] at c1 c2 ⊢
    rw [e1]
    split
    ·rename_i hs
     rcases hs with hs|hs
     ·exfalso
      have:=(hw.pos e.r.a.toNat e.r.a (by have:=(hK _ ha).1;omega) (hK _ ha).1 (hK _ ha).2.1).1
      omega
     ·have:=c2 hs
      omega
    ·omega
  ·rw [if_neg hL]
   have hL':p.fr<(tm S.E e.r.a).len:=by omega
   generalize hm:min p.n ((tm S.E e.r.a).len - p.fr)=m
   refine ⟨?_,?_,?_⟩
   ·rw [List.flatMap_cons,List.flatMap_singleton]
    unfold pcT
    rw [v2]
    have:=zui (tm S.E e.r.a).txt (tm S.E e.r.b).txt p.fr p.n hL'
    rw [this]
    unfold Tm.len at hm
    rw [hm]
   ·intro q hq
    rcases List.mem_cons.1 hq with rfl|hq
    ·exact ⟨.inr ha,by simp only [];omega⟩
    ·rw [List.mem_singleton.1 hq]
     exact ⟨.inr hb,by simp only [];omega⟩
   ·have a1:=zj0 S ⟨e.r.a,p.fr,m⟩
    have a2:(p.fr=0∨p.fr+m=(tm S.E e.r.a).len)->cst S ⟨e.r.a,p.fr,m⟩<=_:=fun hh=>zaH hh
    have a3:(tm S.E e.r.a).len<=m->cst S ⟨e.r.a,p.fr,m⟩=1:=fun hh=>zcO (.inr (.inr (.inl hh)))
    have b2:cst S ⟨e.r.b,0,p.n - m⟩<=_:=zaH (.inl rfl)
    have b3:(p.n - m=0∨(tm S.E e.r.b).len<=p.n - m)->cst S ⟨e.r.b,0,p.n - m⟩=1:=fun hh=>zcO (hh.elim .inl (fun hh=>.inr (.inr (.inl hh))))
    simp only [yU,List.map_cons,List.map_nil,List.sum_cons,List.sum_nil] at a1 a2 a3 b2 b3 ⊢
    rw [e1]
    split
    ·rename_i hs
     rcases hs with hs|hs
     ·have a4:=a2 (.inl hs)
      by_cases hx:p.n - m=0
      ·have:=b3 (.inl hx);omega
      ·have:=a3 (by omega);omega
     ·have b4:=b3 (.inr (by omega))
      have a4:=a2 (.inr (by omega))
      omega
    ·by_cases hx:p.n - m=0
     ·have:=b3 (.inl hx);omega
     ·have:=a2 (.inr (by omega));omega
 ·omega
theorem md0 (n L:Nat):n - n%L=L*(n/L):=by have:=Nat.div_add_mod n L;omega
theorem md1 {fr L m:Nat} (n1:Nat) (h:fr%L+m=L):fr+m+(n1 - n1%L)=L*(fr/L+1+n1/L):=by
 have h1:=Nat.div_add_mod fr L
 have h2:=Nat.div_add_mod n1 L
 rw [Nat.mul_add,Nat.mul_add,Nat.mul_one]
 omega
theorem md2 {fr L m:Nat} (h:fr%L+m=L):fr+m=L*(fr/L+1):=by
 have h1:=Nat.div_add_mod fr L
 rw [Nat.mul_add,Nat.mul_one]
 omega
theorem zsf {S:Sto} (hw:WF S) {Kn:Int->Prop} (hK:Clo S Kn) {p:Pc} (h:POk S Kn p) (hi:Kn p.id) (hk:(atE S.E p.id).r.k=3) (hn:¬zff S p) :
 (ug (atE S.E p.id).r p (tm S.E (atE S.E p.id).r.a).len).flatMap (pcT S)=pcT S p/\(∀ q∈ug (atE S.E p.id).r p (tm S.E (atE S.E p.id).r.a).len,POk S Kn q)/\yU S (ug (atE S.E p.id).r p (tm S.E (atE S.E p.id).r.a).len)<cst S p:=by
 obtain ⟨hc1,hc2,hc3,_⟩:=hK _ hi
 have ha:=hc3 (by omega)
 have e1:cst S p=if p.fr=0∨p.fr+p.n=(tm S.E p.id).len then 3*(tm S.E p.id).dep+1 else 6*(tm S.E p.id).dep+1:=if_neg hn
 have hterm:∀ f n,f%(tm S.E (atE S.E p.id).r.a).len=0->n%(tm S.E (atE S.E p.id).r.a).len=0->cst S ⟨p.id,f,n⟩=1:=fun f n h1 h2=>zcO (.inr (.inr (.inr ⟨by simp only [];omega,h1,h2⟩)))
 unfold zff at hn
 rcases zfe hw hc1 hc2 with ⟨v,_⟩|⟨v,_⟩|⟨_,v2,v3,v4,v5⟩
 ·omega
 ·omega
 ·generalize atE S.E p.id=e at *
  have hl:(tm S.E p.id).len=e.r.t.toNat*(tm S.E e.r.a).len:=by unfold Tm.len;rw [v2,zbD]
  have hto:=h.to
  rw [hl] at hto
  have hL0:0<(tm S.E e.r.a).txt.length:=v4
  have hmod:=Nat.mod_lt p.fr v4
  have hlt:p.fr/(tm S.E e.r.a).len<e.r.t.toNat:=(Nat.div_lt_iff_lt_mul v4).2 (by omega)
  have hfd:=Nat.div_add_mod p.fr (tm S.E e.r.a).len
  unfold ug
  by_cases hat:0<p.fr%(tm S.E e.r.a).len
  ·rw [if_pos hat]
   generalize hm:min p.n ((tm S.E e.r.a).len - p.fr%(tm S.E e.r.a).len)=m
   have hmn:m<=p.n:=by omega
   have hr:=Nat.mod_lt (p.n - m) v4
   have hr2:=Nat.mod_le (p.n - m) (tm S.E e.r.a).len
   refine ⟨?_,?_,?_⟩
   ·rw [List.flatMap_cons,List.flatMap_cons,List.flatMap_singleton]
    unfold pcT
    rw [v2,zk6 _ p.fr p.n m hmn,zk6 _ (p.fr+m) (p.n - m) (p.n - m - (p.n - m)%(tm S.E e.r.a).len) (by omega)]
    rw [show p.n - m - (p.n - m - (p.n - m)%(tm S.E e.r.a).len)=(p.n - m)%(tm S.E e.r.a).len by omega]
    congr 1
    ·exact (ziF _ (fun _=>hlt) (by show p.fr%(tm S.E e.r.a).len+m<=(tm S.E e.r.a).len;omega)).symm
    ·congr 1
     by_cases h0:(p.n - m)%(tm S.E e.r.a).len=0
     ·rw [h0];simp
     ·have hj:=md1 (fr:=p.fr) (L:=(tm S.E e.r.a).len) (m:=m) (p.n - m) (by omega)
      have hz:(p.fr+m+(p.n - m - (p.n - m)%(tm S.E e.r.a).len))%(tm S.E e.r.a).txt.length=0:=by
       rw [hj];exact Nat.mul_mod_right _ _
      have:=ziF (tm S.E e.r.a).txt (t:=e.r.t.toNat) (fr:=p.fr+m+(p.n - m - (p.n - m)%(tm S.E e.r.a).len)) (m:=(p.n - m)%(tm S.E e.r.a).len) (fun _=>(Nat.div_lt_iff_lt_mul hL0).2 (by show _<e.r.t.toNat*(tm S.E e.r.a).len;omega)) (by rw [hz];show _<=(tm S.E e.r.a).len;omega)
      rw [this,hz]
   ·intro q hq
    rcases List.mem_cons.1 hq with rfl|hq
    ·exact ⟨.inr ha,by simp only [];omega⟩
    rcases List.mem_cons.1 hq with rfl|hq
    ·exact ⟨.inr hi,by simp only [];omega⟩
    ·rw [List.mem_singleton.1 hq]
     exact ⟨.inr ha,by simp only [];omega⟩
   ·have a1:=zj0 S ⟨e.r.a,p.fr%(tm S.E e.r.a).len,m⟩
    have a2:(p.fr%(tm S.E e.r.a).len+m=(tm S.E e.r.a).len)->cst S ⟨e.r.a,p.fr%(tm S.E e.r.a).len,m⟩<=_:=fun hh=>zaH (.inr hh)
    have b1:p.fr%(tm S.E e.r.a).len+m=(tm S.E e.r.a).len∨p.n - m=0->cst S ⟨p.id,p.fr+m,p.n - m - (p.n - m)%(tm S.E e.r.a).len⟩=1:=by
     rintro (hh|hh)
     ·exact hterm _ _ (by rw [md2 hh];exact Nat.mul_mod_right _ _) (by rw [md0];exact Nat.mul_mod_right _ _)
     ·exact zcO (.inl (by simp only [];omega))
    have c1:cst S ⟨e.r.a,0,(p.n - m)%(tm S.E e.r.a).len⟩<=_:=zaH (.inl rfl)
    have c2:(p.n - m)%(tm S.E e.r.a).len=0->cst S ⟨e.r.a,0,(p.n - m)%(tm S.E e.r.a).len⟩=1:=fun hh=>zcO (.inl hh)
    simp only [yU,List.map_cons,List.map_nil,List.sum_cons,List.sum_nil] at a1 a2 b1 c1 c2 ⊢
    rw [e1]
    by_cases hx:p.n - m=0
    ·have hz:(p.n - m)%(tm S.E e.r.a).len=0:=by rw [hx];exact Nat.zero_mod _
     have:=b1 (.inr hx)
     have:=c2 hz
     split
     ·rename_i hs
      rcases hs with hs|hs
      ·rw [hs,Nat.zero_mod] at hat;omega
      ·have hq:(p.fr+m)%(tm S.E e.r.a).len=0:=by
        rw [show p.fr+m=e.r.t.toNat*(tm S.E e.r.a).len by omega];exact Nat.mul_mod_left _ _
       have:p.fr%(tm S.E e.r.a).len+m=(tm S.E e.r.a).len:=by
        rw [Nat.add_mod] at hq
        by_cases hb:p.fr%(tm S.E e.r.a).len+m=(tm S.E e.r.a).len
        ·exact hb
        ·rw [←Nat.add_mod,←Nat.mod_add_mod,Nat.mod_eq_of_lt (a:=p.fr%(tm S.E e.r.a).len+m) (by omega)] at hq
         omega
       have:=a2 this
       omega
     ·omega
    ·have hh:p.fr%(tm S.E e.r.a).len+m=(tm S.E e.r.a).len:=by omega
     have:=b1 (.inl hh)
     have:=a2 hh
     split
     ·rename_i hs
      rcases hs with hs|hs
      ·rw [hs,Nat.zero_mod] at hat;omega
      ·have hz:(p.n - m)%(tm S.E e.r.a).len=0:=by
        have h5:(p.n - m)=(tm S.E e.r.a).len*(e.r.t.toNat - (p.fr/(tm S.E e.r.a).len+1)):=by
         have:=md2 hh
         rw [Nat.mul_sub,←this,Nat.mul_comm (tm S.E e.r.a).len e.r.t.toNat]
         omega
        rw [h5];exact Nat.mul_mod_right _ _
       have:=c2 hz
       omega
     ·omega
  ·rw [if_neg hat]
   have hat0:p.fr%(tm S.E e.r.a).len=0:=by omega
   have hr:=Nat.mod_lt p.n v4
   have hr2:=Nat.mod_le p.n (tm S.E e.r.a).len
   refine ⟨?_,?_,?_⟩
   ·rw [List.flatMap_cons,List.flatMap_singleton]
    unfold pcT
    rw [v2,zk6 _ p.fr p.n (p.n - p.n%(tm S.E e.r.a).len) (by omega)]
    rw [show p.n - (p.n - p.n%(tm S.E e.r.a).len)=p.n%(tm S.E e.r.a).len by omega]
    congr 1
    by_cases h0:p.n%(tm S.E e.r.a).len=0
    ·rw [h0];simp
    ·have hz:(p.fr+(p.n - p.n%(tm S.E e.r.a).len))%(tm S.E e.r.a).txt.length=0:=by
      show _%(tm S.E e.r.a).len=0
      rw [Nat.add_mod,hat0,md0,Nat.mul_mod_right,Nat.zero_add,Nat.zero_mod]
     have:=ziF (tm S.E e.r.a).txt (t:=e.r.t.toNat) (fr:=p.fr+(p.n - p.n%(tm S.E e.r.a).len)) (m:=p.n%(tm S.E e.r.a).len) (fun _=>(Nat.div_lt_iff_lt_mul hL0).2 (by show _<e.r.t.toNat*(tm S.E e.r.a).len;omega)) (by rw [hz];show _<=(tm S.E e.r.a).len;omega)
     rw [this,hz]
   ·intro q hq
    rcases List.mem_cons.1 hq with rfl|hq
    ·exact ⟨.inr hi,by simp only [];omega⟩
    ·rw [List.mem_singleton.1 hq]
     exact ⟨.inr ha,by simp only [];omega⟩
   ·have b1:cst S ⟨p.id,p.fr,p.n - p.n%(tm S.E e.r.a).len⟩=1:=hterm _ _ hat0 (by rw [md0];exact Nat.mul_mod_right _ _)
    have c1:cst S ⟨e.r.a,0,p.n%(tm S.E e.r.a).len⟩<=_:=zaH (.inl rfl)
    simp only [yU,List.map_cons,List.map_nil,List.sum_cons,List.sum_nil] at b1 c1 ⊢
    rw [e1]
    split<;>omega
theorem zrj {S:Sto} (hw:WF S) {Kn:Int->Prop} (hK:Clo S Kn) {p:Pc} (h:POk S Kn p) (hi:Kn p.id) (hk:(atE S.E p.id).r.k=3) (h0:p.n≠0) (h1:p.n<(tm S.E p.id).len) (m1:p.fr%(tm S.E (atE S.E p.id).r.a).len=0) (m2:p.n%(tm S.E (atE S.E p.id).r.a).len=0) :
 ptT S (kR (atE S.E p.id).r p (tm S.E (atE S.E p.id).r.a).len)=pcT S p/\QOk S Kn (kR (atE S.E p.id).r p (tm S.E (atE S.E p.id).r.a).len)/\1<=p.n/(tm S.E (atE S.E p.id).r.a).len/\(tm S.E (atE S.E p.id).r.a).len<=p.n:=by
 obtain ⟨hc1,hc2,hc3,_⟩:=hK _ hi
 have ha:=hc3 (by omega)
 have hto:=h.to
 rcases zfe hw hc1 hc2 with ⟨v,_⟩|⟨v,_⟩|⟨_,v2,v3,v4,v5⟩
 ·omega
 ·omega
 ·have hl:(tm S.E p.id).len=(atE S.E p.id).r.t.toNat*(tm S.E (atE S.E p.id).r.a).len:=by unfold Tm.len;rw [v2,zbD]
  rw [hl] at hto h1
  have hcut:=zri (tm S.E (atE S.E p.id).r.a).txt (t:=(atE S.E p.id).r.t.toNat) (fr:=p.fr) (n:=p.n) m1 m2 v4 hto
  have hge:(tm S.E (atE S.E p.id).r.a).len<=p.n:=Nat.le_of_dvd (by omega) (Nat.dvd_of_mod_eq_zero m2)
  have hd:=Nat.div_add_mod p.n (tm S.E (atE S.E p.id).r.a).len
  have hdiv:1<=p.n/(tm S.E (atE S.E p.id).r.a).len:=(Nat.one_le_div_iff v4).2 hge
  have hlt:p.n/(tm S.E (atE S.E p.id).r.a).len<(atE S.E p.id).r.t.toNat:=(Nat.div_lt_iff_lt_mul v4).2 h1
  refine ⟨?_,?_,hdiv,hge⟩
  ·unfold kR ptT pcT
   rw [v2,hcut]
   by_cases hn:p.n=(tm S.E (atE S.E p.id).r.a).len
   ·rw [if_pos hn]
    show rep 1 _=_
    rw [show p.n/(tm S.E (atE S.E p.id).r.a).txt.length=1 by rw [hn];exact Nat.div_self v4]
   ·rw [if_neg hn];rfl
  ·unfold kR QOk
   by_cases hn:p.n=(tm S.E (atE S.E p.id).r.a).len
   ·rw [if_pos hn]
    exact ⟨ha,.inl rfl⟩
   ·rw [if_neg hn]
    refine ⟨ha,.inr ⟨?_,hi,hk,rfl,Nat.le_of_lt hlt⟩⟩
    show 2<=p.n/(tm S.E (atE S.E p.id).r.a).len
    rcases Nat.lt_or_ge (p.n/(tm S.E (atE S.E p.id).r.a).len) 2 with hx|hx
    ·exfalso
     have:p.n/(tm S.E (atE S.E p.id).r.a).len=1:=by omega
     rw [this,m2] at hd
     omega
    ·exact hx
theorem zuk {S:Sto} (hw:WF S) {Kn:Int->Prop} (hK:Clo S Kn) {p:Pc} (h:POk S Kn p) :
 (jr S p).1.flatMap (ptT S)++(jr S p).2.flatMap (pcT S)=pcT S p/\(∀ q∈(jr S p).1,QOk S Kn q)/\(∀ q∈(jr S p).2,POk S Kn q)/\yU S (jr S p).2+(jr S p).1.length<=cst S p/\yU S (jr S p).2<cst S p:=by
 have hp:0<cst S p:=zp9 S p
 have hto:=h.to
 unfold jr
 split
 ·rename_i hz
  refine ⟨?_,nofun,nofun,by simp [yU],by simpa [yU] using hp⟩
  have:p.n=0:=by
   rcases hz with hz|hz
   ·exact hz
   ·rw [hz,zhe] at hto
    have:Tm.nil.len=0:=rfl
    omega
  simp [pcT,this]
 ·rename_i hz
  have hi:Kn p.id:=h.id.elim (fun hx=>absurd (.inr hx) hz) (fun hx=>hx)
  split
  ·rename_i hl
   refine ⟨?_,?_,nofun,by simp [yU];omega,by simp [yU];omega⟩
   ·rw [List.flatMap_singleton,List.flatMap_nil,List.append_nil]
    unfold ptT pcT
    rw [show p.fr=0 by omega,List.drop_zero,List.take_of_length_le hl]
    exact x7 _
   ·intro q hq
    rw [List.mem_singleton.1 hq]
    exact ⟨hi,.inl rfl⟩
  ·rename_i hl
   obtain ⟨hc1,hc2,_⟩:=hK _ hi
   split
   ·rename_i hk
    obtain ⟨l1,l2,l3⟩:=zuj hw hK h hi hk (fun ht=>by
     rcases ht with ht|ht|ht|⟨ht,_⟩
     ·exact hz (.inl ht)
     ·exact hz (.inr ht)
     ·exact hl ht
     ·exact ht hk)
    exact ⟨by simpa using l1,nofun,l2,by simpa using Nat.le_of_lt l3,l3⟩
   ·rename_i hk
    have hk3:(atE S.E p.id).r.k=3:=by
     rcases zfe hw hc1 hc2 with ⟨v,v1⟩|⟨v,_⟩|⟨v,_⟩
     ·omega
     ·exact absurd v hk
     ·exact v
    split
    ·rename_i hm
     obtain ⟨l1,l2,l3⟩:=zsf hw hK h hi hk3 (fun ht=>by
      rcases ht with ht|ht|ht|⟨_,ht⟩
      ·exact hz (.inl ht)
      ·exact hz (.inr ht)
      ·exact hl ht
      ·exact hm.elim (fun hx=>hx ht.1) (fun hx=>hx ht.2))
     exact ⟨by simpa using l1,nofun,l2,by simpa using Nat.le_of_lt l3,l3⟩
    ·rename_i hm
     have m1:p.fr%(tm S.E (atE S.E p.id).r.a).len=0:=Decidable.byContradiction fun hx=>hm (.inl hx)
     have m2:p.n%(tm S.E (atE S.E p.id).r.a).len=0:=Decidable.byContradiction fun hx=>hm (.inr hx)
     obtain ⟨l1,l2,_⟩:=zrj hw hK h hi hk3 (fun hx=>hz (.inl hx)) (by omega) m1 m2
     refine ⟨by simpa using l1,?_,nofun,by simp [yU];omega,by simp [yU];omega⟩
     intro q hq
     rw [List.mem_singleton.1 hq]
     exact l2
structure PI (S:Sto) (Kn:Int->Prop) (T:List Nat) (B:Nat) (ps:List Pt) (st:List Pc):Prop where
 ok:∀ p∈st,POk S Kn p
 qok:∀ q∈ps,QOk S Kn q
 txt:ps.flatMap (ptT S)++st.reverse.flatMap (pcT S)=T
 cnt:ps.length+yU S st<=B
theorem ji (S:Sto) (l m:List Pc):yU S (l++m)=yU S l+yU S m:=by simp [yU]
theorem zgA (S:Sto) (l:List Pc):yU S l.reverse=yU S l:=by
 induction l with
 | nil=>rfl
 | cons x l ih =>
   rw [List.reverse_cons,ji,ih]
   simp only [yU,List.map_cons,List.map_nil,List.sum_cons,List.sum_nil]
   omega
theorem zul (S:Sto) (l:List Pc):l.length<=yU S l:=by
 induction l with
 | nil=>exact Nat.zero_le _
 | cons x l ih =>
   have:=zp9 S x
   simp only [yU,List.map_cons,List.sum_cons,List.length_cons] at ih ⊢
   omega
theorem zn1 (S:Sto) (p:Pc):yU S [p]=cst S p:=by simp [yU]
theorem PI.start {S:Sto} {Kn:Int->Prop} {p:Pc} (h:POk S Kn p):PI S Kn (pcT S p) (cst S p) [] [p] :=
 ⟨fun q hq=>by rw [List.mem_singleton.1 hq];exact h,nofun,by simp,by simp [yU]⟩
theorem PI.step {S:Sto} (hw:WF S) {Kn:Int->Prop} (hK:Clo S Kn) {T:List Nat} {B:Nat} {ps:List Pt} {rest:List Pc} {p:Pc} (h:PI S Kn T B ps (rest++[p])) :
 PI S Kn T B (ps++(jr S p).1) (rest++(jr S p).2.reverse)/\yU S (rest++(jr S p).2.reverse)<yU S (rest++[p]):=by
 obtain ⟨l1,l2,l3,l4,l5⟩:=zuk hw hK (h.ok p (by simp))
 have hc:=h.cnt
 rw [ji,zn1] at hc
 refine ⟨⟨fun q hq=>?_,fun q hq=>?_,?_,?_⟩,?_⟩
 ·rcases List.mem_append.1 hq with hq|hq
  ·exact h.ok q (List.mem_append_left _ hq)
  ·exact l3 q (List.mem_reverse.1 hq)
 ·rcases List.mem_append.1 hq with hq|hq
  ·exact h.qok q hq
  ·exact l2 q hq
 ·rw [←h.txt,List.reverse_append,List.reverse_append,List.reverse_reverse,List.flatMap_append,List.flatMap_append,List.flatMap_append,List.reverse_singleton,List.flatMap_singleton,←l1]
  simp only [List.append_assoc]
 ·rw [ji,zgA,g6q]
  omega
 ·rw [ji,ji,zgA,zn1]
  omega
theorem WF.deep {S:Sto} (hw:WF S) {i:Int} (h0:0<=i) (h:i<=S.E.length):(tm S.E i).dep<=S.E.length:=by
 by_cases h1:i=0
 ·rw [h1,zhe];exact Nat.zero_le _
 ·have:=(hw.pos i.toNat i (by omega) (by omega) h).2
  omega
end
section
open Go.EG
attribute [local irreducible] zT yE Go.Calls
set_option maxRecDepth 20000
set_option maxHeartbeats 4000000
def pcC (p:Pc):List Value:=[.int .i64 p.id,.int .i64 p.fr,.int .i64 p.n]
def ptC (q:Pt):List Value:=[.int .i64 q.id,.int .i64 q.pw,.int .i64 q.t]
abbrev pcV (p:Pc):Value:=.agg (pcC p).toArray
abbrev ptV (q:Pt):Value:=.agg (ptC q).toArray
def pcs (l:List Pc):List Value:=l.flatMap pcC
def pts (l:List Pt):List Value:=l.flatMap ptC
theorem zn2 (r:Rul) (p:Pc) (L:Nat) (hL:0<L) (hL2:L<=LM) (hn:p.n<=LM) (w:World):Calls Tryz.prog zab #[ruV r,pcV p,.int .i64 L] w fun e w'=>e=.returned (ptV (kR r p L))/\Ext w w':=by
 refine zF [.v (ruV r),.v (pcV p),.v (.int .i64 L)] w zjW (by simp) ?_
 unfold LM at hL2 hn
 have q:(p.n:Int)/(L:Int)=((p.n/L:Nat):Int):=by omega
 unfold kR
 by_cases h:p.n=L
 ·rw [if_pos h]
  (repeat' ((conv=>whnf);first|rw [q]|((first|apply zc|apply za|apply zd)<;>intro h<;>try (exfalso;omega))|refine pay ?_|intro _));(all_goals (conv=>whnf))
  all_goals try (exfalso;omega)
  exact ⟨rfl⟩
 ·rw [if_neg h]
  (repeat' ((conv=>whnf);first|rw [q]|((first|apply zc|apply za|apply zd)<;>intro h<;>try (exfalso;omega))|refine pay ?_|intro _));(all_goals (conv=>whnf))
  all_goals try (exfalso;omega)
  exact ⟨rfl⟩
def zum (l:List Pc) (v:Value) (L1:List Ent):Prop:=∃ a c,v=.slice a l.length c/\L1=[.own 870 a l.length c zE 3 (pcs l)]
theorem zhh (l m:List Pc):pcs (l++m)=pcs l++pcs m:=List.flatMap_append
theorem zj1 {w0:World} {fp0:List Nat} {l m:List Pc} {a:Option Addr} {n c:Nat} {L:List Ent} {xs:List Value} (hn:n=l.length+m.length) (hx:xs=pcs l++pcs m) (h:Ref w0 fp0 L [.own 870 a n c zE 3 xs]) :
 ∃ L1,Ref w0 fp0 L L1/\zum (l++m) (.slice a n c) L1:=by
 subst hn;subst hx
 exact ⟨_,h,a,c,by rw [g6q],by rw [g6q,zhh]⟩
theorem zrk (r:Rul) (p:Pc) (L:Nat) (hL2:L<=LM) (hf:p.fr<=LM) (hn:p.n<=LM) (l:List Pc) (hl:l.length<=65536) (a:Option Addr) (c:Nat) (fp:List Nat) (w:World)
 (hR:R w fp [.own 870 a l.length c zE 3 (pcs l)] w) :
 Calls Tryz.prog zbm #[.slice a l.length c,ruV r,pcV p,.int .i64 L] w fun e w'=>∃ v L1,e=.returned v/\R w fp L1 w'/\zum (l++jq r p L) v L1:=by
 refine zr [.sl 870 a l.length c,.v (ruV r),.v (pcV p),.v (.int .i64 L)] zmx (by simp) hR ?_
 unfold LM at hL2 hf hn
 unfold jq
 by_cases h:L<=p.fr
 ·rw [if_pos h]
  have q:(p.fr:Int) - (L:Int)=((p.fr - L:Nat):Int):=by omega
  (repeat' ((conv=>whnf);first|rw [q]|((first|apply zc|apply za|apply zd)<;>intro h<;>try (exfalso;omega))|refine pay ?_|intro _));(all_goals (conv=>whnf))
  all_goals try (exfalso;omega)
  exact ⟨zj1 rfl rfl (Ref.takes [870] rfl (.refl _))⟩
 ·rw [if_neg h]
  have q1:min (p.n:Int) ((L:Int) - (p.fr:Int))=((min p.n (L - p.fr):Nat):Int):=by omega
  have q2:(p.n:Int) - ((min p.n (L - p.fr):Nat):Int)=((p.n - min p.n (L - p.fr):Nat):Int):=by omega
  (repeat' ((conv=>whnf);first|rw [q1]|rw [q2]|((first|apply zc|apply za|apply zd)<;>intro h<;>try (exfalso;omega))|refine pay ?_|intro _));(all_goals (conv=>whnf))
  all_goals try (exfalso;omega)
  exact ⟨zj1 rfl rfl (Ref.takes [870] rfl (.refl _))⟩
theorem zpz (r:Rul) (p:Pc) (L:Nat) (hL:0<L) (hL2:L<=LM) (hf:p.fr+p.n<=LM) (l:List Pc) (hl:l.length<=65536) (a:Option Addr) (c:Nat) (fp:List Nat) (w:World)
 (hR:R w fp [.own 870 a l.length c zE 3 (pcs l)] w) :
 Calls Tryz.prog zaB #[.slice a l.length c,ruV r,pcV p,.int .i64 L] w fun e w'=>∃ v L1,e=.returned v/\R w fp L1 w'/\zum (l++ug r p L) v L1:=by
 refine zr [.sl 870 a l.length c,.v (ruV r),.v (pcV p),.v (.int .i64 L)] zk5 (by simp) hR ?_
 unfold LM at hL2 hf
 unfold ug
 have q0:(p.fr:Int)%(L:Int)=((p.fr%L:Nat):Int):=by omega
 have hml:=Nat.mod_lt p.fr hL
 by_cases h:0<p.fr%L
 ·rw [if_pos h]
  have q1:min (p.n:Int) ((L:Int) - ((p.fr%L:Nat):Int))=((min p.n (L - p.fr%L):Nat):Int):=by omega
  generalize hm:min p.n (L - p.fr%L)=m at *
  have q2:(p.n:Int) - (m:Int)=((p.n - m:Nat):Int):=by omega
  have q3:(p.fr:Int)+(m:Int)=((p.fr+m:Nat):Int):=by omega
  have q4:((p.n - m:Nat):Int)%(L:Int)=(((p.n - m)%L:Nat):Int):=by omega
  have hm2:=Nat.mod_lt (p.n - m) hL
  have hm3:=Nat.mod_le (p.n - m) L
  have q5:((p.n - m:Nat):Int) - (((p.n - m)%L:Nat):Int)=((p.n - m - (p.n - m)%L:Nat):Int):=by omega
  (repeat' ((conv=>whnf);first|rw [q0]|rw [q1]|rw [q2]|rw [q3]|rw [q4]|rw [q5]|((first|apply zc|apply za|apply zd)<;>intro h<;>try (exfalso;omega))|refine pay ?_|intro _));(all_goals (conv=>whnf))
  all_goals try (exfalso;omega)
  exact ⟨zj1 rfl (by rw [List.append_assoc];rfl) (Ref.takes [870] rfl (.refl _))⟩
 ·rw [if_neg h]
  have hm2:=Nat.mod_lt p.n hL
  have hm3:=Nat.mod_le p.n L
  have q4:(p.n:Int)%(L:Int)=((p.n%L:Nat):Int):=by omega
  have q5:(p.n:Int) - ((p.n%L:Nat):Int)=((p.n - p.n%L:Nat):Int):=by omega
  (repeat' ((conv=>whnf);first|rw [q0]|rw [q4]|rw [q5]|((first|apply zc|apply za|apply zd)<;>intro h<;>try (exfalso;omega))|refine pay ?_|intro _));(all_goals (conv=>whnf))
  all_goals try (exfalso;omega)
  exact ⟨zj1 rfl rfl (Ref.takes [870] rfl (.refl _))⟩
structure RvPc where
 y:List Pc
 i:Nat
theorem zdX (l:List Pc) (hl:l.length<=16777216) (a:Option Addr) (c:Nat) (fp:List Nat) (w:World)
 (hR:R w fp [.own 870 a l.length c zE 3 (pcs l)] w) :
 Calls Tryz.prog qt #[.slice a l.length c] w fun e w'=>∃ v L1,e=.returned v/\R w fp L1 w'/\(v=.tuple #[]/\L1=[.own 870 a l.length c zE 3 (pcs l.reverse)]):=by
 refine zr [.sl 870 a l.length c] ve (by simp) hR ?_
 have hC:∀ x,(pcC x).length=3:=fun _=>rfl
 (repeat' ((conv=>whnf);first|((first|apply zc|apply za|apply zd)<;>intro h<;>try (exfalso;omega))|refine pay ?_|intro _));(all_goals (conv=>whnf))
 refine zw RvPc (fun g=>[(0,.sl 870 a l.length c),(2,.v (.int .i64 g.i)),(3,.v (.int .i64 ((l.length:Int) - 1 - g.i)))]) (fun g=>[.own 870 a l.length c zE 3 (pcs g.y)]) (fun g=>Rvd l g.y g.i) (fun g=>l.length - g.i) ⟨l,0⟩ (Rvd.start l) (by (repeat ((conv=>whnf);refine vS ?_));exact trivial) (Ref.takes [870] rfl (.refl _)) ?_
 rintro ⟨y,i⟩ hrv
 dsimp only at hrv ⊢
 by_cases hi:i<l.length - 1 - i
 ·obtain ⟨u,hu⟩:∃ u,y[i]?=some u:=⟨_,g2q (by rw [hrv.1];omega)⟩
  obtain ⟨v,hv⟩:∃ v,y[l.length - 1 - i]?=some v:=⟨_,g2q (by rw [hrv.1];omega)⟩
  have q1:((l.length:Int) - 1 - (i:Int)).toNat=l.length - 1 - i:=by omega
  have q2:((i:Nat):Int).toNat=i:=by omega
  have r1:=zcN hC y hu
  have r2:=zcN hC y hv
  have s1:zv (pcs y) (i*3) [.int .i64 v.id,.int .i64 v.fr,.int .i64 v.n]=pcs (y.set i v):=zhg hC y v (i:=i) (by rw [hrv.1];omega)
  have s2:zv (pcs (y.set i v)) ((l.length - 1 - i)*3) [.int .i64 u.id,.int .i64 u.fr,.int .i64 u.n]=pcs ((y.set i v).set (l.length - 1 - i) u):=zhg hC (y.set i v) u (i:=l.length - 1 - i) (by rw [List.length_set,hrv.1];omega)
  have hn:=hrv.step hi hu hv
  have hy:=hrv.1
  have b1:i*3+3<=(pcs y).length:=by have:=zcb hC y;unfold pcs;omega
  have b2:(l.length - 1 - i)*3+3<=(pcs (y.set i v)).length:=by have:=zcb hC (y.set i v);rw [List.length_set] at this;unfold pcs;omega
  (repeat' ((conv=>whnf);first|rw [q1]|rw [q2]|refine uT r1 ?_|refine uT r2 ?_|rw [s1]|rw [s2]|((first|apply zc|apply za|apply zd)<;>intro h<;>try (exfalso;omega))|refine pay ?_|refine And.intro (by first|exact ⟨rfl,b1⟩|exact ⟨rfl,b2⟩) ?_|intro _));(all_goals (conv=>whnf))
  all_goals try (exfalso;omega)
  exact zi ⟨_,i+1⟩ hn (by dsimp only;omega) (by (repeat ((conv=>whnf);refine vS ?_));exact trivial) (Ref.takes [870] rfl (.refl _))
 ·(repeat' ((conv=>whnf);first|((first|apply zc|apply za|apply zd)<;>intro h<;>try (exfalso;omega))|refine pay ?_|intro _));(all_goals (conv=>whnf))
  all_goals try (exfalso;omega)
  have hd:=hrv.done (by omega)
  subst hd
  exact ⟨⟨_,Ref.takes [870] rfl (.refl _),rfl,rfl⟩⟩
structure RvPt where
 y:List Pt
 i:Nat
theorem zhX (l:List Pt) (hl:l.length<=16777216) (a:Option Addr) (c:Nat) (fp:List Nat) (w:World)
 (hR:R w fp [.own 880 a l.length c zM 3 (pts l)] w) :
 Calls Tryz.prog qb #[.slice a l.length c] w fun e w'=>∃ v L1,e=.returned v/\R w fp L1 w'/\(v=.tuple #[]/\L1=[.own 880 a l.length c zM 3 (pts l.reverse)]):=by
 refine zr [.sl 880 a l.length c] vx (by simp) hR ?_
 have hC:∀ x,(ptC x).length=3:=fun _=>rfl
 (repeat' ((conv=>whnf);first|((first|apply zc|apply za|apply zd)<;>intro h<;>try (exfalso;omega))|refine pay ?_|intro _));(all_goals (conv=>whnf))
 refine zw RvPt (fun g=>[(0,.sl 880 a l.length c),(2,.v (.int .i64 g.i)),(3,.v (.int .i64 ((l.length:Int) - 1 - g.i)))]) (fun g=>[.own 880 a l.length c zM 3 (pts g.y)]) (fun g=>Rvd l g.y g.i) (fun g=>l.length - g.i) ⟨l,0⟩ (Rvd.start l) (by (repeat ((conv=>whnf);refine vS ?_));exact trivial) (Ref.takes [880] rfl (.refl _)) ?_
 rintro ⟨y,i⟩ hrv
 dsimp only at hrv ⊢
 by_cases hi:i<l.length - 1 - i
 ·obtain ⟨u,hu⟩:∃ u,y[i]?=some u:=⟨_,g2q (by rw [hrv.1];omega)⟩
  obtain ⟨v,hv⟩:∃ v,y[l.length - 1 - i]?=some v:=⟨_,g2q (by rw [hrv.1];omega)⟩
  have q1:((l.length:Int) - 1 - (i:Int)).toNat=l.length - 1 - i:=by omega
  have q2:((i:Nat):Int).toNat=i:=by omega
  have r1:=zcN hC y hu
  have r2:=zcN hC y hv
  have s1:zv (pts y) (i*3) [.int .i64 v.id,.int .i64 v.pw,.int .i64 v.t]=pts (y.set i v):=zhg hC y v (i:=i) (by rw [hrv.1];omega)
  have s2:zv (pts (y.set i v)) ((l.length - 1 - i)*3) [.int .i64 u.id,.int .i64 u.pw,.int .i64 u.t]=pts ((y.set i v).set (l.length - 1 - i) u):=zhg hC (y.set i v) u (i:=l.length - 1 - i) (by rw [List.length_set,hrv.1];omega)
  have hn:=hrv.step hi hu hv
  have hy:=hrv.1
  have b1:i*3+3<=(pts y).length:=by have:=zcb hC y;unfold pts;omega
  have b2:(l.length - 1 - i)*3+3<=(pts (y.set i v)).length:=by have:=zcb hC (y.set i v);rw [List.length_set] at this;unfold pts;omega
  (repeat' ((conv=>whnf);first|rw [q1]|rw [q2]|refine uT r1 ?_|refine uT r2 ?_|rw [s1]|rw [s2]|((first|apply zc|apply za|apply zd)<;>intro h<;>try (exfalso;omega))|refine pay ?_|refine And.intro (by first|exact ⟨rfl,b1⟩|exact ⟨rfl,b2⟩) ?_|intro _));(all_goals (conv=>whnf))
  all_goals try (exfalso;omega)
  exact zi ⟨_,i+1⟩ hn (by dsimp only;omega) (by (repeat ((conv=>whnf);refine vS ?_));exact trivial) (Ref.takes [880] rfl (.refl _))
 ·(repeat' ((conv=>whnf);first|((first|apply zc|apply za|apply zd)<;>intro h<;>try (exfalso;omega))|refine pay ?_|intro _));(all_goals (conv=>whnf))
  all_goals try (exfalso;omega)
  have hd:=hrv.done (by omega)
  subst hd
  exact ⟨⟨_,Ref.takes [880] rfl (.refl _),rfl,rfl⟩⟩
structure PoG where
 ps:List Pt
 st:List Pc
 nx:List Pc
 n11:Nat
 n12:Nat
 a10:Option Addr
 c10:Nat
 a11:Option Addr
 c11:Nat
 a12:Option Addr
 c12:Nat
 f1:List Nat
def zx1 (bs:Nat) (S:Sto) (Kn:Int->Prop) (p:Pc) (v:Value) (L1:List Ent):Prop :=
 ∃ ps a c f1,v=.tuple #[.slice a ps.length c,.nilIface]/\(∀ q∈ps,QOk S Kn q)/\ps.flatMap (ptT S)=pcT S p/\ps.length<=6291457/\L1=[packE 77 f1 (fS bs S),.own 880 a ps.length c zM 3 (pts ps)]
theorem zqh (l m:List Pt):pts (l++m)=pts l++pts m:=List.flatMap_append
theorem zbQ:∀ l:List Pc,yL (pcs l)
 | []=>trivial
 | _::l=>⟨trivial,trivial,trivial,zbQ l⟩
theorem zun {rest:List Pc} {p:Pc}:((pcs (rest++[p])).drop (rest.length*3)).take 3=[.int .i64 p.id,.int .i64 p.fr,.int .i64 p.n] :=
 zcN (f:=pcC) (fun _=>rfl) (rest++[p]) (i:=rest.length) (x:=p) (by simp)
theorem zvz {rest:List Pc} {p:Pc}:(pcs (rest++[p])).take (rest.length*3)=pcs rest:=by
 rw [zhh,←zcb (f:=pcC) (k:=3) (fun _=>rfl) rest]
 exact List.take_left
theorem zf1 (bs:Nat) (S:Sto) (hw:WF S) (Kn:Int->Prop) (hK:Clo S Kn) (p:Pc) (hp:POk S Kn p) (f0 fp:List Nat) (w:World)
 (hR:R w fp [packE 77 f0 (fS bs S)] w) :
 Calls Tryz.prog za1 #[pS bs,.int .i64 p.id,.int .i64 p.fr,.int .i64 p.n] w fun e w'=>∃ v L1,e=.returned v/\R w fp L1 w'/\zx1 bs S Kn p v L1:=by
 refine zr [.v (pS bs),.v (.int .i64 p.id),.v (.int .i64 p.fr),.v (.int .i64 p.n)] zpy (by simp) hR ?_
 have hsm:=hw.small
 have hLM:LM=1152921504606846976:=rfl
 have hid:0<=p.id/\p.id<=S.E.length:=by
  rcases hp.id with h|h
  ·omega
  ·have:=hK _ h;omega
 have hB:cst S p<=6291457:=by
  have h1:=zj0 S p
  have h2:=hw.deep hid.1 hid.2
  omega
 (repeat' ((conv=>whnf);first|((first|apply zc|apply za|apply zd)<;>intro h<;>try (exfalso;omega))|refine pay ?_|intro _));(all_goals (conv=>whnf))
 refine zw PoG (fun g=>[(0,.v (pS bs)),(10,.sl 880 g.a10 g.ps.length g.c10),(11,.sl 870 g.a11 g.n11 g.c11),(12,.sl 22 g.a12 g.n12 g.c12)])
  (fun g=>[packE 77 g.f1 (fS bs S),.own 880 g.a10 g.ps.length g.c10 zM 3 (pts g.ps),.own 870 g.a11 g.n11 g.c11 zE 3 (pcs g.nx),.own 22 g.a12 g.n12 g.c12 zE 3 (pcs g.st)])
  (fun g=>PI S Kn (pcT S p) (cst S p) g.ps g.st/\g.n12=g.st.length) (fun g=>yU S g.st) ⟨[],[p],[],0,1,none,0,none,0,_,1,f0⟩ ⟨PI.start hp,rfl⟩ (by (repeat ((conv=>whnf);refine vS ?_));exact trivial) ((Ref.ownNil 880 zM 3).trans ((Ref.ownNil 870 zE 3).trans (Ref.takes [77,880,870,22] rfl (.refl _)))) ?_
 rintro ⟨ps,st,nx,n11,n12,a10,c10,a11,c11,a12,c12,f1⟩ ⟨hI,hn12⟩
 dsimp only at hI hn12 ⊢
 subst hn12
 have hcnt:=hI.cnt
 rcases List.eq_nil_or_concat st with rfl|⟨rest,q,rfl⟩
 ·(repeat' ((conv=>whnf);first|((first|apply zc|apply za|apply zd)<;>intro h<;>try (exfalso;omega))|refine pay ?_|intro _));(all_goals (conv=>whnf))
  all_goals try (exfalso;omega)
  exact ⟨⟨_,Ref.takes [77,880] rfl (.refl _),ps,a10,c10,f1,rfl,hI.qok,by have:=hI.txt;simpa using this,by omega,rfl⟩⟩
 ·rw [List.concat_eq_append] at hI hcnt ⊢
  obtain ⟨hn,hmu⟩:=hI.step hw hK
  have hst:=zul S (rest++[q])
  have hq:=hI.ok q (by simp)
  have hi:((((rest++[q]).length:Nat):Int) - 1).toNat=rest.length:=by simp
  have hr1:=zun (rest:=rest) (p:=q)
  have hct:=zvz (rest:=rest) (p:=q)
  have hto:=hq.to
  have hqn:=hn.cnt
  have hlr:(rest++[q]).length=rest.length+1:=by simp
  unfold jr at hn hmu hqn
  by_cases hz:q.n=0∨q.id=0
  ·rw [if_pos hz] at hn hmu
   simp only [List.append_nil,List.reverse_nil] at hn hmu
   (repeat' ((conv=>whnf);first|rw [hi]|refine uT hr1 ?_|refine ⟨.sl 22 _ _ _,⟨rfl,rfl,rfl,rfl⟩,?_⟩|refine ⟨.sl 880 _ _ _,⟨rfl,rfl,rfl,rfl⟩,?_⟩|refine ⟨.sl 870 _ _ _,⟨rfl,rfl,rfl,rfl⟩,?_⟩|refine zh ?_|refine yI ?_ ?_|((first|apply zc|apply za|apply zd)<;>intro h<;>try (exfalso;omega))|refine pay ?_|intro _));(all_goals (conv=>whnf))
   all_goals try (exfalso;omega)
   all_goals exact zi ⟨ps,rest,nx,n11,_,a10,c10,a11,c11,a12,c12,f1⟩ ⟨hn,rfl⟩ hmu (by (repeat ((conv=>whnf);refine vS ?_));exact trivial) (Ref.takes [77,880,870,22] rfl (.keep rfl (fun _ h=>h) (.keep rfl (fun _ h=>h) (.keep rfl (fun _ h=>h) (.own rfl hct (.nil _))))))
  ·rw [if_neg hz] at hn hmu hqn
   have hkn:Kn q.id:=hq.id.elim (fun hx=>absurd (.inr hx) hz) (fun hx=>hx)
   obtain ⟨k1,k2,k3,k4⟩:=hK _ hkn
   have c1:=ud bs S q.id hsm
   rw [zcF ⟨by omega,k2⟩] at c1
   have hle:=hw.le k2
   have hlen:(tm S.E q.id).len=(tm S.E q.id).txt.length:=rfl
   by_cases hl:(tm S.E q.id).len<=q.n
   ·rw [if_pos hl] at hn hmu hqn
    simp only [List.append_nil,List.reverse_nil] at hn hmu
    rw [g6q] at hqn
    have hsn1:pts ps++[.int .i64 q.id,.int .i64 0,.int .i64 1]=pts (ps++[⟨q.id,0,1⟩]):=by rw [zqh];rfl
    (repeat' ((conv=>whnf);first|rw [hi]|refine uT hr1 ?_|refine ⟨.sl 22 _ _ _,⟨rfl,rfl,rfl,rfl⟩,?_⟩|refine ⟨.sl 880 _ _ _,⟨rfl,rfl,rfl,rfl⟩,?_⟩|refine ⟨.sl 870 _ _ _,⟨rfl,rfl,rfl,rfl⟩,?_⟩|refine zh ?_|refine yI ?_ ?_|refine SC.go 77 c1 rfl fun fp'=>?_|((first|apply zc|apply za|apply zd)<;>intro h<;>try (exfalso;omega))|refine pay ?_|intro _));(all_goals (conv=>whnf))
    all_goals try (exfalso;omega)
    all_goals exact zi ⟨ps++[⟨q.id,0,1⟩],rest,nx,n11,_,_,_,a11,c11,a12,c12,_⟩ ⟨hn,rfl⟩ hmu (by (repeat ((conv=>whnf);refine vS ?_));exact trivial) (Ref.takes [77,880,870,22] rfl (.keep rfl (fun _ h=>h) (.own (by simp) hsn1 (.keep rfl (fun _ h=>h) (.own rfl hct (.nil _))))))
   ·rw [if_neg hl] at hn hmu hqn
    have c3:=zfd bs S q.id hsm
    rw [zfc k1 k2] at c3
    have hnk:(atE S.E q.id).r.k≠1:=fun he=>by
     rcases zfe hw k1 k2 with ⟨_,v1⟩|⟨v,_⟩|⟨v,_⟩<;>omega
    have hka:=hK _ (k3 hnk)
    have c4:=ud bs S (atE S.E q.id).r.a hsm
    rw [zcF ⟨by omega,hka.2.1⟩] at c4
    have hL1:=hw.pos (atE S.E q.id).r.a.toNat _ (by omega) hka.1 hka.2.1
    have hL2:=hw.le hka.2.1
    have hLe:(tm S.E (atE S.E q.id).r.a).len=(tm S.E (atE S.E q.id).r.a).txt.length:=rfl
    have hkk:(atE S.E q.id).r.k=2∨(atE S.E q.id).r.k=3:=by
     rcases zfe hw k1 k2 with ⟨v,_⟩|⟨v,_⟩|⟨v,_⟩
     ·exact absurd v hnk
     ·exact .inl v
     ·exact .inr v
    generalize (atE S.E q.id).r=r at *
    generalize htl:tm S.E r.a=u at *
    by_cases h2:r.k=2
    ·rw [if_pos h2] at hn hmu hqn
     have c5:=zrk r q u.len hL2 (by omega) (by omega) [] (by simp)
     have hpl:(jq r q u.len).length<=2:=by unfold jq;split<;>simp
     have c6:=zdX (jq r q u.len) (by omega)
     simp only [List.append_nil] at hn hmu
     (repeat' ((conv=>whnf);first|rw [hi]|refine uT hr1 ?_|refine ⟨.sl 22 _ _ _,⟨rfl,rfl,rfl,rfl⟩,?_⟩|refine ⟨.sl 880 _ _ _,⟨rfl,rfl,rfl,rfl⟩,?_⟩|refine ⟨.sl 870 _ _ _,⟨rfl,rfl,rfl,rfl⟩,?_⟩|refine zh ?_|refine yI ?_ ?_|refine SC.go 77 c1 rfl fun fp'=>?_|refine SC.go 77 c3 rfl fun fp'=>?_|refine SC.go 77 c4 rfl fun fp'=>?_|(refine zD [870] rfl (fun w hR h0=>c5 _ _ _ w h0) ?_;rintro _ _ ⟨a',c',rfl,rfl⟩;refine ⟨.sl 870 _ _ _,rfl,?_⟩)|(refine zD [870] rfl (fun w hR h0=>c6 _ _ _ w h0) ?_;rintro _ _ ⟨rfl,rfl⟩;refine ⟨.v _,rfl,?_⟩)|refine ⟨zbQ _,?_⟩|((first|apply zc|apply za|apply zd)<;>intro h<;>try (exfalso;omega))|refine pay ?_|intro _));(all_goals (conv=>whnf))
     all_goals try (exfalso;omega)
     all_goals exact zi ⟨ps,rest++(jq r q u.len).reverse,(jq r q u.len).reverse,_,_,a10,c10,a',c',_,_,_⟩ ⟨hn,by simp⟩ hmu (by (repeat ((conv=>whnf);refine vS ?_));exact trivial) (Ref.takes [77,880,870,22] rfl (.keep rfl (fun _ h=>h) (.keep rfl (fun _ h=>h) (.keep rfl (fun _ h=>h) (.own rfl (by rw [hct,zhh]) (.nil _))))))
    ·rw [if_neg h2] at hn hmu hqn
     have q1:(q.fr:Int)%(u.txt.length:Int)=((q.fr%u.len:Nat):Int):=by rw [hLe];omega
     have q2:(q.n:Int)%(u.txt.length:Int)=((q.n%u.len:Nat):Int):=by rw [hLe];omega
     have hk3:r.k=3:=by omega
     by_cases hm:q.fr%u.len≠0∨q.n%u.len≠0
     ·rw [if_pos hm] at hn hmu hqn
      have c5:=zpz r q u.len (by omega) hL2 (by omega) [] (by simp)
      have hpl:(ug r q u.len).length<=3:=by unfold ug;split<;>simp
      have c6:=zdX (ug r q u.len) (by omega)
      simp only [List.append_nil] at hn hmu
      (repeat' ((conv=>whnf);first|rw [hi]|refine uT hr1 ?_|refine ⟨.sl 22 _ _ _,⟨rfl,rfl,rfl,rfl⟩,?_⟩|refine ⟨.sl 880 _ _ _,⟨rfl,rfl,rfl,rfl⟩,?_⟩|refine ⟨.sl 870 _ _ _,⟨rfl,rfl,rfl,rfl⟩,?_⟩|refine zh ?_|refine yI ?_ ?_|refine SC.go 77 c1 rfl fun fp'=>?_|refine SC.go 77 c3 rfl fun fp'=>?_|refine SC.go 77 c4 rfl fun fp'=>?_|(refine zD [870] rfl (fun w hR h0=>c5 _ _ _ w h0) ?_;rintro _ _ ⟨a',c',rfl,rfl⟩;refine ⟨.sl 870 _ _ _,rfl,?_⟩)|(refine zD [870] rfl (fun w hR h0=>c6 _ _ _ w h0) ?_;rintro _ _ ⟨rfl,rfl⟩;refine ⟨.v _,rfl,?_⟩)|refine ⟨zbQ _,?_⟩|rw [q1]|rw [q2]|((first|apply zc|apply za|apply zd)<;>intro h<;>try (exfalso;omega))|refine pay ?_|intro _));(all_goals (conv=>whnf))
      all_goals try (exfalso;omega)
      all_goals exact zi ⟨ps,rest++(ug r q u.len).reverse,(ug r q u.len).reverse,_,_,a10,c10,a',c',_,_,_⟩ ⟨hn,by simp⟩ hmu (by (repeat ((conv=>whnf);refine vS ?_));exact trivial) (Ref.takes [77,880,870,22] rfl (.keep rfl (fun _ h=>h) (.keep rfl (fun _ h=>h) (.keep rfl (fun _ h=>h) (.own rfl (by rw [hct,zhh]) (.nil _))))))
     ·rw [if_neg hm] at hn hmu hqn
      have c7:=fun w=>zn2 r q u.len (by omega) hL2 (by omega) w
      have c6:=zdX [] (by simp)
      simp only [List.append_nil,List.reverse_nil] at hn hmu
      rw [g6q] at hqn
      have hsn1:pts ps++[.int .i64 (kR r q u.len).id,.int .i64 (kR r q u.len).pw,.int .i64 (kR r q u.len).t]=pts (ps++[kR r q u.len]):=by rw [zqh];rfl
      (repeat' ((conv=>whnf);first|rw [hi]|refine uT hr1 ?_|refine ⟨.sl 22 _ _ _,⟨rfl,rfl,rfl,rfl⟩,?_⟩|refine ⟨.sl 880 _ _ _,⟨rfl,rfl,rfl,rfl⟩,?_⟩|refine ⟨.sl 870 _ _ _,⟨rfl,rfl,rfl,rfl⟩,?_⟩|refine zh ?_|refine yI ?_ ?_|refine SC.go 77 c1 rfl fun fp'=>?_|refine SC.go 77 c3 rfl fun fp'=>?_|refine SC.go 77 c4 rfl fun fp'=>?_|(refine zD [870] rfl (fun w hR h0=>c5 _ _ _ w h0) ?_;rintro _ _ ⟨a',c',rfl,rfl⟩;refine ⟨.sl 870 _ _ _,rfl,?_⟩)|(refine zD [870] rfl (fun w hR h0=>c6 _ _ _ w h0) ?_;rintro _ _ ⟨rfl,rfl⟩;refine ⟨.v _,rfl,?_⟩)|refine ⟨zbQ _,?_⟩|rw [q1]|rw [q2]|(first|refine puK c7 ?_|refine quK c7 ?_)|((first|apply zc|apply za|apply zd)<;>intro h<;>try (exfalso;omega))|refine pay ?_|intro _));(all_goals (conv=>whnf))
      all_goals try (exfalso;omega)
      all_goals exact zi ⟨ps++[kR r q u.len],rest,[],_,_,_,_,a11,c11,_,_,_⟩ ⟨hn,rfl⟩ hmu (by (repeat ((conv=>whnf);refine vS ?_));exact trivial) (Ref.takes [77,880,870,22] rfl (.keep rfl (fun _ h=>h) (.own (by simp) hsn1 (.keep rfl (fun _ h=>h) (.own rfl (by rw [hct];exact List.append_nil _) (.nil _))))))
theorem zgB {w:World} {ea ha:Option Addr} (ca cha:Nat) (en hi:List Int) (h1:In w [] ea (zu .u8 en)) (h2:In w [] ha (zu .i64 hi)) (q:Nat) (hq:q<en.length) (hq2:q<hi.length) (he:0<=en.getD q 0/\en.getD q 0<256)
 (h:Int) (hh:0<=h/\h<=1152921504606846977) (hz:0<=hi.getD q 0/\hi.getD q 0<=1152921504606846977) :
 Calls Tryz.prog yA #[.agg #[.slice ea en.length ca,.slice ha hi.length cha],.int .i64 q,.int .i64 h] w fun e w'=>e=.returned (.tuple #[.int .i64 (en.getD q 0),.int .i64 (min (h+hi.getD q 0) 1152921504606846977)])/\Ext w w':=by
 refine zF [.v (.agg #[.slice ea en.length ca,.slice ha hi.length cha]),.v (.int .i64 q),.v (.int .i64 h)] w zdW (by simp) ?_
 have n1:ea≠none:=h1.ne' (k:=q) (by rw [ints_length];exact hq)
 have n2:ha≠none:=h2.ne' (k:=q) (by rw [ints_length];exact hq2)
 have rd1:=fun {L:List Ent}=>rdI (L:=L) h1 (i:=q) hq
 have rd2:=fun {L:List Ent}=>rdI (L:=L) h2 (i:=q) hq2
 have q0:((q:Nat):Int).toNat=q:=by omega
 (repeat' ((conv=>whnf);first|rw [q0]|refine ⟨_,rd1,?_⟩|refine ⟨_,rd2,?_⟩|refine zh ?_|((first|apply zc|apply za|apply zd)<;>intro h<;>try (exfalso;omega))|refine pay ?_|intro _));(all_goals (conv=>whnf))
 all_goals try (exfalso;omega)
 exact ⟨rfl⟩
structure EA where
 e:Eff
 ea:Option Addr
 ec:Nat
 ha:Option Addr
 hc:Nat
abbrev EA.cells (x:EA):List Value:=[.slice x.ea x.e.en.length x.ec,.slice x.ha x.e.hi.length x.hc]
abbrev EA.v (x:EA):Value:=.agg x.cells.toArray
def EIn (w:World) (fp:List Nat) (x:EA):Prop:=In w fp x.ea (zu .u8 x.e.en)/\In w fp x.ha (zu .i64 x.e.hi)
theorem zhY (m:Nat):(List.replicate m [Value.int .u8 0]).flatten=zu .u8 (List.replicate m 0):=by
 induction m with
 | zero=>rfl
 | succ m ih=>rw [List.replicate_succ,List.replicate_succ,List.flatten_cons,ih];rfl
structure JoA where
 b2:Nat
 b3:Nat
 b4:Nat
 b5:Nat
 ea:Option Addr
 ec:Nat
 ha:Option Addr
 hc:Nat
def zx2 (k1 k2:Nat) (A:Eff) (v:Value) (L1:List Ent):Prop:=∃ ea ec ha hc,v=EA.v ⟨A,ea,ec,ha,hc⟩/\L1=[.own k1 ea A.en.length ec qi 1 (zu .u8 A.en),.own k2 ha A.hi.length hc zk 1 (zu .i64 A.hi)]
theorem zbR {w:World} {N:Nat} (hN:N<=256) (x y:EA) (hx:EIn w [] x) (hy:EIn w [] y) (ox:EOk N x.e) (oy:EOk N y.e) (k1 k2:Nat) :
 Calls Tryz.prog kw #[x.v,y.v] w fun e w'=>∃ v L1,e=.returned v/\R w [] L1 w'/\zx2 k1 k2 (qF x.e y.e) v L1:=by
 refine zQ [.v x.v,.v y.v] ziC (by simp) ?_
 obtain ⟨⟨en,hi⟩,ea,ec,ha,hc⟩:=x
 obtain ⟨⟨en2,hi2⟩,ea2,ec2,ha2,hc2⟩:=y
 have ojo:=znZ ox oy
 have jen:=fun q=>znX (A:=⟨en,hi⟩) (B:=⟨en2,hi2⟩) (q:=q)
 have jhi:=fun q=>znY (A:=⟨en,hi⟩) (B:=⟨en2,hi2⟩) (q:=q)
 generalize qF _ _=J at *
 obtain ⟨jn,jh⟩:=J
 obtain ⟨x1,x2,x3,x4⟩:=ox
 obtain ⟨y1,y2,y3,y4⟩:=oy
 obtain ⟨j1,j2,j3,j4⟩:=ojo
 obtain ⟨hx1,hx2⟩:=hx
 obtain ⟨hy1,hy2⟩:=hy
 dsimp only at *
 dsimp only [EA.v,EA.cells]
 (repeat' ((conv=>whnf);first|((first|apply zc|apply za|apply zd)<;>intro h<;>try (exfalso;omega))|refine pay ?_|intro _));(all_goals (conv=>whnf))
 refine zcu JoA (fun g=>[(2,.ptr 2 g.b2 0),(3,.ptr 3 g.b3 0),(4,.ptr 4 g.b4 0),(5,.ptr 5 g.b5 0)]) (fun g=>[.box 2 g.b2 [.slice ea en.length ec,.slice ha hi.length hc] zq,.box 3 g.b3 [.slice ea2 en2.length ec2,.slice ha2 hi2.length hc2] zq,.box 4 g.b4 [.slice none 0 0,.slice none 0 0] zq,.box 5 g.b5 [.slice g.ea en.length g.ec,.slice g.ha en.length g.hc] zq,.own 12 g.ea en.length g.ec qi 1 (zu .u8 (qz jn 0)),.own 16 g.ha en.length g.hc zk 1 (zu .i64 (qz jh 0))]) (fun _=>True) ?_ ?_
 ·have z1:=zhY en.length
  have z2:=zaa en.length
  have f1:=zbP jn
  have f2:=zbP jh
  rw [j1,←x1] at f1
  rw [j2,←x1] at f2
  (repeat' ((conv=>whnf);first|rw [z1]|rw [z2]|refine ⟨.sl 12 _ _ _,⟨rfl,rfl,rfl,rfl⟩,?_⟩|refine ⟨.sl 16 _ _ _,⟨rfl,rfl,rfl,rfl⟩,?_⟩|refine zh ?_|refine yI ?_ ?_|((first|apply zc|apply za|apply zd)<;>intro h<;>try (exfalso;omega))|refine pay ?_|refine And.intro (by first|exact ⟨by omega,jL rfl⟩|exact ⟨by unfold maxLen;omega,by omega⟩|exact fun _=>Thin.ref (.skip (.refl _))|exact fun _=>Thin.ref (.skip (.skip (.refl _)))|exact Thin.ref (.skip (.refl _))|exact Thin.ref (.skip (.skip (.refl _)))|exact Thin.ref (.skip (.skip (.skip (.refl _))))|exact fun h=>Bool.noConfusion h) ?_|intro _));(all_goals (conv=>whnf))
  all_goals try (exfalso;omega)
  all_goals exact xJ ⟨_,_,_,_,_,_,_,_⟩ trivial (by (repeat ((conv=>whnf);refine vS ?_));exact trivial) (Ref.takes [2,3,4,5,12,16] rfl (.keep rfl (fun _ h=>h) (.keep rfl (fun _ h=>h) (.keep rfl (fun _ h=>h) (.keep rfl (fun _ h=>h) (.own rfl (z1.trans (congrArg _ f1.symm)) (.own rfl (z2.trans (congrArg _ f2.symm)) (.nil _))))))))
 ·rintro ⟨b2,b3,b4,b5,ea',ec',ha',hc'⟩ -
  dsimp only
  have h5:qz jn en.length=jn:=by rw [x1,←j1];exact zds jn
  have h6:qz jh en.length=jh:=by rw [x1,←j2];exact zds jh
  (repeat' ((conv=>whnf);first|refine zh ?_|((first|apply zc|apply za|apply zd)<;>intro h<;>try (exfalso;omega))|refine pay ?_|intro _));(all_goals (conv=>whnf))
  refine zw Nat (fun i=>[(2,.ptr 2 b2 0),(3,.ptr 3 b3 0),(4,.ptr 4 b4 0),(5,.ptr 5 b5 0),(20,.v (.int .i64 en.length)),(21,.v (.int .i64 i))]) (fun i=>[.box 2 b2 [.slice ea en.length ec,.slice ha hi.length hc] zq,.box 3 b3 [.slice ea2 en2.length ec2,.slice ha2 hi2.length hc2] zq,.box 4 b4 [.slice none 0 0,.slice none 0 0] zq,.box 5 b5 [.slice ea' en.length ec',.slice ha' en.length hc'] zq,.own 12 ea' en.length ec' qi 1 (zu .u8 (qz jn i)),.own 16 ha' en.length hc' zk 1 (zu .i64 (qz jh i))]) (fun i=>i<=en.length) (fun i=>en.length - i) 0 (Nat.zero_le _) (by (repeat ((conv=>whnf);refine vS ?_));exact trivial) (Ref.takes [2,3,4,5,12,16] rfl (.refl _)) ?_
  intro i hle
  by_cases hlt:i<en.length
  ·have hx3:=x3 i (by omega)
   have hx4:=x4 i (by omega)
   have jen':=jen i hlt
   have jhi':=jhi i hlt
   have rd1:=fun {L:List Ent}=>rdI (L:=L) hx1 (i:=i) hlt
   have rd2:=fun {L:List Ent}=>rdI (L:=L) hx2 (i:=i) (by omega)
   obtain ⟨k,hk⟩:∃ k:Nat,en.getD i 0=k:=⟨(en.getD i 0).toNat,by omega⟩
   rw [hk] at hx3 jen' jhi'
   simp only [hk] at rd1
   rw [g7q] at jen' jhi'
   have hy3:=y3 k (by omega)
   have hy4:=y4 k (by omega)
   have q0:((i:Nat):Int).toNat=i:=by omega
   have n1:ea≠none:=hx1.ne' (k:=i) (by rw [ints_length];omega)
   have n2:ha≠none:=hx2.ne' (k:=i) (by rw [ints_length];omega)
   have s1:zv (zu .u8 (qz jn i)) i [.int .u8 (en2.getD k 0)]=zu .u8 (qz jn (i+1)):=by
    rw [za0 (by rw [jS _ (by omega)];omega),←jen',zdt jn (by omega)]
   have s2:zv (zu .i64 (qz jh i)) i [.int .i64 (min (hi.getD i 0+hi2.getD k 0) 1152921504606846977)]=zu .i64 (qz jh (i+1)):=by
    rw [za0 (by rw [jS _ (by omega)];omega),←jhi',zdt jh (by omega)]
   have c1:=fun w' h1 h2=>zgB (w:=w') (ea:=ea2) (ha:=ha2) ec2 hc2 en2 hi2 h1 h2 k (by omega) (by omega) (by omega) (hi.getD i 0) (by omega) hy4
   have l1:=jS jn (i:=i) (by omega)
   have l2:=jS jh (i:=i) (by omega)
   have b1:i+1<=(zu .u8 (qz jn i)).length:=by rw [ints_length];omega
   have b2':i+1<=(zu .i64 (qz jh i)).length:=by rw [ints_length];omega
   have m1:en2.getD k 0%256=en2.getD k 0:=Int.emod_eq_of_lt hy3.1 (by omega)
   (repeat' ((conv=>whnf);first|rw [q0]|refine ⟨_,rd1,?_⟩|refine ⟨_,rd2,?_⟩|rw [m1]|rw [s1]|rw [s2]|(refine zm (.v _) (fun w' hR=>c1 w' (hy1.cast hR (fun _ h=>by cases h)) (hy2.cast hR (fun _ h=>by cases h))) ?_)|refine ⟨.sl 12 _ _ _,⟨rfl,rfl,rfl,rfl⟩,?_⟩|refine ⟨.sl 16 _ _ _,⟨rfl,rfl,rfl,rfl⟩,?_⟩|refine zh ?_|refine yI ?_ ?_|((first|apply zc|apply za|apply zd)<;>intro h<;>try (exfalso;omega))|refine pay ?_|refine And.intro (by first|exact ⟨rfl,b1⟩|exact ⟨rfl,b2'⟩) ?_|intro _));(all_goals (conv=>whnf))
   all_goals try (exfalso;omega)
   all_goals exact zi (i+1) (by omega) (by omega) (by (repeat ((conv=>whnf);refine vS ?_));exact trivial) (Ref.takes [2,3,4,5,12,16] rfl (.refl _))
  ·obtain rfl:i=en.length:=by omega
   rw [h5,h6]
   (repeat' ((conv=>whnf);first|((first|apply zc|apply za|apply zd)<;>intro h<;>try (exfalso;omega))|refine pay ?_|intro _));(all_goals (conv=>whnf))
   all_goals try (exfalso;omega)
   have e1:jn.length=en.length:=by omega
   have e2:jh.length=en.length:=by omega
   exact ⟨⟨_,Ref.takes [12,16] rfl (.own (k':=k1) e1.symm rfl (.own (k':=k2) e2.symm rfl (.nil _))),ea',ec',ha',hc',by dsimp only [EA.v,EA.cells];rw [e1,e2];rfl,rfl⟩⟩
def zwo (k T:Nat) (xs:List Value) (v:Value) (L1:List Ent):Prop:=∃ a c,v=.slice a xs.length c/\L1=[.own k a xs.length c T 1 xs]
theorem zcP (k:Nat) (xs:List Int) (hl:xs.length<=16777216) {w:World} {a:Option Addr} (c:Nat) (hin:In w [] a (zu .i64 xs)) :
 Calls Tryz.prog qM #[.slice a xs.length c] w fun e w'=>∃ v L1,e=.returned v/\R w [] L1 w'/\zwo k zk (zu .i64 xs) v L1:=by
 refine zQ [.v (.slice a xs.length c)] zbo (by simp) ?_
 by_cases ha:a=none
 ·subst ha
  have hx:xs=[]:=by
   by_cases h0:xs=[]
   ·exact h0
   ·exact absurd rfl (hin.ne' (k:=0) (by rw [ints_length];exact List.length_pos_iff.2 h0))
  subst hx
  (repeat' ((conv=>whnf);first|((first|apply zc|apply za|apply zd)<;>intro h<;>try (exfalso;omega))|refine pay ?_|intro _));(all_goals (conv=>whnf))
  all_goals try (exfalso;omega)
  exact ⟨⟨_,Ref.ownNil k zk 1,none,0,rfl,rfl⟩⟩
 ·have hs:=fun {L:List Ent}=>hin.rds (L:=L) (n:=xs.length*1) (by rw [ints_length,Nat.mul_one])
  (repeat' ((conv=>whnf);first|refine ⟨_,hs,?_⟩|refine ⟨zes _,?_⟩|((first|apply zc|apply za|apply zd)<;>intro h<;>try (exfalso;omega))|refine pay ?_|intro _));(all_goals (conv=>whnf))
  all_goals try (exfalso;omega)
  ·cases a
   ·exact absurd rfl ha
   ·cases h
  ·rename_i a' c'
   exact ⟨⟨[.own k a' (zu .i64 xs).length c' zk 1 (zu .i64 xs)],Ref.takes [5] rfl (.own (by rw [ints_length];omega) rfl (.nil _)),a',c',by rw [ints_length,Nat.zero_add],rfl⟩⟩
theorem zn3:∀ (xs:List Bool),yL (xs.map Value.bool)
 | []=>trivial
 | _::xs=>⟨trivial,zn3 xs⟩
theorem zn4 (k:Nat) (xs:List Bool) (hl:xs.length<=16777216) {w:World} {a:Option Addr} (c:Nat) (hin:In w [] a (xs.map Value.bool)) :
 Calls Tryz.prog xq #[.slice a xs.length c] w fun e w'=>∃ v L1,e=.returned v/\R w [] L1 w'/\zwo k qe (xs.map Value.bool) v L1:=by
 refine zQ [.v (.slice a xs.length c)] zaD (by simp) ?_
 by_cases ha:a=none
 ·subst ha
  have hx:xs=[]:=by
   by_cases h0:xs=[]
   ·exact h0
   ·exact absurd rfl (hin.ne' (k:=0) (by rw [g8q];exact List.length_pos_iff.2 h0))
  subst hx
  (repeat' ((conv=>whnf);first|((first|apply zc|apply za|apply zd)<;>intro h<;>try (exfalso;omega))|refine pay ?_|intro _));(all_goals (conv=>whnf))
  all_goals try (exfalso;omega)
  exact ⟨⟨_,Ref.ownNil k qe 1,none,0,rfl,rfl⟩⟩
 ·have hs:=fun {L:List Ent}=>hin.rds (L:=L) (n:=xs.length*1) (by rw [g8q,Nat.mul_one])
  (repeat' ((conv=>whnf);first|refine ⟨_,hs,?_⟩|refine ⟨zn3 _,?_⟩|((first|apply zc|apply za|apply zd)<;>intro h<;>try (exfalso;omega))|refine pay ?_|intro _));(all_goals (conv=>whnf))
  all_goals try (exfalso;omega)
  ·cases a
   ·exact absurd rfl ha
   ·cases h
  ·rename_i a' c'
   exact ⟨⟨[.own k a' (xs.map Value.bool).length c' qe 1 (xs.map Value.bool)],Ref.takes [5] rfl (.own (by rw [g8q];omega) rfl (.nil _)),a',c',by rw [g8q,Nat.zero_add],rfl⟩⟩
structure RA where
 xs:List Int
 a:Option Addr
 c:Nat
abbrev RA.v (r:RA):Value:=.slice r.a r.xs.length r.c
structure MA where
 start:Int
 cls:List Int
 ca:Option Addr
 cc:Nat
 nr:List RA
 na:Option Addr
 nc:Nat
 acc:List Bool
 aa:Option Addr
 ac:Nat
def MA.m (x:MA):Mch:=⟨x.start,x.cls,x.nr.map RA.xs,x.acc⟩
abbrev MA.cells (x:MA):List Value:=[.int .i64 x.start,.slice x.ca x.cls.length x.cc,.slice x.na x.nr.length x.nc,.slice x.aa x.acc.length x.ac]
abbrev MA.v (x:MA):Value:=.agg x.cells.toArray
structure McI (w:World) (fp:List Nat) (x:MA):Prop where
 cls:In w fp x.ca (zu .i64 x.cls)
 nx:In w fp x.na (x.nr.map RA.v)
 acc:In w fp x.aa (x.acc.map Value.bool)
 row:∀ r∈x.nr,In w fp r.a (zu .i64 r.xs)
theorem McI.cast {w w':World} {L:List Ent} {x:MA} (h:McI w [] x) (hR:R w [] L w'):McI w' [] x :=
 ⟨h.cls.cast hR (fun _ h=>by cases h),h.nx.cast hR (fun _ h=>by cases h),h.acc.cast hR (fun _ h=>by cases h),fun r hr=>(h.row r hr).cast hR (fun _ h=>by cases h)⟩
structure Frm (M:Mch) (k:Nat):Prop where
 cls:M.cls.length=256
 pos:0<M.nx.length
 acc:M.acc.length=M.nx.length
 start:0<=M.start/\M.start<M.nx.length
 k1:1<=k/\k<=256
 row:∀ r∈M.nx,r.length=k/\∀ q∈r,0<=q/\q<M.nx.length
 letter:∀ c∈M.cls,0<=c/\c<k
noncomputable def zaI (M:Mch):Nat:=by
 classical exact if Frm M (M.nx.getD 0 []).length then (if 256<M.nx.length then 9 else 0) else 4
theorem zn5 {M:Mch} (h:¬Frm M (M.nx.getD 0 []).length):zaI M=4:=by unfold zaI;rw [if_neg h]
theorem zhi {M:Mch} (h:Frm M (M.nx.getD 0 []).length):zaI M=if 256<M.nx.length then 9 else 0:=by unfold zaI;rw [if_pos h]
theorem zsg {M:Mch} (h:zaI M=0):MOk M (M.nx.getD 0 []).length:=by
 by_cases hf:Frm M (M.nx.getD 0 []).length
 ·rw [zhi hf] at h
  split at h
  ·cases h
  ·exact ⟨hf.cls,hf.pos,by omega,hf.acc,hf.start,hf.k1,hf.row,hf.letter⟩
 ·rw [zn5 hf] at h;cases h
theorem zhZ {w:World} (x:MA) (hx:McI w [] x) (hb:x.nr.length<=9223372036854775807/\(∀ r∈x.nr,r.xs.length<=9223372036854775807)) :
 Calls Tryz.prog vR #[x.v] w fun e w'=>e=.returned (zwm (zaI x.m))/\Ext w w':=by
 refine zF [.v x.v] w ziz (by simp) ?_
 obtain ⟨start,cls,ca,cc,nr,na,nc,acc,aa,ac⟩:=x
 obtain ⟨h1,h2,h3,h4⟩:=hx
 dsimp only [MA.v,MA.cells,MA.m] at *
 have hbad:=fun h=>zn5 (M:=⟨start,cls,nr.map RA.xs,acc⟩) h
 have hok:=fun h=>zhi (M:=⟨start,cls,nr.map RA.xs,acc⟩) h
 generalize hM:zaI _=E at *
 have hl:(nr.map RA.xs).length=nr.length:=g8q ..
 have hb4:∀ {G:Prop},(E=4->G)->¬Frm ⟨start,cls,nr.map RA.xs,acc⟩ ((nr.map RA.xs).getD 0 []).length->G:=fun k hn=>k (hbad hn)
 rcases nr with _|⟨r0,nr⟩
 ·(repeat' ((conv=>whnf);first|refine zh ?_|((first|apply zc|apply za|apply zd)<;>intro h<;>try (exfalso;omega))|refine pay ?_|intro _));(all_goals (conv=>whnf))
  all_goals (refine ⟨?_⟩;rw [hbad (fun hf=>by have f2:=hf.pos;simp at f2)];rfl)
 ·have rd0:=fun {L:List Ent}=>h2.rd (L:=L) (k:=0) (v:=r0.v) rfl
  have n0:na≠none:=h2.ne' (k:=0) (by simp)
  (repeat' ((conv=>whnf);first|refine ⟨_,_,_,rd0,?_⟩|refine zh ?_|((first|apply zc|apply za|apply zd)<;>intro h<;>try (exfalso;omega))|refine pay ?_|intro _));(all_goals (conv=>whnf))
  all_goals try (refine ⟨?_⟩;rw [hbad (fun hf=>by have f1:=hf.cls;have f3:=hf.acc;have f4:=hf.start;have f5:=hf.k1;simp only [g8q,List.length_cons,List.map_cons,List.getD_cons_zero] at f1 f3 f4 f5;simp only [List.length_cons] at *;omega)];rfl)
  rename_i b1 g1 g2 g3 g4 g5
  have hF:(((r0::nr).map RA.xs).getD 0 [])=r0.xs:=rfl
  have hLn:((r0::nr).map RA.xs).length=(r0::nr).length:=g8q ..
  generalize hN:(r0::nr)=N at *
  have hbd:¬Frm ⟨start,cls,N.map RA.xs,acc⟩ r0.xs.length->E=4:=by rw [←hF];exact hbad
  have hokd:Frm ⟨start,cls,N.map RA.xs,acc⟩ r0.xs.length->E=if 256<(N.map RA.xs).length then 9 else 0:=by rw [←hF];exact hok
  refine zw Nat (fun i=>[(1,.ptr 1 b1 0),(3,.v (.int .i64 N.length)),(4,.v (.int .i64 r0.xs.length)),(54,.v (.slice na N.length nc)),(55,.v (.int .i64 N.length)),(56,.v (.int .i64 i))]) (fun _=>[.box 1 b1 [.int .i64 start,.slice ca cls.length cc,.slice na N.length nc,.slice aa acc.length ac] zg])
   (fun i=>i<=N.length/\∀ r∈N.take i,r.xs.length=r0.xs.length/\∀ q∈r.xs,0<=q/\q<N.length) (fun i=>N.length - i) 0 ⟨Nat.zero_le _,by simp⟩ (by (repeat ((conv=>whnf);refine vS ?_));exact trivial) (Ref.takes [1] rfl (.refl _)) ?_
  rintro i ⟨hi,hall⟩
  by_cases hlt:i<N.length
  ·obtain ⟨r,hr⟩:∃ r,N[i]?=some r:=⟨_,g2q hlt⟩
   have hmem:r∈N:=List.mem_of_getElem? hr
   have rdr:=fun {L:List Ent}=>h2.rd (L:=L) (k:=i) (v:=r.v) (by rw [List.getElem?_map,hr];rfl)
   have hrb:=hb.2 r hmem
   have hin:=h4 r hmem
   have hrm:r.xs∈N.map RA.xs:=List.mem_map.2 ⟨r,hmem,rfl⟩
   have q0:((i:Nat):Int).toNat=i:=by omega
   by_cases hk:r.xs.length=r0.xs.length
   ·(repeat' ((conv=>whnf);first|rw [q0]|refine ⟨_,_,_,rdr,?_⟩|refine zh ?_|((first|apply zc|apply za|apply zd)<;>intro h<;>try (exfalso;omega))|refine pay ?_|intro _));(all_goals (conv=>whnf))
    all_goals try (exfalso;omega)
    refine zw Nat (fun j=>[(1,.ptr 1 b1 0),(3,.v (.int .i64 N.length)),(4,.v (.int .i64 r0.xs.length)),(54,.v (.slice na N.length nc)),(55,.v (.int .i64 N.length)),(56,.v (.int .i64 i)),(65,.v r.v),(66,.v (.int .i64 r.xs.length)),(67,.v (.int .i64 j))]) (fun _=>[.box 1 b1 [.int .i64 start,.slice ca cls.length cc,.slice na N.length nc,.slice aa acc.length ac] zg])
     (fun j=>j<=r.xs.length/\∀ q∈r.xs.take j,0<=q/\q<N.length) (fun j=>r.xs.length - j) 0 ⟨Nat.zero_le _,by simp⟩ (by (repeat ((conv=>whnf);refine vS ?_));exact trivial) (Ref.takes [1] rfl (.refl _)) ?_
    rintro j ⟨hj,hjall⟩
    by_cases hjl:j<r.xs.length
    ·have rdq:=fun {L:List Ent}=>rdI (L:=L) hin (i:=j) hjl
     have q1:((j:Nat):Int).toNat=j:=by omega
     have n1:r.a≠none:=hin.ne' (k:=j) (by rw [ints_length];exact hjl)
     have hqm:r.xs.getD j 0∈r.xs:=zZ hjl
     by_cases hq:0<=r.xs.getD j 0/\r.xs.getD j 0<N.length
     ·have hnx:∀ q∈r.xs.take (j+1),0<=q/\q<(N.length:Int):=by
       rw [show r.xs.take (j+1)=r.xs.take j++[r.xs.getD j 0] by
        rw [List.take_add_one,g1q,g2q hjl];rfl]
       intro q hq'
       rcases List.mem_append.1 hq' with hq'|hq'
       ·exact hjall q hq'
       ·rw [List.mem_singleton.1 hq'];exact hq
      (repeat' ((conv=>whnf);first|rw [q1]|refine ⟨_,rdq,?_⟩|((first|apply zc|apply za|apply zd)<;>intro h<;>try (exfalso;omega))|refine pay ?_|intro _));(all_goals (conv=>whnf))
      all_goals try (exfalso;omega)
      all_goals exact zi (j+1) ⟨by omega,hnx⟩ (by omega) (by (repeat ((conv=>whnf);refine vS ?_));exact trivial) (Ref.takes [1] rfl (.refl _))
     ·(repeat' ((conv=>whnf);first|rw [q1]|refine ⟨_,rdq,?_⟩|((first|apply zc|apply za|apply zd)<;>intro h<;>try (exfalso;omega))|refine pay ?_|intro _));(all_goals (conv=>whnf))
      all_goals try (exfalso;omega)
      all_goals (refine ⟨?_⟩;rw [hbd (fun hf=>hq (by have:=(hf.row r.xs hrm).2 _ hqm;rw [←hLn];exact this))];rfl)
    ·have hje:j=r.xs.length:=by omega
     subst hje
     have hnx:∀ r'∈N.take (i+1),r'.xs.length=r0.xs.length/\∀ q∈r'.xs,0<=q/\q<(N.length:Int):=by
      rw [List.take_add_one,hr]
      intro r' hr'
      rcases List.mem_append.1 hr' with hr'|hr'
      ·exact hall r' hr'
      ·have:r'=r:=by simpa using hr'
       subst this
       exact ⟨hk,by rw [List.take_length] at hjall;exact hjall⟩
     (repeat' ((conv=>whnf);first|((first|apply zc|apply za|apply zd)<;>intro h<;>try (exfalso;omega))|refine pay ?_|intro _));(all_goals (conv=>whnf))
     all_goals try (exfalso;omega)
     all_goals exact zi (i+1) ⟨by omega,hnx⟩ (by omega) (by (repeat ((conv=>whnf);refine vS ?_));exact trivial) (Ref.takes [1] rfl (.refl _))
   ·(repeat' ((conv=>whnf);first|rw [q0]|refine ⟨_,_,_,rdr,?_⟩|refine zh ?_|((first|apply zc|apply za|apply zd)<;>intro h<;>try (exfalso;omega))|refine pay ?_|intro _));(all_goals (conv=>whnf))
    all_goals try (exfalso;omega)
    all_goals (refine ⟨?_⟩;rw [hbd (fun hf=>hk (hf.row r.xs hrm).1)];rfl)
  ·have hie:i=N.length:=by omega
   subst hie
   rw [List.take_length] at hall
   (repeat' ((conv=>whnf);first|refine zh ?_|((first|apply zc|apply za|apply zd)<;>intro h<;>try (exfalso;omega))|refine pay ?_|intro _));(all_goals (conv=>whnf))
   all_goals try (exfalso;omega)
   refine zw Nat (fun j=>[(3,.v (.int .i64 N.length)),(4,.v (.int .i64 r0.xs.length)),(82,.v (.slice ca cls.length cc)),(83,.v (.int .i64 cls.length)),(84,.v (.int .i64 j))]) (fun _=>[.box 1 b1 [.int .i64 start,.slice ca cls.length cc,.slice na N.length nc,.slice aa acc.length ac] zg])
    (fun j=>j<=cls.length/\∀ q∈cls.take j,0<=q/\q<r0.xs.length) (fun j=>cls.length - j) 0 ⟨Nat.zero_le _,by simp⟩ (by (repeat ((conv=>whnf);refine vS ?_));exact trivial) (Ref.takes [1] rfl (.refl _)) ?_
   rintro j ⟨hj,hjall⟩
   by_cases hjl:j<cls.length
   ·have rdq:=fun {L:List Ent}=>rdI (L:=L) h1 (i:=j) hjl
    have q1:((j:Nat):Int).toNat=j:=by omega
    have n1:ca≠none:=h1.ne' (k:=j) (by rw [ints_length];exact hjl)
    have hqm:cls.getD j 0∈cls:=zZ hjl
    by_cases hq:0<=cls.getD j 0/\cls.getD j 0<r0.xs.length
    ·have hnx:∀ q∈cls.take (j+1),0<=q/\q<(r0.xs.length:Int):=by
      rw [show cls.take (j+1)=cls.take j++[cls.getD j 0] by
       rw [List.take_add_one,g1q,g2q hjl];rfl]
      intro q hq'
      rcases List.mem_append.1 hq' with hq'|hq'
      ·exact hjall q hq'
      ·rw [List.mem_singleton.1 hq'];exact hq
     (repeat' ((conv=>whnf);first|rw [q1]|refine ⟨_,rdq,?_⟩|((first|apply zc|apply za|apply zd)<;>intro h<;>try (exfalso;omega))|refine pay ?_|intro _));(all_goals (conv=>whnf))
     all_goals try (exfalso;omega)
     all_goals exact zi (j+1) ⟨by omega,hnx⟩ (by omega) (by (repeat ((conv=>whnf);refine vS ?_));exact trivial) (Ref.takes [1] rfl (.refl _))
    ·(repeat' ((conv=>whnf);first|rw [q1]|refine ⟨_,rdq,?_⟩|((first|apply zc|apply za|apply zd)<;>intro h<;>try (exfalso;omega))|refine pay ?_|intro _));(all_goals (conv=>whnf))
     all_goals try (exfalso;omega)
     all_goals (refine ⟨?_⟩;rw [hbd (fun hf=>hq (hf.letter _ hqm))];rfl)
   ·have hje:j=cls.length:=by omega
    subst hje
    rw [List.take_length] at hjall
    have hFr:Frm ⟨start,cls,N.map RA.xs,acc⟩ r0.xs.length:=by
     refine ⟨by show cls.length=256;omega,by show 0<(N.map RA.xs).length;omega,by show acc.length=(N.map RA.xs).length;omega,by show 0<=start/\start<(N.map RA.xs).length;omega,by omega,fun r' hr'=>?_,hjall⟩
     obtain ⟨r,hr,rfl⟩:=List.mem_map.1 hr'
     show r.xs.length=r0.xs.length/\∀ q∈r.xs,0<=q/\q<((N.map RA.xs).length:Int)
     rw [hLn]
     exact hall r hr
    have hok':=hokd hFr
    rw [hLn] at hok'
    (repeat' ((conv=>whnf);first|((first|apply zc|apply za|apply zd)<;>intro h<;>try (exfalso;omega))|refine pay ?_|intro _));(all_goals (conv=>whnf))
    all_goals try (exfalso;omega)
    ·refine ⟨?_⟩;rw [hok',if_pos (by omega)];rfl
    ·refine ⟨?_⟩;rw [hok',if_neg (by omega)];rfl
end
section
open Go.EG
structure Frz where
 a:Option Addr
 n:Nat
 c:Nat
 xs:List Value
def vk (F:List Frz):List Nat:=F.flatMap fun f=>(Value.slice f.a f.n f.c).ownBlock.toList
def frE (key:Nat) (F:List Frz):Ent:=.abs key (vk F) fun w=>∀ f∈F,zie f.a f.xs w
section
variable {w0 w:World} {fp0:List Nat} {L:List Ent}
theorem R.freezeRow {k key n c T sz:Nat} {a:Option Addr} {xs:List Value} {F:List Frz} (h:R w0 fp0 (.own k a n c T sz xs::frE key F::L) w):R w0 fp0 (frE key (⟨a,n,c,xs⟩::F)::L) w:=by
 have e:fps (frE key (⟨a,n,c,xs⟩::F)::L)=fps (.own k a n c T sz xs::frE key F::L):=by
  simp only [zH,frE,Ent.fp,vk,List.flatMap_cons,List.append_assoc]
 have hro:∀ j v,xs[j]?=some v->∃ g,a=some ⟨g,0,none⟩/\w.cell? ⟨g,j,none⟩=some v:=fun j v hv=>by
  exact x9 (key:=k) (o:=⟨a,n,c,T,sz,xs⟩) h (by simp [zL]) hv
 refine ⟨h.os,h.tape,h.output,h.drawn,h.size,h.old,by rw [e];exact h.nodup,by rw [e];exact h.range,fun x hx=>?_⟩
 rcases List.mem_cons.1 hx with rfl|hx
 ·intro w' hs f hf
  rcases List.mem_cons.1 hf with rfl|hf
  ·intro j v hv
   obtain ⟨g,ha,hc⟩:=hro j v hv
   dsimp only at ha ⊢
   refine ⟨g,ha,?_⟩
   rw [←hc]
   exact jw (hs g (by simp [vk,ha,Value.ownBlock]))
  ·have h2:=h.ok (frE key F) (by simp)
   exact h2 w' (fun b hb=>hs b (by simp only [vk,List.flatMap_cons];exact List.mem_append_right _ hb)) f hf
 ·exact h.ok x (g4q _ (g4q _ hx))
theorem R.freezeNew {key:Nat} (h:R w0 fp0 L w):R w0 fp0 (frE key []::L) w:=by
 have e:fps (frE key []::L)=fps L:=by simp [zH,frE,Ent.fp,vk]
 refine ⟨h.os,h.tape,h.output,h.drawn,h.size,h.old,by rw [e];exact h.nodup,by rw [e];exact h.range,fun x hx=>?_⟩
 rcases List.mem_cons.1 hx with rfl|hx
 ·intro w' _ f hf;cases hf
 ·exact h.ok x hx
theorem Ref.freezeRow {k key n c T sz:Nat} {a:Option Addr} {xs:List Value} {F:List Frz}:Ref w0 fp0 (.own k a n c T sz xs::frE key F::L) (frE key (⟨a,n,c,xs⟩::F)::L):=fun _ h=>R.freezeRow h
theorem Ref.freezeNew (key:Nat):Ref w0 fp0 L (frE key []::L):=fun _ h=>R.freezeNew h
theorem In.frz {key:Nat} {F:List Frz} {f:Frz} (hR:R w0 fp0 L w) (hm:frE key F∈L) (hf:f∈F):In w [] f.a f.xs:=by
 by_cases hx:f.xs=[]
 ·exact .inl hx
 ·have hro:=Ent.abs_ok (hR.ok _ hm) f hf
  obtain ⟨g,ha,hc⟩:=hro 0 _ (g2q (List.length_pos_iff.2 hx))
  refine .inr ⟨g,0,ha,?_,by simp,fun j v hv=>?_⟩
  ·unfold World.cell? at hc
   rcases Nat.lt_or_ge g w.heap.size with h|h
   ·exact h
   ·rw [Array.getElem?_eq_none h] at hc
    simp at hc
  ·obtain ⟨g',ha',hc'⟩:=hro j v hv
   rw [ha] at ha'
   simp only [g3q,Addr.mk.injEq,and_true] at ha'
   subst ha'
   rw [Nat.zero_add];exact hc'
end
end
section
open Go.EG
attribute [local irreducible] zT yE Go.Calls
set_option maxRecDepth 20000
set_option maxHeartbeats 4000000
def FIn (F:List Frz) (a:Option Addr) (xs:List Value):Prop:=xs=[]∨∃ f∈F,f.a=a/\f.xs=xs
theorem FIn.mono {F F':List Frz} {a:Option Addr} {xs:List Value} (h:FIn F a xs) (hs:∀ f∈F,f∈F'):FIn F' a xs:=by
 rcases h with h|⟨f,h1,h2⟩
 ·exact .inl h
 ·exact .inr ⟨f,hs f h1,h2⟩
theorem FIn.head {F:List Frz} {a:Option Addr} {n c:Nat} {xs:List Value}:FIn (⟨a,n,c,xs⟩::F) a xs:=.inr ⟨_,g5q,rfl,rfl⟩
theorem FIn.tail {F:List Frz} {f:Frz} {a:Option Addr} {xs:List Value} (h:FIn F a xs):FIn (f::F) a xs:=h.mono fun _ h=>g4q _ h
structure MFz (F:List Frz) (x:MA):Prop where
 cls:FIn F x.ca (zu .i64 x.cls)
 nx:FIn F x.na (x.nr.map RA.v)
 acc:FIn F x.aa (x.acc.map Value.bool)
 row:∀ r∈x.nr,FIn F r.a (zu .i64 r.xs)
theorem MFz.mono {F F':List Frz} {x:MA} (h:MFz F x) (hs:∀ f∈F,f∈F'):MFz F' x :=
 ⟨h.cls.mono hs,h.nx.mono hs,h.acc.mono hs,fun r hr=>(h.row r hr).mono hs⟩
def zx3 (key:Nat) (x:MA) (v:Value) (L1:List Ent):Prop:=∃ y F,v=MA.v y/\L1=[frE key F]/\MFz F y/\y.m=x.m
def zac (ys:List RA) (n:Nat):List Value:=ys.map RA.v++List.replicate (n - ys.length) (.slice none 0 0)
theorem zlS (ys:List RA) {n:Nat} (h:ys.length<=n):(zac ys n).length=n:=by simp [zac];omega
theorem zsh (ys:List RA) {n:Nat} (h:ys.length<n) (y:RA):zv (zac ys n) ys.length [y.v]=zac (ys++[y]) n:=by
 have e:n - ys.length=(n - (ys.length+1))+1:=by omega
 have hl:(ys.map RA.v).length=ys.length:=g8q ..
 unfold zv zac
 rw [e,List.replicate_succ,List.take_append_of_le_length (by omega),List.take_of_length_le (by omega),List.drop_append]
 simp
theorem zsi (ys:List RA) {n:Nat} (h:ys.length=n):zac ys n=ys.map RA.v:=by simp [zac,h]
structure ClG where
 ys:List RA
 F:List Frz
theorem zsj (m:Nat):(List.replicate m [Value.slice none 0 0]).flatten=zac [] m:=by
 induction m with
 | zero=>rfl
 | succ m ih =>
   rw [List.replicate_succ,List.flatten_cons,ih]
   unfold zac
   simp [List.replicate_succ]
theorem zh0 (key:Nat) {w:World} (x:MA) (hx:McI w [] x) (hl:x.cls.length<=16777216/\x.nr.length<=16777216/\x.acc.length<=16777216/\∀ r∈x.nr,r.xs.length<=16777216) :
 Calls Tryz.prog vj #[x.v] w fun e w'=>∃ v L1,e=.returned v/\R w [] L1 w'/\zx3 key x v L1:=by
 refine zQ [.v x.v] zhB (by simp) ?_
 obtain ⟨start,cls,ca,cc,nr,na,nc,acc,aa,ac⟩:=x
 obtain ⟨h1,h2,h3,h4⟩:=hx
 obtain ⟨l1,l2,l3,l4⟩:=hl
 dsimp only [MA.v,MA.cells] at *
 have z1:=zsj nr.length
 have hz:=zlS [] (n:=nr.length) (Nat.zero_le _)
 (repeat' ((conv=>whnf);first|refine ⟨.sl 9 _ _ _,⟨rfl,rfl,rfl,rfl⟩,?_⟩|refine zh ?_|((first|apply zc|apply za|apply zd)<;>intro h<;>try (exfalso;omega))|refine pay ?_|refine And.intro (by first|exact ⟨by omega,jL rfl⟩|exact ⟨by unfold maxLen;omega,by omega⟩) ?_|intro _));(all_goals (conv=>whnf))
 rename_i b1 b2 a9
 refine zw ClG (fun g=>[(1,.ptr 1 b1 0),(2,.ptr 2 b2 0),(3,.sl 9 (some ⟨a9,0,none⟩) nr.length nr.length),(11,.v (.slice na nr.length nc)),(12,.v (.int .i64 nr.length)),(13,.v (.int .i64 g.ys.length))])
  (fun g=>[frE 79 g.F,.box 1 b1 [.int .i64 start,.slice ca cls.length cc,.slice na nr.length nc,.slice aa acc.length ac] zg,.box 2 b2 [.int .i64 0,.slice none 0 0,.slice none 0 0,.slice none 0 0] zg,.own 9 (some ⟨a9,0,none⟩) nr.length nr.length qm 1 (zac g.ys nr.length)])
  (fun g=>g.ys.length<=nr.length/\g.ys.map RA.xs=(nr.take g.ys.length).map RA.xs/\∀ r∈g.ys,FIn g.F r.a (zu .i64 r.xs)) (fun g=>nr.length - g.ys.length) ⟨[],[]⟩ ⟨Nat.zero_le _,rfl,by simp⟩ (by (repeat ((conv=>whnf);refine vS ?_));exact trivial) ((Ref.takes [1,2,9] rfl (.box rfl (.box rfl (.own rfl z1 (.nil _))))).trans (Ref.freezeNew 79)) ?_
 rintro ⟨ys,F⟩ ⟨hle,hxs,hfz⟩
 dsimp only at hle hxs hfz ⊢
 by_cases hlt:ys.length<nr.length
 ·obtain ⟨r,hr⟩:∃ r,nr[ys.length]?=some r:=⟨_,g2q hlt⟩
  have hmem:r∈nr:=List.mem_of_getElem? hr
  have rdr:=fun {L:List Ent}=>h2.rd (L:=L) (k:=ys.length) (v:=r.v) (by rw [List.getElem?_map,hr];rfl)
  have hin:=h4 r hmem
  have n0:na≠none:=h2.ne' (k:=ys.length) (by rw [g8q];exact hlt)
  have c1:=fun w h=>zcP 30 r.xs (l4 r hmem) (w:=w) (a:=r.a) r.c h
  have q0:((ys.length:Nat):Int).toNat=ys.length:=by omega
  have hfl:=zlS ys (n:=nr.length) (by omega)
  have b9:ys.length+1<=(zac ys nr.length).length:=by omega
  (repeat' ((conv=>whnf);first|rw [q0]|refine ⟨_,_,_,rdr,?_⟩|refine zh ?_|(refine zz (fun w' hR=>c1 w' (hin.cast hR (fun _ h=>by cases h))) ?_;rintro _ _ ⟨a',c',rfl,rfl⟩;refine ⟨.sl 30 _ _ _,rfl,?_⟩)|((first|apply zc|apply za|apply zd)<;>intro h<;>try (exfalso;omega))|refine pay ?_|refine And.intro (by first|exact ⟨rfl,b9⟩) ?_|intro _));(all_goals (conv=>whnf))
  all_goals try (exfalso;omega)
  have hs:=zsh ys hlt ⟨r.xs,a',c'⟩
  have e1:(zu .i64 r.xs).length=r.xs.length:=ints_length
  have hyl:(ys++[(⟨r.xs,a',c'⟩:RA)]).length=ys.length+1:=by simp
  refine zi ⟨ys++[⟨r.xs,a',c'⟩],⟨a',_,c',zu .i64 r.xs⟩::F⟩ ⟨by simp;omega,?_,?_⟩ (by simp;omega) (by (repeat ((conv=>whnf);refine vS ?_));exact trivial) ((Ref.takes [30,79,1,2,9] rfl (.own (k':=30) rfl rfl (.keep rfl (fun _ h=>h) (.keep rfl (fun _ h=>h) (.keep rfl (fun _ h=>h) (.own rfl (by dsimp only [RA.v] at hs;rw [←hs,e1]) (.nil _))))))).trans (Ref.freezeRow))
  ·rw [hyl,List.map_append,hxs,List.take_add_one,hr];simp
  ·intro r' hr'
   rcases List.mem_append.1 hr' with hr'|hr'
   ·exact (hfz r' hr').tail
   ·rw [List.mem_singleton.1 hr'];exact FIn.head
 ·have hle':ys.length=nr.length:=by omega
  rw [zsi ys hle']
  have c2:=fun w h=>zcP 31 cls l1 (w:=w) (a:=ca) cc h
  have c3:=fun w h=>zn4 32 acc l3 (w:=w) (a:=aa) ac h
  (repeat' ((conv=>whnf);first|refine zh ?_|(refine zz (fun w' hR=>c2 w' (h1.cast hR (fun _ h=>by cases h))) ?_;rintro _ _ ⟨a1,c1,rfl,rfl⟩;refine ⟨.sl 31 _ _ _,rfl,?_⟩)|(refine zz (fun w' hR=>c3 w' (h3.cast hR (fun _ h=>by cases h))) ?_;rintro _ _ ⟨a3,c4,rfl,rfl⟩;refine ⟨.sl 32 _ _ _,rfl,?_⟩)|((first|apply zc|apply za|apply zd)<;>intro h<;>try (exfalso;omega))|refine pay ?_|intro _));(all_goals (conv=>whnf))
  all_goals try (exfalso;omega)
  have e1:(zu .i64 cls).length=cls.length:=ints_length
  have e2:(acc.map Value.bool).length=acc.length:=g8q ..
  refine ⟨⟨_,((Ref.takes [9,79,31,32] rfl (.refl _)).trans Ref.freezeRow).trans (((Ref.takes [31,79,32] rfl (.refl _)).trans Ref.freezeRow).trans (((Ref.takes [32,79] rfl (.refl _)).trans Ref.freezeRow).trans (Thin.ref (Thin.abs (k':=key) (.nil _))))),⟨start,cls,a1,c1,ys,some ⟨a9,0,none⟩,nr.length,acc,a3,c4⟩,_,?_,rfl,⟨?_,?_,?_,?_⟩,?_⟩⟩
  ·dsimp only [MA.v,MA.cells];rw [e1,e2,hle'];rfl
  ·exact FIn.head.tail
  ·exact FIn.head.tail.tail
  ·exact FIn.head
  ·exact fun r hr=>((hfz r hr).tail.tail).tail
  ·dsimp only [MA.m];rw [hxs,hle',List.take_length]
structure KE where
 id:Int
 wh:EA
 ca:Option Addr
 cc:Nat
 cs:List EA
abbrev KE.v (k:KE):Value:=.agg #[.slice k.wh.ea k.wh.e.en.length k.wh.ec,.slice k.wh.ha k.wh.e.hi.length k.wh.hc,.slice k.ca k.cs.length k.cc]
def knm (K:List KE):List (Value × Value):=K.map fun k=>(.int .i64 k.id,k.v)
def kfd (K:List KE) (i:Int):Option KE:=K.find? fun k=>decide (k.id=i)
theorem qU {K:List KE} {i:Int} {k:KE} (h:kfd K i=some k):k∈K/\k.id=i:=by
 unfold kfd at h
 refine ⟨List.mem_of_find?_eq_some h,?_⟩
 have:=List.find?_some h
 simpa using this
theorem ziG {K:List KE} {i:Int} (h:kfd K i=none):∀ k∈K,k.id≠i:=by
 intro k hk
 have:=List.find?_eq_none.1 h k hk
 simpa using this
theorem ziH (i:Int):∀ K:List KE,qI (knm K) (.int .i64 i)=(kfd K i).map KE.v
 | []=>rfl
 | k :: K => by
   have ih:=ziH i K
   unfold knm kfd at *
   simp only [List.map_cons,qI,List.find?_cons]
   by_cases h:k.id=i
   ·subst h
    simp [qB]
   ·rw [if_neg (by simp [qB];omega),ih]
    simp [h]
theorem zn6 (i:Int) (u:KE) (hu:u.id=i):∀ K:List KE,kfd K i=none->yd (knm K) (.int .i64 i) u.v=knm (K++[u])
 | [],_=>by subst hu;rfl
 | k :: K,h => by
   have hk:=ziG h k g5q
   have ih:=zn6 i u hu K (by unfold kfd at *;rw [List.find?_cons] at h;simpa [hk] using h)
   unfold knm at *
   simp only [List.map_cons,List.cons_append,yd]
   rw [if_neg (by simp [qB];omega),ih]
theorem uJ (i:Int):zS (.int .i64) (.int .i64 i):=⟨i,rfl⟩
def EFz (F:List Frz) (x:EA):Prop:=FIn F x.ea (zu .u8 x.e.en)/\FIn F x.ha (zu .i64 x.e.hi)
theorem EFz.mono {F F':List Frz} {x:EA} (h:EFz F x) (hs:∀ f∈F,f∈F'):EFz F' x:=⟨h.1.mono hs,h.2.mono hs⟩
def zcQ (l:List EA):List Value:=l.flatMap EA.cells
theorem zn7:∀ l:List EA,(zcQ l).length=l.length*2
 | []=>rfl
 | x :: l => by
   have:=zn7 l
   simp only [zcQ,List.flatMap_cons,g6q,List.length_cons,List.length_nil] at this ⊢
   omega
theorem zsk (l:List EA) (x:EA):zcQ l++x.cells=zcQ (l++[x]):=by simp [zcQ]
theorem zqi:∀ {l:List EA} {i:Nat} {x:EA},l[i]?=some x->((zcQ l).drop (i*2)).take 2=x.cells
 | y :: l,0,x,h => by
   simp at h;subst h
   simp [zcQ]
 | y :: l,i + 1,x,h => by
   have ih:=zqi (l:=l) (i:=i) (x:=x) (by simpa using h)
   simp only [zcQ,List.flatMap_cons] at ih ⊢
   rw [show (i+1)*2=(EA.cells y).length+i*2 by simp [EA.cells];omega,←List.drop_drop,List.drop_left]
   exact ih
structure Tb where
 M:Mch
 H:List Int
 back:Bool
 D:Int->Prop
structure TbOk (T:Tb) (k:Nat):Prop where
 m:MOk T.M k
 len:T.H.length=T.M.nx.length
 hit:∀ h∈T.H,0<=h/\h<=1048576
abbrev Tb.eff (T:Tb) (t:List Nat):Eff:=kG T.M T.H (ori T.back t)
structure KOk (T:Tb) (E:List Entr) (F:List Frz) (k:KE):Prop where
 D:T.D k.id
 pos:1<=k.id/\k.id<=E.length
 wh:k.wh.e=T.eff (tm E k.id).txt
 fz:EFz F k.wh
 cfz:FIn F k.ca (zcQ k.cs)
 pw:(atE E k.id).r.k=3->(atE E k.id).r.t<2 ^ k.cs.length/\∀ i x,k.cs[i]?=some x->EFz F x/\x.e=T.eff (rep (2 ^ i) (tm E (atE E k.id).r.a).txt)
structure TOk (T:Tb) (E:List Entr) (y:MA) (ha:Option Addr) (K:List KE) (F:List Frz):Prop where
 mfz:MFz F y
 ym:y.m=T.M
 hfz:FIn F ha (zu .i64 T.H)
 kn:∀ k∈K,KOk T E F k
 nd:(K.map KE.id).Nodup
 clo:∀ k∈K,((atE E k.id).r.k≠1->∃ k'∈K,k'.id=(atE E k.id).r.a)/\((atE E k.id).r.k=2->∃ k'∈K,k'.id=(atE E k.id).r.b)
structure TG (T:Tb) (E:List Entr) where
 y:MA
 ha:Option Addr
 hc:Nat
 mb:Nat
 K:List KE
 F:List Frz
 ok:TOk T E y ha K F
abbrev zad (bs:Nat) (y:MA) (ha:Option Addr) (hn hc:Nat) (back:Bool) (mb:Nat):List Value :=
 [pS bs,.int .i64 y.start,.slice y.ca y.cls.length y.cc,.slice y.na y.nr.length y.nc,.slice y.aa y.acc.length y.ac,.slice ha hn hc,.bool back,.map (some mb)]
def fX (bt bs:Nat) (T:Tb) (E:List Entr) (x:TG T E):List Ent :=
 [.box 3000 bt (zad bs x.y x.ha T.H.length x.hc T.back x.mb) zN,.mapE 3001 x.mb (.int .i64) (knm x.K),frE 3002 x.F]
theorem zfg {bt bs:Nat} {T:Tb} {E:List Entr} {y:MA} {ha:Option Addr} {hc mb:Nat} {K:List KE} {F:List Frz} {ok:TOk T E y ha K F} :
 fX bt bs T E ⟨y,ha,hc,mb,K,F,ok⟩=[.box 3000 bt (zad bs y ha T.H.length hc T.back mb) zN,.mapE 3001 mb (.int .i64) (knm K),frE 3002 F]:=rfl
theorem KOk.mono {T:Tb} {E:List Entr} {F F':List Frz} {k:KE} (h:KOk T E F k) (hs:∀ f∈F,f∈F'):KOk T E F' k :=
 ⟨h.D,h.pos,h.wh,h.fz.mono hs,h.cfz.mono hs,fun hk=>⟨(h.pw hk).1,fun i x hx=>⟨((h.pw hk).2 i x hx).1.mono hs,((h.pw hk).2 i x hx).2⟩⟩⟩
theorem KOk.grow {T:Tb} {E E':List Entr} {F:List Frz} {k:KE} (hr:∀ i:Int,1<=i->i<=E.length->(atE E i).r.a<=E.length) (h:KOk T E F k):KOk T (E++E') F k:=by
 have hp:=h.pos
 refine ⟨h.D,⟨hp.1,by rw [g6q];omega⟩,by rw [uG hp.2];exact h.wh,h.fz,h.cfz,?_⟩
 rw [ze7 hp.2,uG (hr _ hp.1 hp.2)]
 exact h.pw
theorem TOk.grow {T:Tb} {E E':List Entr} {y:MA} {ha:Option Addr} {K:List KE} {F:List Frz} (hr:∀ i:Int,1<=i->i<=E.length->(atE E i).r.a<=E.length) (h:TOk T E y ha K F):TOk T (E++E') y ha K F:=by
 refine ⟨h.mfz,h.ym,h.hfz,fun k hk=>(h.kn k hk).grow hr,h.nd,fun k hk=>?_⟩
 have hp:=(h.kn k hk).pos
 rw [ze7 hp.2]
 exact h.clo k hk
theorem WF.ref_le {S:Sto} (hw:WF S) (i:Int) (h1:1<=i) (h2:i<=S.E.length):(atE S.E i).r.a<=S.E.length:=by
 obtain ⟨hr,_⟩:=hw.at_ h1 h2
 rcases hr with h|⟨_,_,_,_,h,_⟩|⟨_,_,_,_,_,h⟩<;>omega
theorem zj2 {k k' bt bs:Nat} {T:Tb} {S S':Sto} (hw:WF S) (hg:Grow S S') {fp:List Nat} {L L':List Ent} (h:Thin L L'):Thin (packE k fp (fX bt bs T S.E)::L) (packE k' fp (fX bt bs T S'.E)::L'):=by
 obtain ⟨E',rfl⟩:=hg
 refine .keep rfl (fun w hok w' hs=>?_) h
 obtain ⟨⟨y,ha,hc,mb,K,F,ok⟩,h1,h2⟩:=hok w' hs
 exact ⟨⟨y,ha,hc,mb,K,F,ok.grow hw.ref_le⟩,h1,h2⟩
theorem zj3 {k k' bt bs:Nat} {M:Mch} {H:List Int} {back:Bool} {D D':Int->Prop} {E:List Entr} (hd:∀ i,D i->D' i) {fp:List Nat} {L L':List Ent} (h:Thin L L'):Thin (packE k fp (fX bt bs ⟨M,H,back,D⟩ E)::L) (packE k' fp (fX bt bs ⟨M,H,back,D'⟩ E)::L'):=by
 refine .keep rfl (fun w hok w' hs=>?_) h
 obtain ⟨⟨y,ha,hc,mb,K,F,ok⟩,h1,h2⟩:=hok w' hs
 exact ⟨⟨y,ha,hc,mb,K,F,⟨ok.mfz,ok.ym,ok.hfz,fun k hk=>⟨hd _ (ok.kn k hk).D,(ok.kn k hk).pos,(ok.kn k hk).wh,(ok.kn k hk).fz,(ok.kn k hk).cfz,(ok.kn k hk).pw⟩,ok.nd,ok.clo⟩⟩,h1,h2⟩
theorem FIn.rd {w0:World} {fp0:List Nat} {L:List Ent} {key:Nat} {F:List Frz} {a:Option Addr} {xs:List Value} {k:Nat} {v:Value} (hm:frE key F∈L) (h:FIn F a xs) (hv:xs[k]?=some v):Rd w0 fp0 L (.el a k) [v]:=by
 intro w hR
 rcases h with rfl|⟨f,hf,rfl,rfl⟩
 ·simp at hv
 have hro:=Ent.abs_ok (hR.ok _ hm) f hf
 obtain ⟨g,ha,hc⟩:=hro k v hv
 refine ⟨g,k,by simp [SV.val,ha,qo],fun j u hu=>?_⟩
 have:j=0/\u=v:=by
  cases j with
  | zero=>simpa [eq_comm] using hu
  | succ j=>simp at hu
 obtain ⟨rfl,rfl⟩:=this
 exact hc
theorem FIn.rdn {w0:World} {fp0:List Nat} {L:List Ent} {key:Nat} {F:List Frz} {a:Option Addr} {xs vs:List Value} {k:Nat} (hm:frE key F∈L) (h:FIn F a xs) (h0:0<vs.length) (hv:(xs.drop k).take vs.length=vs):Rd w0 fp0 L (.el a k) vs:=by
 have hget:∀ j v,vs[j]?=some v->xs[k+j]?=some v:=fun j v hj=>by
  rw [←hv,List.getElem?_take] at hj
  split at hj
  ·simpa using hj
  ·cases hj
 intro w hR
 rcases h with rfl|⟨f,hf,rfl,rfl⟩
 ·have:=hget 0 vs[0] (by simp [h0])
  simp at this
 have hro:=Ent.abs_ok (hR.ok _ hm) f hf
 obtain ⟨v0,hv0⟩:∃ v,vs[0]?=some v:=⟨vs[0],by simp [h0]⟩
 obtain ⟨g,ha,hc⟩:=hro (k+0) v0 (hget 0 v0 hv0)
 refine ⟨g,k,by simp [SV.val,ha,qo],fun j u hu=>?_⟩
 obtain ⟨g',ha',hc'⟩:=hro (k+j) u (hget j u hu)
 rw [ha] at ha'
 simp only [g3q,Addr.mk.injEq,and_true] at ha'
 subst ha'
 exact hc'
theorem FIn.in_ {w0 w:World} {fp0:List Nat} {L:List Ent} {key:Nat} {F:List Frz} {a:Option Addr} {xs:List Value} (hR:R w0 fp0 L w) (hm:frE key F∈L) (h:FIn F a xs):In w [] a xs:=by
 rcases h with rfl|⟨f,hf,rfl,rfl⟩
 ·exact .inl rfl
 exact In.frz hR hm hf
theorem FIn.rdP {w0:World} {fp0:List Nat} {L Lr:List Ent} {key:Nat} {F:List Frz} {a:Option Addr} {xs:List Value} {k:Nat} {v:Value} (hm:qP key L=some (frE key F,Lr)) (h:FIn F a xs) (hv:xs[k]?=some v):Rd w0 fp0 L (.el a k) [v] :=
 FIn.rd ((zV hm).mem_iff.2 g5q) h hv
theorem FIn.rdnP {w0:World} {fp0:List Nat} {L Lr:List Ent} {key:Nat} {F:List Frz} {a:Option Addr} {xs vs:List Value} {k:Nat} (hm:qP key L=some (frE key F,Lr)) (h:FIn F a xs) (h0:0<vs.length) (hv:(xs.drop k).take vs.length=vs):Rd w0 fp0 L (.el a k) vs :=
 FIn.rdn ((zV hm).mem_iff.2 g5q) h h0 hv
theorem FIn.ne {w0 w:World} {fp0:List Nat} {L:List Ent} {key:Nat} {F:List Frz} {a:Option Addr} {xs:List Value} (hR:R w0 fp0 L w) (hm:frE key F∈L) (h:FIn F a xs) (h0:0<xs.length):a≠none:=by
 exact (FIn.in_ hR hm h).ne' (k:=0) h0
theorem FIn.nil {F:List Frz} {a:Option Addr}:FIn F a []:=.inl rfl
noncomputable def ziI (x:MA) (H:List Int):Nat:=by
 classical exact if zaI x.m≠0 then zaI x.m else if H.length=x.nr.length/\∀ h∈H,0<=h/\h<=1048576 then 0 else 4
theorem zqj {x:MA} {H:List Int} (h:zaI x.m=0) (h2:H.length=x.nr.length/\∀ h∈H,0<=h/\h<=1048576):ziI x H=0:=by unfold ziI;rw [if_neg (by omega),if_pos h2]
theorem zsl {x:MA} {H:List Int} (h:ziI x H=0):zaI x.m=0/\H.length=x.nr.length/\∀ h∈H,0<=h/\h<=1048576:=by
 unfold ziI at h
 split at h
 ·contradiction
 ·rename_i h1
  split at h
  ·rename_i h2
   exact ⟨by omega,h2⟩
  ·cases h
def zwp (key bs:Nat) (T:Tb) (E:List Entr) (v:Value) (L1:List Ent):Prop:=∃ b fp',v=.tuple #[pS b,.nilIface]/\L1=[packE key fp' (fX b bs T E)]
theorem zcR (key bs:Nat) (D:Int->Prop) (E:List Entr) {w:World} (x:MA) (hx:McI w [] x) (H:List Int) (ha:Option Addr) (hc:Nat) (hin:In w [] ha (zu .i64 H)) (back:Bool) (he:ziI x H=0) :
 Calls Tryz.prog kW #[pS bs,x.v,.slice ha H.length hc,.bool back] w fun e w'=>∃ v L1,e=.returned v/\R w [] L1 w'/\zwp key bs ⟨x.m,H,back,D⟩ E v L1:=by
 refine zQ [.v (pS bs),.v x.v,.v (.slice ha H.length hc),.v (.bool back)] zjY (by simp) ?_
 obtain ⟨h0,hlen,hall⟩:=zsl he
 have hM:=zsg h0
 have hxn:x.m.nx.length=x.nr.length:=g8q ..
 have m1:=hM.most
 have m2:=hM.cls
 have m3:=hM.acc
 have hrl:∀ r∈x.nr,r.xs.length<=256:=fun r hr=>by
  have:=(hM.row r.xs (List.mem_map.2 ⟨r,hr,rfl⟩)).1
  have:=hM.k1
  omega
 have mc:x.m.cls.length=x.cls.length:=rfl
 have ma:x.m.acc.length=x.acc.length:=rfl
 have c1:=fun w' h=>zhZ (w:=w') x h ⟨by omega,fun r hr=>by have:=hrl r hr;omega⟩
 rw [h0] at c1
 have c2:=fun w' h=>zh0 79 (w:=w') x h ⟨by omega,by omega,by omega,fun r hr=>by have:=hrl r hr;omega⟩
 have c3:=fun w' h=>zcP 46 H (by omega) (w:=w') (a:=ha) hc h
 have hall2:∀ {i},i<H.length->0<=H.getD i 0/\H.getD i 0<=1048576:=fun {i} hi=>hall _ (zZ hi)
 have hx':=hx
 generalize hm:x.m=M at *
 obtain ⟨start,cls,ca,cc,nr,na,nc,acc,aa,ac⟩:=x
 dsimp only [MA.v,MA.cells] at *
 (repeat' ((conv=>whnf);first|refine zh ?_|(refine zm (.v _) (fun w' hR=>c1 w' (hx'.cast hR)) ?_)|((first|apply zc|apply za|apply zd)<;>intro h<;>try (exfalso;omega))|refine pay ?_|intro _));(all_goals (conv=>whnf))
 rename_i b5
 refine zw Nat (fun i=>[(0,.v (pS bs)),(2,.v (.slice ha H.length hc)),(3,.v (.bool back)),(5,.ptr 5 b5 0),(28,.v (.slice ha H.length hc)),(29,.v (.int .i64 H.length)),(30,.v (.int .i64 i))]) (fun i=>[.box 5 b5 [.int .i64 start,.slice ca cls.length cc,.slice na nr.length nc,.slice aa acc.length ac] zg]) (fun i=>i<=H.length) (fun i=>H.length - i) 0 (Nat.zero_le _) (by (repeat ((conv=>whnf);refine vS ?_));exact trivial) (Ref.takes [5] rfl (.refl _)) ?_
 intro i hi
 by_cases hlt:i<H.length
 ·have rdh:=fun {L:List Ent}=>rdI (L:=L) hin (i:=i) hlt
  have n1:ha≠none:=hin.ne' (k:=i) (by rw [ints_length];exact hlt)
  have q0:((i:Nat):Int).toNat=i:=by omega
  have hh:=hall2 hlt
  (repeat' ((conv=>whnf);first|rw [q0]|refine ⟨_,rdh,?_⟩|((first|apply zc|apply za|apply zd)<;>intro h<;>try (exfalso;omega))|refine pay ?_|intro _));(all_goals (conv=>whnf))
  all_goals try (exfalso;omega)
  all_goals exact zi (i+1) (by omega) (by omega) (by (repeat ((conv=>whnf);refine vS ?_));exact trivial) (Ref.takes [5] rfl (.refl _))
 ·(repeat' ((conv=>whnf);first|refine zh ?_|(refine zz (fun w' hR=>c2 w' (hx'.cast hR)) ?_;rintro _ _ ⟨⟨start',cls',ca',cc',nr',na',nc',acc',aa',ac'⟩,F,rfl,rfl,hF,hy⟩;refine ⟨.v _,rfl,?_⟩)|(refine zz (fun w' hR=>c3 w' (hin.cast hR (fun _ h=>by cases h))) ?_;rintro _ _ ⟨a1,c4,rfl,rfl⟩;refine ⟨.sl 46 _ _ _,rfl,?_⟩)|((first|apply zc|apply za|apply zd)<;>intro h<;>try (exfalso;omega))|refine pay ?_|intro _));(all_goals (conv=>whnf))
  all_goals try (exfalso;omega)
  have e1:(zu .i64 H).length=H.length:=ints_length
  have ok:TOk ⟨M,H,back,D⟩ E ⟨start',cls',ca',cc',nr',na',nc',acc',aa',ac'⟩ a1 [] (⟨a1,H.length,c4,zu .i64 H⟩::F) :=
   ⟨hF.mono (fun _ h=>g4q _ h),by rw [hy,hm],FIn.head,by simp,by simp,by simp⟩
  exact ⟨⟨_,((Ref.takes [46,79,50,48] rfl (.own (k':=46) e1 rfl (.refl _))).trans Ref.freezeRow).trans ((Ref.takes [50,48,79] rfl (.refl _)).trans (Ref.pack (key:=key) (f:=fX _ bs ⟨M,H,back,D⟩ E) ⟨_,a1,c4,_,[],_,ok⟩ (.box (by rw [e1]) (.map rfl (.abs (.nil _)))))),_,_,rfl,rfl⟩⟩
end
section
open Go.EG
theorem WF.byt {S:Sto} (hw:WF S):∀ (f:Nat) (n:Int),n.toNat<=f->n<=S.E.length->∀ x∈(tm S.E n).txt,x<256
 | f,n,hf,hn => by
   by_cases h0:n<=0
   ·intro x hx
    rw [tm,atE,if_pos h0] at hx
    simp [kJ,Tm.txt] at hx
   ·obtain ⟨hr,hl,ht,_⟩:=hw.at_ (by omega) hn
    rw [ht]
    unfold mkT
    cases f with
    | zero=>omega
    | succ f =>
      rcases hr with ⟨k1,_⟩|⟨k1,_,_,k4,k5,k6,k7⟩|⟨k1,_,_,k4,k5,k6⟩
      ·rw [if_pos k1]
       intro x hx
       simp [Tm.txt] at hx
       omega
      ·rw [if_neg (by omega),if_pos k1]
       intro x hx
       simp only [Tm.txt] at hx
       rcases List.mem_append.1 hx with hx|hx
       ·exact WF.byt hw f _ (by omega) (by omega) x hx
       ·exact WF.byt hw f _ (by omega) (by omega) x hx
      ·rw [if_neg (by omega),if_neg (by omega)]
       intro x hx
       simp only [Tm.txt] at hx
       have:x∈(tm S.E (atE S.E n).r.a).txt:=by
        generalize (tm S.E (atE S.E n).r.a).txt=u at *
        generalize (atE S.E n).r.t.toNat=q at *
        induction q with
        | zero=>rw [zaz] at hx;cases hx
        | succ q ih =>
          rw [vb] at hx
          rcases List.mem_append.1 hx with hx|hx
          ·exact hx
          ·exact ih hx
       exact WF.byt hw f _ (by omega) (by omega) x this
theorem WF.tim2 {S:Sto} (h:WF S) {n:Int} (h1:1<=n) (h2:n<=S.E.length):(atE S.E n).r.t<=9223372036854775807:=by
 obtain ⟨hr,_,ht,hl,_⟩:=h.at_ h1 h2
 rcases hr with hr|⟨e1,e2,e3,e4,e5,e6,e7⟩|⟨e1,e2,e3,e4,e5,e6⟩
 ·omega
 ·omega
 ·rw [ht] at hl
  unfold mkT at hl
  rw [if_neg (by omega),if_neg (by omega)] at hl
  unfold Tm.len at hl
  rw [Tm.txt,jP] at hl
  have hp:=h.pos1 e5 (by omega)
  unfold Tm.len at hp
  have:(atE S.E n).r.t.toNat<=LM:=Nat.le_trans (Nat.le_mul_of_pos_right _ hp) hl
  unfold LM at this
  omega
theorem zbe {u:List Nat} {x:Nat}:∀ {q:Nat},x∈rep q u->x∈u
 | 0,h=>by rw [zaz] at h;cases h
 | q + 1,h => by
   rw [vb] at h
   rcases List.mem_append.1 h with h|h
   ·exact h
   ·exact zbe h
section
variable {T:Tb} {k:Nat}
theorem eff_ok (hM:MOk T.M k) {H:List Int} {t:List Nat} (hb:∀ x∈t,x<256):EOk T.M.nx.length (kG T.M H t):=by
 refine ⟨(xD _ _ _).1,(xD _ _ _).2,fun q hq=>?_,fun q hq=>?_⟩
 ·rw [zaE _ _ _ hq]
  have:=xI hM hb hq
  omega
 ·rw [zaF _ _ _ hq]
  unfold BY
  omega
theorem zgC (hM:MOk T.M k) {H:List Int} {s t:List Nat} (hs:∀ x∈s,x<256):qF (kG T.M H s) (kG T.M H t)=kG T.M H (s++t):=by
 unfold qF
 rw [(xD _ _ _).1]
 have e:∀ q,q<T.M.nx.length->(kG T.M H s).en.getD q 0=(zA T.M q s:Int):=fun q hq=>zaE _ _ _ hq
 unfold kG
 congr 1
 ·refine List.map_congr_left fun q hq=>?_
  have hq:=List.mem_range.1 hq
  have h1:=e q hq
  unfold kG at h1
  dsimp only at h1 ⊢
  rw [h1,g7q]
  have h2:=zaE T.M H t (xI hM hs hq)
  unfold kG at h2
  dsimp only at h2
  rw [h2,(ziD T.M H s t q).1]
 ·refine List.map_congr_left fun q hq=>?_
  have hq:=List.mem_range.1 hq
  have h1:=e q hq
  have h3:=zaF T.M H s hq
  unfold kG at h1 h3
  dsimp only at h1 h3 ⊢
  rw [h1,g7q,h3]
  have h2:=zaF T.M H t (xI hM hs hq)
  unfold kG at h2
  dsimp only at h2
  rw [h2,←(ziD T.M H s t q).2]
  unfold BY
  omega
theorem zuo (hM:MOk T.M k) {s t:List Nat} (hs:∀ x∈s,x<256) (ht:∀ x∈t,x<256):T.eff (s++t)=if T.back then qF (T.eff t) (T.eff s) else qF (T.eff s) (T.eff t):=by
 unfold Tb.eff
 rw [zjZ]
 cases hB:T.back
 ·exact (zgC hM (fun x hx=>hs x ((jR _).1 hx))).symm
 ·exact (zgC hM (fun x hx=>ht x ((jR _).1 hx))).symm
theorem zvA (hM:MOk T.M k) {u:List Nat} (hu:∀ x∈u,x<256) (a b:Nat):qF (T.eff (rep a u)) (T.eff (rep b u))=T.eff (rep (a+b) u):=by
 unfold Tb.eff
 rw [zaG,zaG,zaG,kQ]
 exact zgC hM (fun x hx=>hu x ((jR _).1 (zbe hx)))
theorem Tb.eff_ok (hM:MOk T.M k) {t:List Nat} (hb:∀ x∈t,x<256):EOk T.M.nx.length (T.eff t):=Go.Proofs.YtjmlialibdobpaaGreatDoor.eff_ok hM (fun x hx=>hb x ((jR _).1 hx))
theorem zvB (hT:TbOk T k) {l:Nat} (hl:l<256) {q:Nat} (hq:q<T.M.nx.length):(T.eff [l]).en.getD q 0=(stp T.M q l:Int)/\(T.eff [l]).hi.getD q 0=T.H.getD (stp T.M q l) 0:=by
 have h0:ori T.back [l]=[l]:=by cases T.back<;>rfl
 unfold Tb.eff
 rw [h0,zaE _ _ _ hq,zaF _ _ _ hq]
 refine ⟨rfl,?_⟩
 have h1:=znW hT.m hq hl
 have h2:=hT.hit _ (zZ (l:=T.H) (i:=stp T.M q l) (d:=0) (by rw [hT.len];exact h1))
 simp only [zG,Nat.add_zero]
 unfold BY
 omega
end
theorem zqk {t i:Nat} (h:t/2 ^ i%2=1):t%2 ^ (i+1)=t%2 ^ i+2 ^ i:=by rw [zlR,h];omega
theorem zn8 {t i:Nat} (h:t/2 ^ i%2=0):t%2 ^ (i+1)=t%2 ^ i:=by rw [zlR,h];omega
theorem ziJ (t i:Nat):t/2 ^ i/2=t/2 ^ (i+1):=by rw [Nat.div_div_eq_div_mul,Nat.pow_succ]
theorem ziK {t i:Nat} (h:t/2 ^ i=0):t<2 ^ i:=by
 rcases Nat.lt_or_ge t (2 ^ i) with h1|h1
 ·exact h1
 ·have:=Nat.div_pos h1 (Nat.two_pow_pos i)
  omega
end
section
open Go.EG
attribute [local irreducible] zT yE Go.Calls
set_option maxRecDepth 20000
set_option maxHeartbeats 4000000
theorem EFz.in_ {w0 w:World} {fp0:List Nat} {L Lr:List Ent} {key:Nat} {F:List Frz} {x:EA} (hR:R w0 fp0 L w) (hm:qP key L=some (frE key F,Lr)) (h:EFz F x):EIn w [] x :=
 ⟨FIn.in_ hR ((zV hm).mem_iff.2 g5q) h.1,FIn.in_ hR ((zV hm).mem_iff.2 g5q) h.2⟩
def Ext' (F F':List Frz):Prop:=∃ G,F'=G++F
theorem Ext'.refl (F:List Frz):Ext' F F:=⟨[],rfl⟩
theorem Ext'.one {F F':List Frz} (h:Ext' F F') (a:Frz):Ext' F (a::F'):=by
 obtain ⟨G,rfl⟩:=h
 exact ⟨a::G,rfl⟩
theorem Ext'.mem {F F':List Frz} (h:Ext' F F'):∀ f∈F,f∈F':=by
 obtain ⟨G,rfl⟩:=h
 exact fun f hf=>List.mem_append_right _ hf
theorem Ext'.ref {w0:World} {fp0:List Nat} {L:List Ent} {F F':List Frz} {key:Nat} (h:Ext' F F'):Ref w0 fp0 (frE key F'::L) (frE key F::L):=by
 obtain ⟨G,rfl⟩:=h
 intro w hR
 have e:fps (frE key (G++F)::L)=vk G++fps (frE key F::L):=by
  simp only [zH,frE,Ent.fp,vk,List.flatMap_append,List.append_assoc]
 have hnd:=hR.nodup
 have hrg:=hR.range
 rw [e] at hnd hrg
 refine ⟨hR.os,hR.tape,hR.output,hR.drawn,hR.size,hR.old,(List.nodup_append.1 hnd).2.1,fun b hb=>hrg b (List.mem_append_right _ hb),fun x hx=>?_⟩
 rcases List.mem_cons.1 hx with rfl|hx
 ·intro w' hs f hf
  have h2:=hR.ok (frE key (G++F)) (by simp)
  have h3:=Ent.abs_ok h2 f (List.mem_append_right _ hf)
  intro j v hv
  obtain ⟨g,ha,hc⟩:=h3 j v hv
  refine ⟨g,ha,?_⟩
  rw [←hc]
  exact jw (hs g (List.mem_flatMap.2 ⟨f,hf,by simp [ha,Value.ownBlock]⟩))
 ·exact hR.ok x (g4q _ hx)
def zrl (bt bs:Nat) (T:Tb) (S:Sto) (y:MA) (ha:Option Addr) (hc mb:Nat) (K:List KE) (F:List Frz) (n:Int) (v:Value) (L1:List Ent):Prop :=
 ∃ k F',v=KE.v k/\L1=[.box 3000 bt (zad bs y ha T.H.length hc T.back mb) zN,.mapE 3001 mb (.int .i64) (knm K),frE 3002 F']/\Ext' F F'/\KOk T S.E F' k/\k.id=n
theorem KOk.simple {T:Tb} {E:List Entr} {F:List Frz} {n:Int} {x:EA} (hD:T.D n) (hp:1<=n/\n<=E.length) (he:x.e=T.eff (tm E n).txt) (hf:EFz F x) (hk:(atE E n).r.k≠3):KOk T E F ⟨n,x,none,0,[]⟩ :=
 ⟨hD,hp,he,hf,FIn.nil,fun h=>absurd h hk⟩
theorem jj {K:List KE} {i:Int} {k:KE} {A:Value->Prop} {B:Prop} (h:kfd K i=some k) (hA:A k.v):Stop ((∀ v,qI (knm K) (.int .i64 i)=some v->A v)/\(qI (knm K) (.int .i64 i)=none->B)) :=
 zau (by rw [ziH,h];rfl) hA
theorem zmy (bt bs:Nat) (T:Tb) {kk:Nat} (hT:TbOk T kk) (S:Sto) (hw:WF S) (y:MA) (ha:Option Addr) (hc mb:Nat) (K:List KE) (F:List Frz) (ok:TOk T S.E y ha K F) (n:Int) (h1:1<=n) (h2:n<=S.E.length) (hD:T.D n)
 (hk2:(atE S.E n).r.k=2) (x1 x2:KE) (g1:kfd K (atE S.E n).r.a=some x1) (g2:kfd K (atE S.E n).r.b=some x2) {w:World} {fp:List Nat} (hR:R w fp [.box 3000 bt (zad bs y ha T.H.length hc T.back mb) zN,.mapE 3001 mb (.int .i64) (knm K),frE 3002 F] w) :
 Calls Tryz.prog qu #[pS bt,ruV (atE S.E n).r] w fun e w'=>∃ v L1,e=.returned v/\R w fp L1 w'/\zrl bt bs T S y ha hc mb K F n v L1:=by
 refine zr [.ptr 3000 bt 0,.v (ruV (atE S.E n).r)] xP (by simp) hR ?_
 have v1:=ok.kn x1 (qU g1).1
 have v2:=ok.kn x2 (qU g2).1
 have i1:=(qU g1).2
 have i2:=(qU g2).2
 have hN:=hT.m.most
 have htx:(tm S.E n).txt=(tm S.E x1.id).txt++(tm S.E x2.id).txt:=by
  rw [i1,i2]
  rcases zfe hw h1 h2 with ⟨v,_⟩|⟨_,v,_⟩|⟨v,_⟩
  ·omega
  ·exact v
  ·omega
 have b1:∀ c∈(tm S.E x1.id).txt,c<256:=hw.byt _ _ (Nat.le_refl _) v1.pos.2
 have b2:∀ c∈(tm S.E x2.id).txt,c<256:=hw.byt _ _ (Nat.le_refl _) v2.pos.2
 have o1:EOk T.M.nx.length x1.wh.e:=by rw [v1.wh];exact Tb.eff_ok hT.m b1
 have o2:EOk T.M.nx.length x2.wh.e:=by rw [v2.wh];exact Tb.eff_ok hT.m b2
 have hj:=zuo hT.m b1 b2
 rw [←htx,←v1.wh,←v2.wh] at hj
 have f1:=v1.fz
 have f2:=v2.fz
 have q1:=uJ (atE S.E n).r.a
 have q2:=uJ (atE S.E n).r.b
 cases hB:T.back
 ·rw [hB,if_neg (by decide)] at hj
  have c1:=fun w' hx hy=>zbR (w:=w') hN x1.wh x2.wh hx hy o1 o2 501 502
  (repeat' ((conv=>whnf);first|refine jj g1 ?_|refine jj g2 ?_|refine ⟨.mp 3001 _,⟨rfl,rfl⟩,?_⟩|refine zh ?_|refine yI ?_ ?_|(refine zz (fun w' hR=>c1 w' (f1.in_ (key:=3002) hR rfl) (f2.in_ (key:=3002) hR rfl)) ?_;rintro _ _ ⟨ea,ec,ha',hc',rfl,rfl⟩;refine ⟨.v _,rfl,?_⟩)|((first|apply zc|apply za|apply zd)<;>intro h<;>try (exfalso;omega))|refine pay ?_|refine And.intro (by first|exact ⟨rfl,rfl,q1⟩|exact ⟨rfl,rfl,q2⟩|exact fun _=>Thin.ref (.skip (.refl _))|exact fun _=>Thin.ref (.skip (.skip (.refl _)))|exact Thin.ref (.skip (.refl _))|exact Thin.ref (.skip (.skip (.refl _)))|exact fun h=>Bool.noConfusion h) ?_|intro _));(all_goals (conv=>whnf))
  all_goals try (exfalso;omega)
  all_goals exact ⟨⟨_,(Ref.takes [501,3002,502,3000,3001] rfl (.refl _)).trans (Ref.freezeRow.trans ((Ref.takes [502,3002,3000,3001] rfl (.refl _)).trans (Ref.freezeRow.trans (Ref.takes [3000,3001,3002] rfl (.box (by rw [hB]) (.refl _)))))),⟨n,⟨qF x1.wh.e x2.wh.e,ea,ec,ha',hc'⟩,none,0,[]⟩,_,rfl,rfl,((Ext'.refl F).one _).one _,KOk.simple hD ⟨h1,h2⟩ hj.symm ⟨FIn.head.tail,FIn.head⟩ (by omega),rfl⟩⟩
 ·rw [hB,if_pos rfl] at hj
  have c1:=fun w' hx hy=>zbR (w:=w') hN x2.wh x1.wh hx hy o2 o1 501 502
  (repeat' ((conv=>whnf);first|refine jj g1 ?_|refine jj g2 ?_|refine ⟨.mp 3001 _,⟨rfl,rfl⟩,?_⟩|refine zh ?_|refine yI ?_ ?_|(refine zz (fun w' hR=>c1 w' (f2.in_ (key:=3002) hR rfl) (f1.in_ (key:=3002) hR rfl)) ?_;rintro _ _ ⟨ea,ec,ha',hc',rfl,rfl⟩;refine ⟨.v _,rfl,?_⟩)|((first|apply zc|apply za|apply zd)<;>intro h<;>try (exfalso;omega))|refine pay ?_|refine And.intro (by first|exact ⟨rfl,rfl,q1⟩|exact ⟨rfl,rfl,q2⟩|exact fun _=>Thin.ref (.skip (.refl _))|exact fun _=>Thin.ref (.skip (.skip (.refl _)))|exact Thin.ref (.skip (.refl _))|exact Thin.ref (.skip (.skip (.refl _)))|exact fun h=>Bool.noConfusion h) ?_|intro _));(all_goals (conv=>whnf))
  all_goals try (exfalso;omega)
  all_goals exact ⟨⟨_,(Ref.takes [501,3002,502,3000,3001] rfl (.refl _)).trans (Ref.freezeRow.trans ((Ref.takes [502,3002,3000,3001] rfl (.refl _)).trans (Ref.freezeRow.trans (Ref.takes [3000,3001,3002] rfl (.box (by rw [hB]) (.refl _)))))),⟨n,⟨qF x2.wh.e x1.wh.e,ea,ec,ha',hc'⟩,none,0,[]⟩,_,rfl,rfl,((Ext'.refl F).one _).one _,KOk.simple hD ⟨h1,h2⟩ hj.symm ⟨FIn.head.tail,FIn.head⟩ (by omega),rfl⟩⟩
structure LtG where
 b3:Nat
 b4:Nat
 b13:Nat
 a3:Option Addr
 c3:Nat
 a5:Option Addr
 c5:Nat
theorem zn9 (bt bs:Nat) (T:Tb) {kk:Nat} (hT:TbOk T kk) (S:Sto) (hw:WF S) (y:MA) (ha:Option Addr) (hc mb:Nat) (K:List KE) (F:List Frz) (ok:TOk T S.E y ha K F) (n:Int) (h1:1<=n) (h2:n<=S.E.length) (hD:T.D n)
 (hk1:(atE S.E n).r.k=1) {w:World} {fp:List Nat} (hR:R w fp [.box 3000 bt (zad bs y ha T.H.length hc T.back mb) zN,.mapE 3001 mb (.int .i64) (knm K),frE 3002 F] w) :
 Calls Tryz.prog qu #[pS bt,ruV (atE S.E n).r] w fun e w'=>∃ v L1,e=.returned v/\R w fp L1 w'/\zrl bt bs T S y ha hc mb K F n v L1:=by
 refine zr [.ptr 3000 bt 0,.v (ruV (atE S.E n).r)] xP (by simp) hR ?_
 obtain ⟨l,hl,hle,htx⟩:∃ l:Nat,(atE S.E n).r.l=l/\l<256/\(tm S.E n).txt=[l]:=by
  obtain ⟨_,hl,ht,_⟩:=hw.at_ h1 h2
  refine ⟨(atE S.E n).r.l.toNat,by omega,by omega,?_⟩
  rw [ht]
  unfold mkT
  rw [if_pos hk1];rfl
 have hNy:T.M.nx=y.nr.map RA.xs:=by rw [←ok.ym];rfl
 have hCy:T.M.cls=y.cls:=by rw [←ok.ym];rfl
 have hN:=hT.m.most
 have hN2:T.M.nx.length=y.nr.length:=by rw [hNy,g8q]
 have hcl:y.cls.length=256:=by rw [←hCy];exact hT.m.cls
 have hHl:=hT.len
 have eo:=(Tb.eff_ok hT.m (t:=[l]) (by simp;exact hle))
 have el:=fun q hq=>zvB hT hle (q:=q) hq
 have sl:=fun q hq=>znW hT.m (q:=q) (b:=l) hq hle
 have hJ:T.eff (tm S.E n).txt=T.eff [l]:=by rw [htx]
 generalize T.eff [l]=J at *
 obtain ⟨jn,jh⟩:=J
 obtain ⟨j1,j2,j3,j4⟩:=eo
 dsimp only at j1 j2 j3 j4 el
 have ny:=FIn.ne hR (key:=3002) (F:=F) (by simp) ok.mfz.nx (by rw [g8q,←hN2];exact hT.m.pos)
 have nc:=FIn.ne hR (key:=3002) (F:=F) (by simp) ok.mfz.cls (by rw [ints_length];omega)
 have nh:=FIn.ne hR (key:=3002) (F:=F) (by simp) ok.hfz (by rw [ints_length,hHl];exact hT.m.pos)
 have nr:=fun r (hr:r∈y.nr)=>FIn.ne hR (key:=3002) (F:=F) (by simp) (ok.mfz.row r hr) (by
  rw [ints_length]
  have:=hT.m.row r.xs (by rw [hNy];exact List.mem_map.2 ⟨r,hr,rfl⟩)
  have:=hT.m.k1
  omega)
 generalize hX:(atE S.E n).r=X at *
 (repeat' ((conv=>whnf);first|refine zh ?_|((first|apply zc|apply za|apply zd)<;>intro h<;>try (exfalso;omega))|refine pay ?_|intro _));(all_goals (conv=>whnf))
 refine zcu LtG (fun g=>[(0,.ptr 3000 bt 0),(3,.ptr 3 g.b3 0),(4,.ptr 4 g.b4 0),(13,.ptr 13 g.b13 0)])
  (fun g=>[.box 3 g.b3 [.int .i64 X.k,.int .u8 X.l,.int .i64 X.a,.int .i64 X.b,.int .i64 X.t] qc,.box 4 g.b4 [.slice none 0 0,.slice none 0 0,.slice none 0 0] xe,.box 13 g.b13 [.slice g.a3 y.nr.length g.c3,.slice g.a5 y.nr.length g.c5] zq,.own 103 g.a3 y.nr.length g.c3 qi 1 (zu .u8 (qz jn 0)),.own 105 g.a5 y.nr.length g.c5 zk 1 (zu .i64 (qz jh 0)),.box 3000 bt (zad bs y ha T.H.length hc T.back mb) zN,.mapE 3001 mb (.int .i64) (knm K),frE 3002 F]) (fun _=>True) ?_ ?_
 ·have z1:=zhY y.nr.length
  have z2:=zaa y.nr.length
  have f1:=zbP jn
  have f2:=zbP jh
  rw [j1,hN2] at f1
  rw [j2,hN2] at f2
  (repeat' ((conv=>whnf);first|refine ⟨.sl 103 _ _ _,⟨rfl,rfl,rfl,rfl⟩,?_⟩|refine ⟨.sl 105 _ _ _,⟨rfl,rfl,rfl,rfl⟩,?_⟩|refine ⟨.mp 3001 _,⟨rfl,rfl⟩,?_⟩|refine zh ?_|refine yI ?_ ?_|((first|apply zc|apply za|apply zd)<;>intro h<;>try (exfalso;omega))|refine pay ?_|refine And.intro (by first|exact ⟨by omega,jL rfl⟩|exact ⟨by unfold maxLen;omega,by omega⟩|exact fun _=>Thin.ref (.skip (.refl _))|exact fun _=>Thin.ref (.skip (.skip (.refl _)))|exact fun _=>Thin.ref (.skip (.skip (.skip (.refl _))))|exact Thin.ref (.skip (.refl _))|exact Thin.ref (.skip (.skip (.refl _)))|exact Thin.ref (.skip (.skip (.skip (.refl _))))|exact fun h=>Bool.noConfusion h) ?_|intro _));(all_goals (conv=>whnf))
  all_goals try (exfalso;omega)
  all_goals exact xJ ⟨_,_,_,_,_,_,_⟩ trivial (by (repeat ((conv=>whnf);refine vS ?_));exact trivial) (Ref.takes [3,4,13,103,105,3000,3001,3002] rfl (.keep rfl (fun _ h=>h) (.keep rfl (fun _ h=>h) (.keep rfl (fun _ h=>h) (.own rfl (z1.trans (congrArg _ f1.symm)) (.own rfl (z2.trans (congrArg _ f2.symm)) (.refl _)))))))
 ·rintro ⟨b3,b4,b13,a3,c3,a5,c5⟩ -
  dsimp only
  have h5:qz jn y.nr.length=jn:=by rw [←hN2,←j1];exact zds jn
  have h6:qz jh y.nr.length=jh:=by rw [←hN2,←j2];exact zds jh
  (repeat' ((conv=>whnf);first|refine zh ?_|((first|apply zc|apply za|apply zd)<;>intro h<;>try (exfalso;omega))|refine pay ?_|intro _));(all_goals (conv=>whnf))
  refine zw Nat (fun q=>[(0,.ptr 3000 bt 0),(3,.ptr 3 b3 0),(4,.ptr 4 b4 0),(13,.ptr 13 b13 0),(111,.v (.slice y.na y.nr.length y.nc)),(112,.v (.int .i64 y.nr.length)),(113,.v (.int .i64 q))])
   (fun q=>[.box 3 b3 [.int .i64 X.k,.int .u8 X.l,.int .i64 X.a,.int .i64 X.b,.int .i64 X.t] qc,.box 4 b4 [.slice none 0 0,.slice none 0 0,.slice none 0 0] xe,.box 13 b13 [.slice a3 y.nr.length c3,.slice a5 y.nr.length c5] zq,.own 103 a3 y.nr.length c3 qi 1 (zu .u8 (qz jn q)),.own 105 a5 y.nr.length c5 zk 1 (zu .i64 (qz jh q)),.box 3000 bt (zad bs y ha T.H.length hc T.back mb) zN,.mapE 3001 mb (.int .i64) (knm K),frE 3002 F]) (fun q=>q<=y.nr.length) (fun q=>y.nr.length - q) 0 (Nat.zero_le _) (by (repeat ((conv=>whnf);refine vS ?_));exact trivial) (Ref.refl _) ?_
  intro q hq
  by_cases hlt:q<y.nr.length
  ·obtain ⟨r,hr⟩:∃ r,y.nr[q]?=some r:=⟨_,g2q hlt⟩
   have hmem:r∈y.nr:=List.mem_of_getElem? hr
   have rdr:=fun {L Lr:List Ent} (hm:qP 3002 L=some (frE 3002 F,Lr))=>FIn.rdP (w0:=w) (fp0:=fp) hm ok.mfz.nx (k:=q) (v:=r.v) (by rw [List.getElem?_map,hr];rfl)
   have hcg:(zu .i64 y.cls)[l]?=some (.int .i64 (y.cls.getD l 0)):=yM (by omega)
   have rdc:=fun {L Lr:List Ent} (hm:qP 3002 L=some (frE 3002 F,Lr))=>FIn.rdP (w0:=w) (fp0:=fp) hm ok.mfz.cls (k:=l) hcg
   obtain ⟨r1,r2⟩:=hT.m.row r.xs (by rw [hNy];exact List.mem_map.2 ⟨r,hmem,rfl⟩)
   have hcm:=hT.m.letter (y.cls.getD l 0) (by rw [hCy];exact zZ (by omega))
   obtain ⟨c,hc'⟩:∃ c:Nat,y.cls.getD l 0=c:=⟨(y.cls.getD l 0).toNat,by omega⟩
   have rde:=fun {L Lr:List Ent} (hm:qP 3002 L=some (frE 3002 F,Lr))=>FIn.rdP (w0:=w) (fp0:=fp) hm (ok.mfz.row r hmem) (k:=c) (v:=.int .i64 (r.xs.getD c 0)) (yM (by omega))
   have hem:=r2 _ (zZ (d:=0) (i:=c) (l:=r.xs) (by omega))
   have hst:stp T.M q l=(r.xs.getD c 0).toNat:=by
    unfold stp
    rw [hNy,hCy,hc',g7q]
    congr 2
    rw [g1q,List.getElem?_map,hr];rfl
   obtain ⟨e,he⟩:∃ e:Nat,r.xs.getD c 0=e:=⟨(r.xs.getD c 0).toNat,by omega⟩
   rw [he,g7q] at hst
   simp only [he] at rde hem
   simp only [hc'] at rdc hcm
   have rdh:=fun {L Lr:List Ent} (hm:qP 3002 L=some (frE 3002 F,Lr))=>FIn.rdP (w0:=w) (fp0:=fp) hm ok.hfz (k:=e) (v:=.int .i64 (T.H.getD e 0)) (yM (by omega))
   obtain ⟨je1,je2⟩:=el q (by omega)
   rw [hst] at je1 je2
   have q0:((q:Nat):Int).toNat=q:=by omega
   have q1:((l:Nat):Int).toNat=l:=by omega
   have q2:((c:Nat):Int).toNat=c:=by omega
   have q3:((e:Nat):Int).toNat=e:=by omega
   have m1:(e:Int)%256=e:=Int.emod_eq_of_lt (by omega) (by omega)
   have l1:=jS jn (i:=q) (by omega)
   have l2:=jS jh (i:=q) (by omega)
   have s1:zv (zu .u8 (qz jn q)) q [.int .u8 e]=zu .u8 (qz jn (q+1)):=by
    rw [za0 (by omega),←je1,zdt jn (by omega)]
   have s2:zv (zu .i64 (qz jh q)) q [.int .i64 (T.H.getD e 0)]=zu .i64 (qz jh (q+1)):=by
    rw [za0 (by omega),←je2,zdt jh (by omega)]
   have bb1:q+1<=(zu .u8 (qz jn q)).length:=by rw [ints_length];omega
   have bb2:q+1<=(zu .i64 (qz jh q)).length:=by rw [ints_length];omega
   have nr':=nr r hmem
   (repeat' ((conv=>whnf);first|rw [q0]|rw [hl]|rw [q1]|rw [q2]|rw [q3]|rw [m1]|rw [s1]|rw [s2]|refine ⟨_,_,_,rdr rfl,?_⟩|refine ⟨_,rdc rfl,?_⟩|refine ⟨_,rde rfl,?_⟩|refine ⟨_,rdh rfl,?_⟩|refine ⟨.sl 103 _ _ _,⟨rfl,rfl,rfl,rfl⟩,?_⟩|refine ⟨.sl 105 _ _ _,⟨rfl,rfl,rfl,rfl⟩,?_⟩|refine zh ?_|refine yI ?_ ?_|((first|apply zc|apply za|apply zd)<;>intro h<;>try (exfalso;omega))|refine pay ?_|refine And.intro (by first|exact ⟨rfl,bb1⟩|exact ⟨rfl,bb2⟩) ?_|intro _));(all_goals (conv=>whnf))
   all_goals try (exfalso;omega)
   all_goals exact zi (q+1) (by omega) (by omega) (by (repeat ((conv=>whnf);refine vS ?_));exact trivial) (Ref.refl _)
  ·obtain rfl:q=y.nr.length:=by omega
   rw [h5,h6]
   (repeat' ((conv=>whnf);first|((first|apply zc|apply za|apply zd)<;>intro h<;>try (exfalso;omega))|refine pay ?_|intro _));(all_goals (conv=>whnf))
   all_goals try (exfalso;omega)
   have e1:y.nr.length=jn.length:=by omega
   have e2:y.nr.length=jh.length:=by omega
   refine ⟨⟨_,(Ref.takes [103,3002,105,3000,3001] rfl (.refl _)).trans (Ref.freezeRow.trans ((Ref.takes [105,3002,3000,3001] rfl (.refl _)).trans (Ref.freezeRow.trans (Ref.takes [3000,3001,3002] rfl (.refl _))))),⟨n,⟨⟨jn,jh⟩,a3,c3,a5,c5⟩,none,0,[]⟩,_,?_,rfl,((Ext'.refl F).one _).one _,KOk.simple hD ⟨h1,h2⟩ hJ.symm ⟨FIn.head.tail,FIn.head⟩ (by rw [hX];omega),rfl⟩⟩
   dsimp only [KE.v]
   rw [←e1,←e2];rfl
structure PwG where
 l:Nat
 cs:List EA
 one:EA
 wh:EA
 begun:Bool
 F:List Frz
 a:Option Addr
 c:Nat
structure PwI (T:Tb) (t:Nat) (u:List Nat) (F0:List Frz) (g:PwG):Prop where
 len:g.cs.length=g.l+1
 most:g.l<64
 one:g.cs[g.l]?=some g.one
 sub:Ext' F0 g.F
 cs:∀ i x,g.cs[i]?=some x->EFz g.F x/\x.e=T.eff (rep (2 ^ i) u)
 wh:EFz g.F g.wh
 yes:g.begun=true->g.wh.e=T.eff (rep (t%2 ^ (g.l+1)) u)
 no:g.begun=false->t%2 ^ (g.l+1)=0
theorem zoa (bt bs:Nat) (T:Tb) {kk:Nat} (hT:TbOk T kk) (S:Sto) (hw:WF S) (y:MA) (ha:Option Addr) (hc mb:Nat) (K:List KE) (F:List Frz) (ok:TOk T S.E y ha K F) (n:Int) (h1:1<=n) (h2:n<=S.E.length) (hD:T.D n)
 (hk3:(atE S.E n).r.k=3) (x1:KE) (g1:kfd K (atE S.E n).r.a=some x1) {w:World} {fp:List Nat} (hR:R w fp [.box 3000 bt (zad bs y ha T.H.length hc T.back mb) zN,.mapE 3001 mb (.int .i64) (knm K),frE 3002 F] w) :
 Calls Tryz.prog qu #[pS bt,ruV (atE S.E n).r] w fun e w'=>∃ v L1,e=.returned v/\R w fp L1 w'/\zrl bt bs T S y ha hc mb K F n v L1:=by
 refine zr [.ptr 3000 bt 0,.v (ruV (atE S.E n).r)] xP (by simp) hR ?_
 have v1:=ok.kn x1 (qU g1).1
 have i1:=(qU g1).2
 have hN:=hT.m.most
 have hti:=hw.tim2 h1 h2
 obtain ⟨htx,ht2⟩:(tm S.E n).txt=rep (atE S.E n).r.t.toNat (tm S.E (atE S.E n).r.a).txt/\2<=(atE S.E n).r.t:=by
  rcases zfe hw h1 h2 with ⟨v,_⟩|⟨v,_⟩|⟨_,v,_,_,v2⟩
  ·omega
  ·omega
  ·exact ⟨v,v2⟩
 obtain ⟨t,ht⟩:∃ t:Nat,(atE S.E n).r.t=t:=⟨(atE S.E n).r.t.toNat,by omega⟩
 rw [ht,g7q] at htx
 have bu:∀ c∈(tm S.E (atE S.E n).r.a).txt,c<256:=by rw [←i1];exact hw.byt _ _ (Nat.le_refl _) v1.pos.2
 have hwh:=v1.wh
 rw [i1] at hwh
 have f1:=v1.fz
 have q1:=uJ (atE S.E n).r.a
 have hlast:∀ {F':List Frz} {k:KE},k.wh.e=T.eff (rep t (tm S.E (atE S.E n).r.a).txt)->k.id=n->EFz F' k.wh->FIn F' k.ca (zcQ k.cs)->t<2 ^ k.cs.length->(∀ i x,k.cs[i]?=some x->EFz F' x/\x.e=T.eff (rep (2 ^ i) (tm S.E (atE S.E n).r.a).txt))->KOk T S.E F' k:=fun {F'} {k} p1 p2 p3 p4 p5 p6=>by
  subst p2
  exact ⟨hD,⟨h1,h2⟩,by rw [htx];exact p1,p3,p4,fun _=>⟨by rw [ht];exact_mod_cast p5,p6⟩⟩
 have hX:∀ {F':List Frz} {k:KE},KOk T S.E F' k->KOk T S.E F' k:=fun h=>h
 generalize (tm S.E (atE S.E n).r.a).txt=u at *
 generalize (atE S.E n).r=X at *
 have eok:∀ {q:Nat} {x:EA},x.e=T.eff (rep q u)->EOk T.M.nx.length x.e:=fun h=>by rw [h];exact Tb.eff_ok hT.m (fun x hx=>bu x (zbe hx))
 have ejn:∀ {a b:Nat} {x z:EA},x.e=T.eff (rep a u)->z.e=T.eff (rep b u)->qF x.e z.e=T.eff (rep (a+b) u):=fun h k=>by rw [h,k];exact zvA hT.m bu _ _
 rw [show u=rep 1 u from (x7 u).symm] at hwh
 have sb:0<=(1:Int)/\(1:Int)<=biK .i64:=by decide
 have sd:∀ x:Nat,(x:Int)/((2 ^ Int.toNat 1:Nat):Int)=((x/2:Nat):Int):=fun x=>by
  rw [show (2 ^ Int.toNat 1:Nat)=2 from rfl];omega
 have sn:∀ x:Nat,((x:Int).toNat&&&Int.toNat 1)=x%2:=fun x=>by
  rw [g7q];exact Nat.and_one_is_mod x
 (repeat' ((conv=>whnf);first|rw [ht]|rw [sd]|rw [sn]|refine jj g1 ?_|refine ⟨.mp 3001 _,⟨rfl,rfl⟩,?_⟩|refine zh ?_|refine yI ?_ ?_|((first|apply zc|apply za|apply zd)<;>intro h<;>try (exfalso;omega))|refine pay ?_|refine And.intro (by first|exact sb|exact ⟨rfl,rfl,q1⟩|exact fun _=>Thin.ref (.skip (.refl _))|exact fun _=>Thin.ref (.skip (.skip (.refl _)))|exact Thin.ref (.skip (.refl _))|exact Thin.ref (.skip (.skip (.refl _)))|exact fun h=>Bool.noConfusion h) ?_|intro _));(all_goals (conv=>whnf))
 rename_i b3 b4 _ b7 b58 b9
 have hlt:t<=9223372036854775807:=by omega
 refine zw PwG (fun g=>[(0,.ptr 3000 bt 0),(3,.ptr 3 b3 0),(4,.ptr 4 b4 0),(7,.ptr 7 b7 0),(9,.ptr 9 b9 0),(8,.sl 58 g.a (g.l+1) g.c),(10,.v (.bool g.begun)),(11,.v (.int .i64 ((t/2 ^ (g.l+1):Nat):Int)))])
  (fun g=>[.box 3 b3 [.int .i64 X.k,.int .u8 X.l,.int .i64 X.a,.int .i64 X.b,.int .i64 X.t] qc,.box 4 b4 [.slice none 0 0,.slice none 0 0,.slice none 0 0] xe,.box 7 b7 g.one.cells zq,.box 9 b9 g.wh.cells zq,.own 58 g.a (g.l+1) g.c zq 2 (zcQ g.cs),.box 3000 bt (zad bs y ha T.H.length hc T.back mb) zN,.mapE 3001 mb (.int .i64) (knm K),frE 3002 g.F])
  (PwI T t u F) (fun g=>t/2 ^ (g.l+1)) ⟨0,[x1.wh],x1.wh,x1.wh,decide (((t%2:Nat):Int)=1),F,_,_⟩ ?_ (by (repeat ((conv=>whnf);refine vS ?_));exact trivial) (Ref.takes [3,4,7,9,58,3000,3001,3002] rfl (.box (by rw [ht]) (.refl _))) ?_
 ·refine ⟨rfl,Nat.zero_lt_succ 63,rfl,Ext'.refl F,fun i x hx=>?_,f1,fun hb=>?_,fun hb=>?_⟩
  ·cases i with
   | zero=>cases hx;exact ⟨f1,hwh⟩
   | succ i=>cases hx
  ·have hb':=of_decide_eq_true hb
   show x1.wh.e=T.eff (rep (t%2 ^ 1) u)
   rw [show t%2 ^ 1=1 by omega];exact hwh
  ·have hb':=of_decide_eq_false hb
   show t%2 ^ 1=0
   omega
 rintro ⟨i,cs,one,wh,begun,F1,a58,c58⟩ ⟨p1,p2,p3,p4,p5,p6,p7,p8⟩
 dsimp only at p1 p2 p3 p4 p5 p6 p7 p8 ⊢
 obtain ⟨o1,o2⟩:=p5 i one p3
 have oo:=eok o2
 have hj:=ejn o2 o2
 rw [←Nat.two_mul,Nat.mul_comm,←Nat.pow_succ] at hj
 have c1:=fun w' hx hy=>zbR (w:=w') hN one one hx hy oo oo 501 502
 have hql:t/2 ^ (i+1)<=t:=Nat.div_le_self _ _
 generalize hq:t/2 ^ (i+1)=q at *
 have sd2:(q:Int)/((2 ^ Int.toNat 1:Nat):Int)=((t/2 ^ (i+2):Nat):Int):=by
  rw [sd,←hq,ziJ]
 by_cases h0:q=0
 ·subst h0
  have hb:begun=true:=by
   cases begun
   ·exfalso
    have e1:=p8 rfl
    have e2:=ziK hq
    rw [Nat.mod_eq_of_lt e2] at e1
    omega
   ·rfl
  subst hb
  have e2:=ziK hq
  have e3:=p7 rfl
  rw [Nat.mod_eq_of_lt e2] at e3
  (repeat' ((conv=>whnf);first|refine ⟨.sl 58 _ _ _,⟨rfl,rfl,rfl,rfl⟩,?_⟩|refine zh ?_|((first|apply zc|apply za|apply zd)<;>intro h<;>try (exfalso;omega))|refine pay ?_|intro _));(all_goals (conv=>whnf))
  all_goals try (exfalso;omega)
  refine ⟨⟨_,(Ref.takes [58,3002,3000,3001] rfl (.refl _)).trans (Ref.freezeRow.trans (Ref.takes [3000,3001,3002] rfl (.refl _))),⟨n,wh,a58,c58,cs⟩,_,?_,rfl,p4.one _,hlast e3 rfl ⟨p6.1.tail,p6.2.tail⟩ FIn.head (by rw [p1];exact e2) (fun i x hx=>⟨⟨(p5 i x hx).1.1.tail,(p5 i x hx).1.2.tail⟩,(p5 i x hx).2⟩),rfl⟩⟩
  dsimp only [KE.v]
  rw [p1];rfl
 ·have hge:2 ^ (i+1)<=t:=by
   rcases Nat.lt_or_ge t (2 ^ (i+1)) with h|h
   ·rw [Nat.div_eq_of_lt h] at hq;omega
   ·exact h
  have hi62:i+1<63:=by
   have:2 ^ (i+1)<2 ^ 63:=by omega
   exact (Nat.pow_lt_pow_iff_right (by decide)).1 this
  have hmu:t/2 ^ (i+2)<q:=by rw [←ziJ,hq];omega
  have csz:∀ {z:EA} {F':List Frz},(∀ f∈F1,f∈F')->EFz F' z->z.e=T.eff (rep (2 ^ (i+1)) u)->∀ j x,(cs++[z])[j]?=some x->EFz F' x/\x.e=T.eff (rep (2 ^ j) u):=fun {z F'} hs hf he j x hx=>by
   rw [List.getElem?_append] at hx
   split at hx
   ·exact ⟨(p5 j x hx).1.mono hs,(p5 j x hx).2⟩
   ·have:j - cs.length=0/\x=z:=by
     cases h:j - cs.length with
     | zero=>rw [h] at hx;exact ⟨rfl,by simpa [eq_comm] using hx⟩
     | succ k=>rw [h] at hx;cases hx
    obtain ⟨h1,rfl⟩:=this
    rw [show j=i+1 by omega]
    exact ⟨hf,he⟩
  have hsn:=fun z=>zsk cs z
  by_cases hbit:q%2=1
  ·have hm:=zqk (t:=t) (i:=i+1) (by rw [hq];exact hbit)
   cases begun
   ·have e1:=p8 rfl
    (repeat' ((conv=>whnf);first|rw [ht]|rw [sd2]|rw [sn]|(refine zz (fun w' hR=>c1 w' (o1.in_ (key:=3002) hR rfl) (o1.in_ (key:=3002) hR rfl)) ?_;rintro _ _ ⟨ea,ec,hb,hcb,rfl,rfl⟩;refine ⟨.v _,rfl,?_⟩)|refine ⟨.sl 58 _ _ _,⟨rfl,rfl,rfl,rfl⟩,?_⟩|refine zh ?_|((first|apply zc|apply za|apply zd)<;>intro h<;>try (exfalso;omega))|refine pay ?_|refine And.intro (by first|exact sb|exact ⟨by unfold maxLen;omega,by omega⟩) ?_|intro _));(all_goals (conv=>whnf))
    all_goals try (exfalso;omega)
    all_goals refine zi ⟨i+1,cs++[⟨qF one.e one.e,ea,ec,hb,hcb⟩],⟨qF one.e one.e,ea,ec,hb,hcb⟩,⟨qF one.e one.e,ea,ec,hb,hcb⟩,true,_,_,_⟩ ?_ hmu (by (repeat ((conv=>whnf);refine vS ?_));exact trivial) ((Ref.takes [501,3002,502,3,4,7,9,58,3000,3001] rfl (.refl _)).trans (Ref.freezeRow.trans ((Ref.takes [502,3002,3,4,7,9,58,3000,3001] rfl (.refl _)).trans (Ref.freezeRow.trans (Ref.takes [3,4,7,9,58,3000,3001,3002] rfl (.keep rfl (fun _ h=>h) (.keep rfl (fun _ h=>h) (.keep rfl (fun _ h=>h) (.keep rfl (fun _ h=>h) (.own rfl (hsn ⟨qF one.e one.e,ea,ec,hb,hcb⟩) (.refl _)))))))))))
    all_goals exact ⟨by simp [p1],by show i+1<64;omega,by show (cs++[_])[i+1]?=some _;rw [List.getElem?_append_right (by omega)];simp [p1],(p4.one _).one _,csz (fun f hf=>g4q _ (g4q _ hf)) ⟨FIn.head.tail,FIn.head⟩ hj,⟨FIn.head.tail,FIn.head⟩,fun _=>by show qF one.e one.e=T.eff (rep (t%2 ^ (i+2)) u);rw [hj,hm,e1,Nat.zero_add],fun h=>Bool.noConfusion h⟩
   ·have e1:=p7 rfl
    have hj2:=ejn e1 (z:=⟨qF one.e one.e,none,0,none,0⟩) hj
    rw [←hm] at hj2
    have ow:=eok e1
    have oz:=znZ oo oo
    have c2:=fun ea ec hb hcb w' hx hy=>zbR (w:=w') hN wh ⟨qF one.e one.e,ea,ec,hb,hcb⟩ hx hy ow oz 503 504
    (repeat' ((conv=>whnf);first|rw [ht]|rw [sd2]|rw [sn]|(refine zz (fun w' hR=>c1 w' (o1.in_ (key:=3002) hR rfl) (o1.in_ (key:=3002) hR rfl)) ?_;rintro _ _ ⟨ea,ec,hb,hcb,rfl,rfl⟩;refine ⟨.v _,rfl,?_⟩)|(refine zz (fun w' hR=>c2 _ _ _ _ w' (p6.in_ (key:=3002) hR rfl) ⟨In.ownR (key:=501) hR rfl,In.ownR (key:=502) hR rfl⟩) ?_;rintro _ _ ⟨ea2,ec2,hb2,hcb2,rfl,rfl⟩;refine ⟨.v _,rfl,?_⟩)|refine ⟨.sl 58 _ _ _,⟨rfl,rfl,rfl,rfl⟩,?_⟩|refine zh ?_|((first|apply zc|apply za|apply zd)<;>intro h<;>try (exfalso;omega))|refine pay ?_|refine And.intro (by first|exact sb|exact ⟨by unfold maxLen;omega,by omega⟩) ?_|intro _));(all_goals (conv=>whnf))
    all_goals try (exfalso;omega)
    all_goals refine zi ⟨i+1,cs++[⟨qF one.e one.e,ea,ec,hb,hcb⟩],⟨qF one.e one.e,ea,ec,hb,hcb⟩,⟨qF wh.e (qF one.e one.e),ea2,ec2,hb2,hcb2⟩,true,_,_,_⟩ ?_ hmu (by (repeat ((conv=>whnf);refine vS ?_));exact trivial) ((Ref.takes [501,3002,502,503,504,3,4,7,9,58,3000,3001] rfl (.refl _)).trans (Ref.freezeRow.trans ((Ref.takes [502,3002,503,504,3,4,7,9,58,3000,3001] rfl (.refl _)).trans (Ref.freezeRow.trans ((Ref.takes [503,3002,504,3,4,7,9,58,3000,3001] rfl (.refl _)).trans (Ref.freezeRow.trans ((Ref.takes [504,3002,3,4,7,9,58,3000,3001] rfl (.refl _)).trans (Ref.freezeRow.trans (Ref.takes [3,4,7,9,58,3000,3001,3002] rfl (.keep rfl (fun _ h=>h) (.keep rfl (fun _ h=>h) (.keep rfl (fun _ h=>h) (.keep rfl (fun _ h=>h) (.own rfl (hsn ⟨qF one.e one.e,ea,ec,hb,hcb⟩) (.refl _)))))))))))))))
    all_goals exact ⟨by simp [p1],by show i+1<64;omega,by show (cs++[_])[i+1]?=some _;rw [List.getElem?_append_right (by omega)];simp [p1],(((p4.one _).one _).one _).one _,csz (fun f hf=>g4q _ (g4q _ (g4q _ (g4q _ hf)))) ⟨FIn.head.tail.tail.tail,FIn.head.tail.tail⟩ hj,⟨FIn.head.tail,FIn.head⟩,fun _=>hj2,fun h=>Bool.noConfusion h⟩
  ·have hm:=zn8 (t:=t) (i:=i+1) (by rw [hq];omega)
   (repeat' ((conv=>whnf);first|rw [ht]|rw [sd2]|rw [sn]|(refine zz (fun w' hR=>c1 w' (o1.in_ (key:=3002) hR rfl) (o1.in_ (key:=3002) hR rfl)) ?_;rintro _ _ ⟨ea,ec,hb,hcb,rfl,rfl⟩;refine ⟨.v _,rfl,?_⟩)|refine ⟨.sl 58 _ _ _,⟨rfl,rfl,rfl,rfl⟩,?_⟩|refine zh ?_|((first|apply zc|apply za|apply zd)<;>intro h<;>try (exfalso;omega))|refine pay ?_|refine And.intro (by first|exact sb|exact ⟨by unfold maxLen;omega,by omega⟩) ?_|intro _));(all_goals (conv=>whnf))
   all_goals try (exfalso;omega)
   all_goals refine zi ⟨i+1,cs++[⟨qF one.e one.e,ea,ec,hb,hcb⟩],⟨qF one.e one.e,ea,ec,hb,hcb⟩,wh,begun,_,_,_⟩ ?_ hmu (by (repeat ((conv=>whnf);refine vS ?_));exact trivial) ((Ref.takes [501,3002,502,3,4,7,9,58,3000,3001] rfl (.refl _)).trans (Ref.freezeRow.trans ((Ref.takes [502,3002,3,4,7,9,58,3000,3001] rfl (.refl _)).trans (Ref.freezeRow.trans (Ref.takes [3,4,7,9,58,3000,3001,3002] rfl (.keep rfl (fun _ h=>h) (.keep rfl (fun _ h=>h) (.keep rfl (fun _ h=>h) (.keep rfl (fun _ h=>h) (.own rfl (hsn ⟨qF one.e one.e,ea,ec,hb,hcb⟩) (.refl _)))))))))))
   all_goals exact ⟨by simp [p1],by show i+1<64;omega,by show (cs++[_])[i+1]?=some _;rw [List.getElem?_append_right (by omega)];simp [p1],(p4.one _).one _,csz (fun f hf=>g4q _ (g4q _ hf)) ⟨FIn.head.tail,FIn.head⟩ hj,p6.mono (fun f hf=>g4q _ (g4q _ hf)),fun hb=>by show wh.e=T.eff (rep (t%2 ^ (i+2)) u);rw [hm];exact p7 hb,fun hb=>by show t%2 ^ (i+2)=0;rw [hm];exact p8 hb⟩
end
section
open Go.EG
theorem zfh:∀ (n:Nat) (l:List Int),l.Nodup->(∀ x∈l,1<=x/\x<=n)->l.length<=n
 | 0,l,_,h => by
   cases l with
   | nil=>exact Nat.le_refl 0
   | cons x l=>have:=h x g5q;omega
 | n + 1,l,hn,h => by
   by_cases hm:((n+1:Nat):Int)∈l
   ·have h1:=zfh n (l.erase ((n+1:Nat):Int)) (hn.erase _) (fun x hx=>by
     have hx':=(hn.mem_erase_iff).1 hx
     have:=h x hx'.2
     omega)
    rw [List.length_erase_of_mem hm] at h1
    omega
   ·have h1:=zfh n l hn (fun x hx=>by
     have:=h x hx
     have hne:x≠((n+1:Nat):Int):=fun he=>hm (he ▸ hx)
     omega)
    omega
theorem TOk.len {T:Tb} {E:List Entr} {y:MA} {ha:Option Addr} {K:List KE} {F:List Frz} (h:TOk T E y ha K F):K.length<=E.length:=by
 have:=zfh E.length (K.map KE.id) h.nd (fun x hx=>by
  obtain ⟨k,hk,rfl⟩:=List.mem_map.1 hx
  exact (h.kn k hk).pos)
 rwa [g8q] at this
theorem zet {K:List KE} {i:Int} (h:∃ k∈K,k.id=i):∃ k,kfd K i=some k:=by
 cases hk:kfd K i with
 | some k=>exact ⟨k,rfl⟩
 | none =>
   obtain ⟨k,h1,h2⟩:=h
   exact absurd h2 (ziG hk k h1)
theorem kfd_app {K:List KE} {k':KE} {i:Int}:(∃ k,kfd (K++[k']) i=some k)↔(∃ k,kfd K i=some k)∨k'.id=i:=by
 constructor
 ·rintro ⟨k,hk⟩
  obtain ⟨h1,h2⟩:=qU hk
  rcases List.mem_append.1 h1 with h1|h1
  ·exact .inl (zet ⟨k,h1,h2⟩)
  ·rw [List.mem_singleton.1 h1] at h2;exact .inr h2
 ·rintro (⟨k,hk⟩|h)
  ·obtain ⟨h1,h2⟩:=qU hk
   exact zet ⟨k,List.mem_append_left _ h1,h2⟩
  ·exact zet ⟨k',by simp,h⟩
theorem TOk.add {T:Tb} {E:List Entr} {y:MA} {ha:Option Addr} {K:List KE} {F F':List Frz} (h:TOk T E y ha K F) (hs:∀ f∈F,f∈F') {k:KE} (hk:KOk T E F' k) (hn:kfd K k.id=none)
 (ra:(atE E k.id).r.k≠1->∃ k',kfd K (atE E k.id).r.a=some k') (rb:(atE E k.id).r.k=2->∃ k',kfd K (atE E k.id).r.b=some k'):TOk T E y ha (K++[k]) F':=by
 have up:∀ {i:Int},(∃ k',kfd K i=some k')->∃ k'∈K++[k],k'.id=i:=fun ⟨k',hk'⟩=>⟨k',List.mem_append_left _ (qU hk').1,(qU hk').2⟩
 refine ⟨h.mfz.mono hs,h.ym,h.hfz.mono hs,fun q hq=>?_,?_,fun q hq=>?_⟩
 ·rcases List.mem_append.1 hq with hq|hq
  ·exact (h.kn q hq).mono hs
  ·rw [List.mem_singleton.1 hq];exact hk
 ·rw [List.map_append,List.nodup_append]
  refine ⟨h.nd,by simp,fun a ha b hb hab=>?_⟩
  obtain ⟨q,hq,rfl⟩:=List.mem_map.1 ha
  have:b=k.id:=by simpa using hb
  subst this
  exact ziG hn q hq hab
 ·rcases List.mem_append.1 hq with hq|hq
  ·obtain ⟨c1,c2⟩:=h.clo q hq
   refine ⟨fun hh=>?_,fun hh=>?_⟩
   ·obtain ⟨k',h1,h2⟩:=c1 hh;exact ⟨k',List.mem_append_left _ h1,h2⟩
   ·obtain ⟨k',h1,h2⟩:=c2 hh;exact ⟨k',List.mem_append_left _ h1,h2⟩
  ·rw [List.mem_singleton.1 hq]
   exact ⟨fun hh=>up (ra hh),fun hh=>up (rb hh)⟩
def zob (K:List KE) (x:Int):Bool:=(kfd K x).isNone
theorem unkB_iff {K:List KE} {x:Int}:zob K x=true↔kfd K x=none:=by unfold zob;cases kfd K x<;>simp
structure LrI (T:Tb) (i:Nat) (K:List KE) (st:List Int):Prop where
 bnd:∀ (j:Nat) (y:Int),st[j]?=some y->1<=y/\(j:Int)+2*y<=2*i+1
 D:∀ y∈st,T.D y
 bot:(∃ k,kfd K i=some k)∨∃ t,st=(i:Int)::t
theorem LrI.len {T:Tb} {i:Nat} {K:List KE} {st:List Int} (h:LrI T i K st):st.length<=2*i:=by
 cases hl:st.length with
 | zero=>omega
 | succ n =>
   have:=h.bnd n st[n] (g2q (by omega))
   omega
def mu2 (i:Nat) (K:List KE) (st:List Int):Nat:=if zob K (st.getLastD 0) then (st.getLastD 0).toNat else i+1+st.length
def muL (i n:Nat) (K:List KE) (st:List Int):Nat:=(n - K.length)*(4*i+10)+mu2 i K st
section
variable {T:Tb} {i n:Nat} {K:List KE} {s:List Int} {x:Int}
theorem LrI.top (h:LrI T i K (s++[x])):1<=x/\x<=i/\T.D x/\(s.length:Int)+2*x<=2*i+1:=by
 have:=h.bnd s.length x (by simp)
 exact ⟨this.1,by omega,h.D x (by simp),this.2⟩
theorem LrI.pre (h:LrI T i K (s++[x])) {K':List KE} (hK:∀ y,(∃ k,kfd K y=some k)->∃ k,kfd K' y=some k) (hx:∃ k,kfd K' x=some k):LrI T i K' s:=by
 refine ⟨fun j y hj=>h.bnd j y ?_,fun y hy=>h.D y (List.mem_append_left _ hy),?_⟩
 ·rw [List.getElem?_append_left (List.getElem?_eq_some_iff.1 hj).1];exact hj
 ·rcases h.bot with hb|⟨t,ht⟩
  ·exact .inl (hK _ hb)
  ·cases s with
   | nil =>
     simp at ht
     rw [ht.1] at hx
     exact .inl hx
   | cons z s=>simp at ht;exact .inr ⟨s,by rw [ht.1]⟩
theorem zwq {K':List KE} (h:LrI T i K' s):mu2 i K' s<=3*i+1:=by
 have hl:=h.len
 unfold mu2
 split
 ·rcases List.eq_nil_or_concat s with rfl|⟨q,z,rfl⟩
  ·exact Nat.zero_le _
  ·rw [List.concat_eq_append] at h ⊢
   rw [List.getLastD_concat]
   have:=h.top
   omega
 ·omega
theorem zvC (h:LrI T i K (s++[x])) (hx:∃ k,kfd K x=some k):muL i n K s<muL i n K (s++[x]):=by
 have hp:=h.pre (K':=K) (fun _ h=>h) hx
 obtain ⟨k,hk⟩:=hx
 have e:mu2 i K (s++[x])=i+1+(s.length+1):=by
  unfold mu2
  rw [List.getLastD_concat,if_neg (by rw [unkB_iff,hk];simp)]
  simp
 unfold muL
 rw [e]
 have:mu2 i K s<i+1+(s.length+1):=by
  unfold mu2
  split
  ·rcases List.eq_nil_or_concat s with rfl|⟨q,z,rfl⟩
   ·exact Nat.succ_pos _
   ·rw [List.concat_eq_append] at hp ⊢
    rw [List.getLastD_concat]
    have:=hp.top
    omega
  ·omega
 omega
theorem zvD {k:KE} (h:LrI T i K (s++[x])) (hk:k.id=x) (hl:K.length<n):muL i n (K++[k]) s<muL i n K (s++[x]):=by
 have hp:=h.pre (K':=K++[k]) (fun y hy=>kfd_app.2 (.inl hy)) (kfd_app.2 (.inr hk))
 have:=zwq hp
 unfold muL
 have e:=Nat.succ_mul (n - (K.length+1)) (4*i+10)
 rw [show (n - (K.length+1)).succ=n - K.length by omega] at e
 rw [g6q,List.length_singleton,e]
 omega
theorem LrI.push {L:List Int} (h:LrI T i K (s++[x])) (h2:L.length<=2) (hL:∀ y∈L,(1<=y/\y<x)/\T.D y):LrI T i K ((s++[x])++L):=by
 obtain ⟨t1,t2,t3,t4⟩:=h.top
 refine ⟨fun j y hj=>?_,fun y hy=>?_,?_⟩
 ·rw [List.getElem?_append] at hj
  split at hj
  ·exact h.bnd j y hj
  ·rename_i hn
   have hm:=hL y (List.mem_of_getElem? hj)
   have hb:=(List.getElem?_eq_some_iff.1 hj).1
   rw [g6q,List.length_singleton] at hn hb
   omega
 ·rcases List.mem_append.1 hy with hy|hy
  ·exact h.D y hy
  ·exact (hL y hy).2
 ·rcases h.bot with hb|⟨t,ht⟩
  ·exact .inl hb
  ·exact .inr ⟨t++L,by rw [ht];rfl⟩
theorem zup {L:List Int} (h:LrI T i K (s++[x])) (hx:kfd K x=none) (h0:L≠[]) (hL:∀ y∈L,(1<=y/\y<x)/\kfd K y=none):muL i n K ((s++[x])++L)<muL i n K (s++[x]):=by
 rcases List.eq_nil_or_concat L with rfl|⟨q,z,rfl⟩
 ·exact absurd rfl h0
 ·rw [List.concat_eq_append] at hL ⊢
  have hz:=hL z (by simp)
  unfold muL mu2
  rw [←List.append_assoc,List.getLastD_concat,List.getLastD_concat,if_pos (unkB_iff.2 hz.2),if_pos (unkB_iff.2 hx)]
  omega
end
def yo (K:List KE) (l:List Int):List Int:=l.filter (zob K)
theorem zlT (K:List KE) (l:List Int):(yo K l).length<=l.length:=List.length_filter_le _ _
theorem pushL_mem {K:List KE} {l:List Int} {y:Int}:y∈yo K l↔y∈l/\kfd K y=none:=by unfold yo;rw [List.mem_filter,unkB_iff]
theorem zrm (K:List KE) (l:List Int) (y:Int):yo K (l++[y])=yo K l++(if zob K y then [y] else []):=by
 unfold yo
 rw [List.filter_append,List.filter_cons]
 split<;>simp_all
theorem zlU {K:List KE} {l:List Int} (h:yo K l=[]):∀ y∈l,∃ k,kfd K y=some k:=by
 intro y hy
 cases hk:kfd K y with
 | some k=>exact ⟨k,rfl⟩
 | none =>
   have:=pushL_mem.2 ⟨hy,hk⟩
   rw [h] at this;cases this
theorem zwr {S:Sto} {D:Int->Prop} (hD:Clo S D) (hw:WF S) {x:Int} (hx:D x):∀ y∈xO (atE S.E x).r,(1<=y/\y<x)/\D y:=by
 obtain ⟨c1,c2,c3,c4⟩:=hD x hx
 obtain ⟨hr,_⟩:=hw.at_ c1 c2
 intro y hy
 unfold xO at hy
 rcases hr with h|h|h
 ·rw [if_neg (by omega),if_neg (by omega)] at hy;cases hy
 ·rw [if_pos h.1] at hy
  simp only [List.mem_cons,List.not_mem_nil,or_false] at hy
  rcases hy with rfl|rfl
  ·exact ⟨by omega,c3 (by omega)⟩
  ·exact ⟨by omega,c4 h.1⟩
 ·rw [if_neg (by omega),if_pos h.1] at hy
  simp only [List.mem_cons,List.not_mem_nil,or_false] at hy
  subst hy
  exact ⟨by omega,c3 (by omega)⟩
end
end Go.Proofs.YtjmlialibdobpaaGreatDoor
namespace Go.EG
theorem zj4 {P:Program} {w0:World} {fp0:List Nat} {L:List Ent} {f:FuncId} {args:List Value} {k:SV->List Ent->Prop} (ks:List Nat) {L0 Lr:List Ent} {Q:Value->List Ent->Prop} (hp:zdr ks L=some (L0,Lr))
 (h:∀ w,R w0 fp0 (L0++Lr) w->R w (fps L0) L0 w->Calls P f args.toArray w fun e w'=>∃ v L1,e=.returned v/\R w (fps L0) L1 w'/\Q v L1)
 (hk:∀ v L1 w',Q v L1->R w0 fp0 (L1++Lr) w'->∃ s:SV,s.val=v/\k s (L1++Lr)):zT P w0 fp0 f args L k:=fun w hR =>
 (h w (hR.perm (uW hp)) (hR.perm (uW hp)).restart).mono fun e w' ⟨v,L1,he,hR',hq⟩=>by
  have hR2:=R.call (hR.perm (uW hp)) hR'
  obtain ⟨s,hs,hk⟩:=hk v L1 w' hq hR2
  exact ⟨v,s,L1++Lr,he,hs,hR2,hk⟩
theorem vy {P:Program} {w0:World} {fp0:List Nat} {L:List Ent} {f:FuncId} {args:List Value} {k:SV->List Ent->Prop} {key1 key2:Nat} {fp1 fp2:List Nat} {α β:Type} {fA:α->List Ent} {fB:β->List Ent} {Lr1 Lr:List Ent} {Q:Value->List Ent->Prop} (hp1:qP key1 L=some (packE key1 fp1 fA,Lr1)) (hp2:qP key2 Lr1=some (packE key2 fp2 fB,Lr))
 (h:∀ w,R w0 fp0 (packE key1 fp1 fA::packE key2 fp2 fB::Lr) w->R w (fp1++fp2) [packE key1 fp1 fA,packE key2 fp2 fB] w->Calls P f args.toArray w fun e w'=>∃ v L1,e=.returned v/\R w (fp1++fp2) L1 w'/\Q v L1)
 (hk:∀ v L1 w',Q v L1->R w0 fp0 (L1++Lr) w'->∃ s:SV,s.val=v/\k s (L1++Lr)):zT P w0 fp0 f args L k:=fun w hR=>by
 have e1:fps [packE key1 fp1 fA,packE key2 fp2 fB]=fp1++fp2:=by simp [packE,Ent.fp,fps]
 have hR1:R w0 fp0 ([packE key1 fp1 fA,packE key2 fp2 fB]++Lr) w:=hR.perm ((zV hp1).trans ((zV hp2).cons _))
 have h0:=hR1.restart
 rw [e1] at h0
 refine (h w hR1 h0).mono fun e w' ⟨v,L1,he,hR',hq⟩=>?_
 rw [←e1] at hR'
 have hR2:=R.call hR1 hR'
 obtain ⟨s,hs,hk⟩:=hk v L1 w' hq hR2
 exact ⟨v,s,L1++Lr,he,hs,hR2,hk⟩
theorem zgD {P:Program} {w0:World} {fp0:List Nat} {L:List Ent} {f:FuncId} {args:List Value} {k:SV->List Ent->Prop} {key1 key2 k1' k2':Nat} {fp1 fp2:List Nat} {α β α' β':Type} {fA:α->List Ent} {fB:β->List Ent} {fA':α'->List Ent} {fB':β'->List Ent} {Lr1 Lr:List Ent} {r:Value} (hp1:qP key1 L=some (packE key1 fp1 fA,Lr1)) (hp2:qP key2 Lr1=some (packE key2 fp2 fB,Lr))
 (h:∀ w,R w0 fp0 (packE key1 fp1 fA::packE key2 fp2 fB::Lr) w->R w (fp1++fp2) [packE key1 fp1 fA,packE key2 fp2 fB] w->Calls P f args.toArray w fun e w'=>∃ v L1,e=.returned v/\R w (fp1++fp2) L1 w'/\v=r/\∃ g1 g2,L1=[packE k1' g1 fA',packE k2' g2 fB'])
 (hk:∀ x g2 w',R w0 fp0 (fA' x++packE k2' g2 fB'::Lr) w'->∃ s:SV,s.val=r/\k s (fA' x++packE k2' g2 fB'::Lr)):zT P w0 fp0 f args L k:=fun w hR=>by
 have e1:fps [packE key1 fp1 fA,packE key2 fp2 fB]=fp1++fp2:=by simp [packE,Ent.fp,fps]
 have hR1:R w0 fp0 ([packE key1 fp1 fA,packE key2 fp2 fB]++Lr) w:=hR.perm ((zV hp1).trans ((zV hp2).cons _))
 have h0:=hR1.restart
 rw [e1] at h0
 refine (h w hR1 h0).mono fun e w' ⟨v,L1,he,hR',hv,g1,g2,hL1⟩=>?_
 subst hv hL1
 rw [←e1] at hR'
 obtain ⟨x,_,hR2⟩:=(R.call hR1 hR').unpack
 obtain ⟨s,hs,hk⟩:=hk x g2 w' hR2
 exact ⟨v,s,_,he,hs,hR2,hk⟩
end Go.EG
namespace Go.Proofs.YtjmlialibdobpaaGreatDoor
open Go.EG
attribute [local irreducible] zT yE Go.Calls
set_option maxRecDepth 20000
set_option maxHeartbeats 4000000
theorem zpA (bt bs:Nat) (T:Tb) {kk:Nat} (hT:TbOk T kk) (S:Sto) (hw:WF S) (y:MA) (ha:Option Addr) (hc mb:Nat) (K:List KE) (F:List Frz) (ok:TOk T S.E y ha K F) (n:Int) (h1:1<=n) (h2:n<=S.E.length) (hD:T.D n)
 (hr:∀ z∈xO (atE S.E n).r,∃ k,kfd K z=some k) {w:World} {fp:List Nat} (hR:R w fp [.box 3000 bt (zad bs y ha T.H.length hc T.back mb) zN,.mapE 3001 mb (.int .i64) (knm K),frE 3002 F] w) :
 Calls Tryz.prog qu #[pS bt,ruV (atE S.E n).r] w fun e w'=>∃ v L1,e=.returned v/\R w fp L1 w'/\zrl bt bs T S y ha hc mb K F n v L1:=by
 obtain ⟨ho,_⟩:=hw.at_ h1 h2
 rcases ho with ho|ho|ho
 ·exact zn9 bt bs T hT S hw y ha hc mb K F ok n h1 h2 hD ho.1 hR
 ·obtain ⟨x1,g1⟩:=hr (atE S.E n).r.a (by unfold xO;rw [if_pos ho.1];simp)
  obtain ⟨x2,g2⟩:=hr (atE S.E n).r.b (by unfold xO;rw [if_pos ho.1];simp)
  exact zmy bt bs T hT S hw y ha hc mb K F ok n h1 h2 hD ho.1 x1 x2 g1 g2 hR
 ·obtain ⟨x1,g1⟩:=hr (atE S.E n).r.a (by unfold xO;rw [if_neg (by omega),if_pos ho.1];simp)
  exact zoa bt bs T hT S hw y ha hc mb K F ok n h1 h2 hD ho.1 x1 g1 hR
def zws (k2 bt bs:Nat) (T:Tb) (S:Sto) (n:Int) (v:Value) (L1:List Ent):Prop :=
 v=.nilIface/\∃ x fp',L1=fX bt bs T S.E x++[packE k2 fp' (fS bs S)]/\(n≠0->∃ k,kfd x.K n=some k)
structure LrG where
 K:List KE
 F:List Frz
 st:List Int
 a:Option Addr
 c:Nat
 f1:List Nat
structure LqG where
 j:Nat
 a:Option Addr
 c:Nat
abbrev zwt (bt bs:Nat) (T:Tb) (S:Sto) (y:MA) (ha:Option Addr) (hc mb:Nat) (g:LrG):List Ent :=
 [.own 19 g.a g.st.length g.c xY 1 (zu .i64 g.st),.box 3000 bt (zad bs y ha T.H.length hc T.back mb) zN,.mapE 3001 mb (.int .i64) (knm g.K),frE 3002 g.F,packE 77 g.f1 (fS bs S)]
theorem zoc {K:List KE} {i:Int} {A:Value->Prop} {B:Prop} (h:kfd K i=none) (hB:B):Stop ((∀ v,qI (knm K) (.int .i64 i)=some v->A v)/\(qI (knm K) (.int .i64 i)=none->B)) :=
 jO (by rw [ziH,h];rfl) hB
theorem zh1 (bt bs:Nat) (T:Tb) {kk:Nat} (hT:TbOk T kk) (S:Sto) (hw:WF S) (hD:Clo S T.D) (n:Int) (hn:n=0∨T.D n) {k1 k2:Nat} {fp1 fp2:List Nat} {w:World} (hR:R w (fp1++fp2) [packE k1 fp1 (fX bt bs T S.E),packE k2 fp2 (fS bs S)] w) :
 Calls Tryz.prog yQ #[pS bt,.int .i64 n] w fun e w'=>∃ v L1,e=.returned v/\R w (fp1++fp2) L1 w'/\zws k2 bt bs T S n v L1:=by
 have hR:R w (fp1++fp2) [packE 78 fp1 (fX bt bs T S.E),packE 77 fp2 (fS bs S)] w:=(Thin.packE (Thin.packE (.nil []))).ref w hR
 obtain ⟨⟨y,ha,hc,mb,K,F,ok⟩,hfp,hR'⟩:=hR.unpack
 rw [zfg] at hR' hfp
 refine (jv [.ptr 3000 bt 0,.v (.int .i64 n)] zbK (by simp) hR' (K:=fun v L'=>∃ L1,Ref w (fp1++fp2) L' L1/\zws k2 bt bs T S n v L1) ?_).mono fun e w' ⟨v,L',he,hR2,L1,href,hq⟩=>⟨v,L1,he,href w' hR2,hq⟩
 by_cases h0:n=0
 ·subst h0
  (repeat' ((conv=>whnf);first|((first|apply zc|apply za|apply zd)<;>intro h<;>try (exfalso;omega))|refine pay ?_|intro _));(all_goals (conv=>whnf))
  all_goals try (exfalso;omega)
  exact ⟨⟨_,Ref.takes [3000,3001,3002,77] rfl (.keep rfl (fun _ h=>h) (.keep rfl (fun _ h=>h) (.keep rfl (fun _ h=>h) (.packE (.nil _))))),rfl,⟨y,ha,hc,mb,K,F,ok⟩,_,rfl,fun h=>absurd rfl h⟩⟩
 have hDn:=hn.resolve_left h0
 obtain ⟨d1,d2,_,_⟩:=hD n hDn
 obtain ⟨i,rfl⟩:∃ i:Nat,n=i:=⟨n.toNat,by omega⟩
 have hsm:=hw.small
 (repeat' ((conv=>whnf);first|refine zh ?_|((first|apply zc|apply za|apply zd)<;>intro h<;>try (exfalso;omega))|refine pay ?_|intro _));(all_goals (conv=>whnf))
 all_goals try (exfalso;omega)
 refine zw LrG (fun g=>[(0,.ptr 3000 bt 0),(5,.sl 19 g.a g.st.length g.c)]) (zwt bt bs T S y ha hc mb)
  (fun g=>TOk T S.E y ha g.K g.F/\LrI T i g.K g.st) (fun g=>muL i S.E.length g.K g.st) ⟨K,F,[(i:Int)],_,_,_⟩ ⟨ok,?_⟩ (by (repeat ((conv=>whnf);refine vS ?_));exact trivial) (Ref.takes [19,3000,3001,3002,77] rfl (.refl _)) ?_
 ·refine ⟨fun j z hj=>?_,by simp;exact hDn,.inr ⟨[],rfl⟩⟩
  cases j with
  | zero=>simp at hj;omega
  | succ j=>cases hj
 clear ok hfp hR' hR
 rintro ⟨K,F,st,a19,c19,f1⟩ ⟨ok,hI⟩
 dsimp only [zwt] at ok hI ⊢
 have hlen:=hI.len
 rcases List.eq_nil_or_concat st with rfl|⟨s,x,rfl⟩
 ·(repeat' ((conv=>whnf);first|((first|apply zc|apply za|apply zd)<;>intro h<;>try (exfalso;omega))|refine pay ?_|intro _));(all_goals (conv=>whnf))
  all_goals try (exfalso;omega)
  refine ⟨⟨_,Ref.takes [3000,3001,3002,77] rfl (.keep rfl (fun _ h=>h) (.keep rfl (fun _ h=>h) (.keep rfl (fun _ h=>h) (.packE (.nil _))))),rfl,⟨y,ha,hc,mb,K,F,ok⟩,_,rfl,fun _=>?_⟩⟩
  rcases hI.bot with hb|⟨t,ht⟩
  ·exact hb
  ·cases ht
 rw [List.concat_eq_append] at hI hlen ⊢
 obtain ⟨t1,t2,t3,t4⟩:=hI.top
 have hle:(s++[x]).length=s.length+1:=by simp
 have hidx:(((s++[x]).length:Int) - 1).toNat=s.length:=by omega
 have hlast:(zu .i64 (s++[x]))[s.length]?=some (.int .i64 x):=by simp [zu]
 have htk:(zu .i64 (s++[x])).take s.length=zu .i64 s:=by simp [zu]
 have q1:=uJ x
 cases hkx:kfd K x with
 | some kx =>
   have hmu:=zvC (n:=S.E.length) hI ⟨kx,hkx⟩
   have hpre:=hI.pre (K':=K) (fun _ h=>h) ⟨kx,hkx⟩
   (repeat' ((conv=>whnf);first|rw [hidx]|rw [Nat.mul_one]|rw [htk]|refine jj hkx ?_|refine zek hlast ?_|refine ⟨.mp 3001 _,⟨rfl,rfl⟩,?_⟩|refine ⟨.sl 19 _ _ _,⟨rfl,rfl,rfl,rfl⟩,?_⟩|refine zh ?_|((first|apply zc|apply za|apply zd)<;>intro h<;>try (exfalso;omega))|refine pay ?_|refine And.intro (by first|exact ⟨rfl,rfl,q1⟩) ?_|intro _));(all_goals (conv=>whnf))
   all_goals try (exfalso;omega)
   all_goals exact zi ⟨K,F,s,a19,c19,f1⟩ ⟨ok,hpre⟩ hmu (by (repeat ((conv=>whnf);refine vS ?_));exact trivial) (Ref.takes [19,3000,3001,3002,77] rfl (.refl _))
 | none =>
   have c2:=zfd bs S x hsm
   rw [zfc t1 (by omega)] at c2
   have hrf:=zwr hD hw t3
   have c3:=zrd (atE S.E x).r
   have hrl:=zr9 (atE S.E x).r
   have c4:=fun h1 h2 (w':World) fp' hR=>zpA bt bs T hT S hw y ha hc mb K F ok x t1 h2 t3 h1 (w:=w') (fp:=fp') hR
   (repeat' ((conv=>whnf);first|rw [hidx]|rw [Nat.mul_one]|rw [htk]|refine zoc hkx ?_|refine zek hlast ?_|refine ⟨.mp 3001 _,⟨rfl,rfl⟩,?_⟩|refine ⟨.sl 19 _ _ _,⟨rfl,rfl,rfl,rfl⟩,?_⟩|refine zh ?_|refine SC.go 77 c2 rfl fun fp'=>?_|refine zpp 57 (fun w' hR=>c3 w') ?_|((first|apply zc|apply za|apply zd)<;>intro h<;>try (exfalso;omega))|refine pay ?_|refine And.intro (by first|exact ⟨rfl,rfl,q1⟩) ?_|intro _));(all_goals (conv=>whnf))
   all_goals try (exfalso;omega)
   rename_i b7 b9 a57 c57
   have hxle:x<=S.E.length:=by omega
   have hadd:∀ {k:KE} {F':List Frz},Ext' F F'->KOk T S.E F' k->k.id=x->(∀ z∈xO (atE S.E x).r,∃ k,kfd K z=some k)->TOk T S.E y ha (K++[k]) F':=fun {k F'} hs hk hid hr=>by
    subst hid
    obtain ⟨ho,_⟩:=hw.at_ t1 hxle
    refine ok.add hs.mem hk hkx (fun hh=>hr _ ?_) (fun hh=>hr _ ?_)
    ·unfold xO
     rcases ho with ho|ho|ho
     ·exact absurd ho.1 hh
     ·rw [if_pos ho.1];simp
     ·rw [if_neg (by omega),if_pos ho.1];simp
    ·unfold xO
     rw [if_pos hh];simp
   generalize hrs:xO (atE S.E x).r=rs at *
   generalize (atE S.E x).r=X at *
   have hp0:(yo K (List.take 0 rs)).length=0:=by simp [yo]
   refine zw LqG (fun g=>[(0,.ptr 3000 bt 0),(5,.sl 19 g.a (s.length+1+(yo K (rs.take g.j)).length) g.c),(6,.v (.int .i64 x)),(9,.ptr 9 b9 0),(11,.v (.bool (yo K (rs.take g.j)).isEmpty)),(57,.sl 57 a57 rs.length c57),(58,.v (.int .i64 rs.length)),(59,.v (.int .i64 g.j))])
    (fun g=>[.own 19 g.a (s.length+1+(yo K (rs.take g.j)).length) g.c xY 1 (zu .i64 (s++[x]++yo K (rs.take g.j))),.own 57 a57 rs.length c57 xY 1 (zu .i64 rs),.box 9 b9 [.int .i64 X.k,.int .u8 X.l,.int .i64 X.a,.int .i64 X.b,.int .i64 X.t] qc,.box 3000 bt (zad bs y ha T.H.length hc T.back mb) zN,.mapE 3001 mb (.int .i64) (knm K),frE 3002 F,packE 77 fp' (fS bs S)])
    (fun g=>g.j<=rs.length) (fun g=>rs.length - g.j) ⟨0,a19,c19⟩ (Nat.zero_le _) (by (repeat ((conv=>whnf);refine vS ?_));exact trivial) (Ref.takes [19,57,9,3000,3001,3002,77] rfl (.own (by simp [yo]) (by simp [yo]) (.refl _))) ?_
   rintro ⟨j,a,c⟩ hj
   dsimp only at hj ⊢
   have hpl:=zlT K (rs.take j)
   rw [List.length_take] at hpl
   by_cases hlt:j<rs.length
   ·have htj:rs.take (j+1)=rs.take j++[rs.getD j 0]:=by
     rw [List.take_add_one,g1q,g2q hlt];rfl
    have hrj:(zu .i64 rs)[j]?=some (.int .i64 (rs.getD j 0)):=yM hlt
    have hsn:=zrm K (rs.take j) (rs.getD j 0)
    rw [←htj] at hsn
    have q0:((j:Nat):Int).toNat=j:=by omega
    have q2:=uJ (rs.getD j 0)
    cases hkz:kfd K (rs.getD j 0) with
    | some kz =>
      rw [if_neg (by rw [unkB_iff,hkz];simp),List.append_nil] at hsn
      (repeat' ((conv=>whnf);first|rw [q0]|refine jj hkz ?_|refine zek hrj ?_|refine ⟨.mp 3001 _,⟨rfl,rfl⟩,?_⟩|refine ⟨.sl 19 _ _ _,⟨rfl,rfl,rfl,rfl⟩,?_⟩|refine ⟨.sl 57 _ _ _,⟨rfl,rfl,rfl,rfl⟩,?_⟩|refine zh ?_|((first|apply zc|apply za|apply zd)<;>intro h<;>try (exfalso;omega))|refine pay ?_|refine And.intro (by first|exact ⟨rfl,rfl,q2⟩) ?_|intro _));(all_goals (conv=>whnf))
      all_goals try (exfalso;omega)
      all_goals (refine zi ⟨j+1,a,c⟩ (show j+1<=rs.length from hlt) (show rs.length - (j+1)<rs.length - j by omega) ?_ ?_<;>dsimp only<;>rw [hsn])
      ·(repeat ((conv=>whnf);refine vS ?_));exact trivial
      ·exact Ref.takes [19,57,9,3000,3001,3002,77] rfl (.refl _)
    | none =>
      rw [if_pos (by rw [unkB_iff,hkz])] at hsn
      (repeat' ((conv=>whnf);first|rw [q0]|refine zoc hkz ?_|refine zek hrj ?_|refine ⟨.mp 3001 _,⟨rfl,rfl⟩,?_⟩|refine ⟨.sl 19 _ _ _,⟨rfl,rfl,rfl,rfl⟩,?_⟩|refine ⟨.sl 57 _ _ _,⟨rfl,rfl,rfl,rfl⟩,?_⟩|refine zh ?_|((first|apply zc|apply za|apply zd)<;>intro h<;>try (exfalso;omega))|refine pay ?_|refine And.intro (by first|exact ⟨rfl,rfl,q2⟩|exact ⟨by unfold maxLen;omega,by omega⟩) ?_|intro _));(all_goals (conv=>whnf))
      all_goals try (exfalso;omega)
      have h1:(yo K (rs.take j)++[rs.getD j 0]).isEmpty=false:=by cases yo K (rs.take j)<;>rfl
      have h2:(yo K (rs.take j)++[rs.getD j 0]).length=(yo K (rs.take j)).length+1:=by simp
      rename_i a' c'
      all_goals (refine zi ⟨j+1,a',c'⟩ (show j+1<=rs.length from hlt) (show rs.length - (j+1)<rs.length - j by omega) ?_ ?_<;>dsimp only<;>rw [hsn,h2])
      ·rw [h1];(repeat ((conv=>whnf);refine vS ?_));exact trivial
      ·exact Ref.takes [19,57,9,3000,3001,3002,77] rfl (.own (by omega) (by rw [za7,List.append_assoc]) (.refl _))
   ·obtain rfl:j=rs.length:=by omega
    rw [List.take_length]
    cases hem:(yo K rs).isEmpty
    ·have hne:yo K rs≠[]:=fun h=>by rw [h] at hem;cases hem
     have hpu:=hI.push (L:=yo K rs) (by have:=zlT K rs;omega) (fun z hz=>hrf z (pushL_mem.1 hz).1)
     have hmu:=zup (n:=S.E.length) hI hkx hne (fun z hz=>⟨(hrf z (pushL_mem.1 hz).1).1,(pushL_mem.1 hz).2⟩)
     (repeat' ((conv=>whnf);first|refine ⟨.mp 3001 _,⟨rfl,rfl⟩,?_⟩|refine ⟨.sl 19 _ _ _,⟨rfl,rfl,rfl,rfl⟩,?_⟩|refine zh ?_|((first|apply zc|apply za|apply zd)<;>intro h<;>try (exfalso;omega))|refine pay ?_|intro _));(all_goals (conv=>whnf))
     all_goals try (exfalso;omega)
     have h2:(s++[x]++yo K rs).length=s.length+1+(yo K rs).length:=by simp;omega
     all_goals exact zi ⟨K,F,s++[x]++yo K rs,a,c,fp'⟩ ⟨ok,hpu⟩ hmu (by (repeat ((conv=>whnf);refine vS ?_));exact trivial) (Ref.takes [19,3000,3001,3002,77] rfl (.own h2.symm rfl (.refl _)))
    ·have hem':yo K rs=[]:=List.isEmpty_iff.1 hem
     have c4':=fun w' fp' hR=>c4 (zlU hem') hxle w' fp' hR
     rw [hem',List.append_nil]
     (repeat' ((conv=>whnf);first|rw [hidx]|rw [Nat.mul_one]|rw [htk]|refine ⟨.mp 3001 _,⟨rfl,rfl⟩,?_⟩|refine ⟨.sl 19 _ _ _,⟨rfl,rfl,rfl,rfl⟩,?_⟩|refine zh ?_|refine yI ?_ ?_|(refine zD [3000,3001,3002] rfl (fun w' hR h0=>c4' w' _ h0) ?_;rintro _ _ ⟨k,F',rfl,rfl,hsub,hkok,hkid⟩;refine ⟨.v _,rfl,?_⟩)|rw [zn6 _ _ hkid _ hkx]|((first|apply zc|apply za|apply zd)<;>intro h<;>try (exfalso;omega))|refine pay ?_|refine And.intro (by first|exact ⟨rfl,rfl,q1⟩|exact (Ref.takes [3002,19,57,9,3000,3001,77] rfl (.refl _)).trans ((Ext'.ref hsub).trans (Ref.takes [19,57,9,3000,3001,3002,77] rfl (.refl _)))) ?_|intro _));(all_goals (conv=>whnf))
     all_goals try (exfalso;omega)
     have ok2:=hadd hsub hkok hkid (zlU hem')
     have hkl:K.length<S.E.length:=by
      have:=ok2.len
      rw [g6q,List.length_singleton] at this
      omega
     have e1:(((s.length+1+([]:List Int).length:Nat):Int) - 1).toNat=s.length:=by simp
     exact zi ⟨K++[k],F',s,a,c,fp'⟩ ⟨ok2,hI.pre (fun z hz=>kfd_app.2 (.inl hz)) (kfd_app.2 (.inr hkid))⟩ (zvD hI hkid hkl) (by rw [e1];(repeat ((conv=>whnf);refine vS ?_));exact trivial) (Ref.takes [19,3000,3001,3002,77] rfl (.own e1 (by rw [e1];exact htk) (.refl _)))
def zk7 (k1 k2 bt bs:Nat) (T:Tb) (S:Sto) (r v:Value) (L1:List Ent):Prop:=v=r/\∃ fp1 fp2,L1=[packE k1 fp1 (fX bt bs T S.E),packE k2 fp2 (fS bs S)]
def XC (f:Nat) (args:Array Value) (bt bs:Nat) (T:Tb) (S:Sto) (r:Value):Prop :=
 ∀ (k1 k2:Nat) (fp1 fp2:List Nat) (w:World),R w (fp1++fp2) [packE k1 fp1 (fX bt bs T S.E),packE k2 fp2 (fS bs S)] w->Calls Tryz.prog f args w fun e w'=>∃ v L1,e=.returned v/\R w (fp1++fp2) L1 w'/\zk7 k1 k2 bt bs T S r v L1
theorem XC.go {f:Nat} {args:List Value} {bt bs:Nat} {T:Tb} {S:Sto} {r:Value} {w0:World} {fp0 fp1 fp2:List Nat} {L Lr1 Lr:List Ent} {k:SV->List Ent->Prop} (key1 key2:Nat) (h:XC f args.toArray bt bs T S r) (hp1:qP key1 L=some (packE key1 fp1 (fX bt bs T S.E),Lr1)) (hp2:qP key2 Lr1=some (packE key2 fp2 (fS bs S),Lr)) (hk:∀ fp1' fp2',k (.v r) ([packE key1 fp1' (fX bt bs T S.E),packE key2 fp2' (fS bs S)]++Lr)):zT Tryz.prog w0 fp0 f args L k :=
 yX hp1 hp2 (fun w hR h0=>h _ _ _ _ _ h0) (by rintro _ _ ⟨rfl,fp1',fp2',rfl⟩;exact ⟨.v _,rfl,hk fp1' fp2'⟩)
theorem zdY {k1 k2 k' bt bs:Nat} {fp':List Nat} {T:Tb} {S:Sto} {r v:Value} {w0:World} {fp0:List Nat} {L:List Ent} (x:TG T S.E) (h:Ref w0 fp0 L (fX bt bs T S.E x++[packE k' fp' (fS bs S)])) (hv:v=r):∃ L1,Ref w0 fp0 L L1/\zk7 k1 k2 bt bs T S r v L1 :=
 ⟨_,h.trans (Ref.packs (key:=k1) (Lr:=[packE k2 fp' (fS bs S)]) x (by
  obtain ⟨y,ha,hc,mb,K,F,ok⟩:=x
  exact .keep rfl (fun _ h=>h) (.keep rfl (fun _ h=>h) (.keep rfl (fun _ h=>h) (.keep rfl (fun _ h=>h) (.nil _)))))),hv,_,fp',rfl⟩
theorem yR {k1 k2 k1' k2' bt bs:Nat} {fp1 fp2:List Nat} {T:Tb} {S:Sto} {r v:Value} {w0:World} {fp0:List Nat} {L:List Ent} (h:Ref w0 fp0 L [packE k1' fp1 (fX bt bs T S.E),packE k2' fp2 (fS bs S)]) (hv:v=r):∃ L1,Ref w0 fp0 L L1/\zk7 k1 k2 bt bs T S r v L1 :=
 ⟨[packE k1 fp1 (fX bt bs T S.E),packE k2 fp2 (fS bs S)],fun w hR=>(Thin.packE (Thin.packE (.nil _))).ref w (h w hR),hv,_,_,rfl⟩
def ux (T:Tb) (S:Sto) (n q:Int):Prop:=(0<=n/\n<=S.E.length)/\0<=q/\q<T.M.nx.length
instance (T:Tb) (S:Sto) (n q:Int):Decidable (ux T S n q):=by unfold ux;exact inferInstance
def zfi (T:Tb) (S:Sto) (n q:Int):Value:=if ux T S n q then .nilIface else yg 1
theorem zcS (bt bs:Nat) (T:Tb) (S:Sto) (hw:WF S) (n q:Int):XC yP #[pS bt,.int .i64 n,.int .i64 q] bt bs T S (zfi T S n q):=by
 intro k1 k2 fp1 fp2 w hR
 have hR:R w (fp1++fp2) [packE 78 fp1 (fX bt bs T S.E),packE 77 fp2 (fS bs S)] w:=(Thin.packE (Thin.packE (.nil []))).ref w hR
 obtain ⟨⟨y,ha,hc,mb,K,F,ok⟩,hfp,hR'⟩:=hR.unpack
 have hN2:T.M.nx.length=y.nr.length:=by rw [←ok.ym];exact g8q ..
 rw [zfg] at hR' hfp
 refine (jv [.ptr 3000 bt 0,.v (.int .i64 n),.v (.int .i64 q)] zbM (by simp) hR' (K:=fun v L'=>∃ L1,Ref w (fp1++fp2) L' L1/\zk7 k1 k2 bt bs T S (zfi T S n q) v L1) ?_).mono fun e w' ⟨v,L',he,hR2,L1,href,hq⟩=>⟨v,L1,he,href w' hR2,hq⟩
 have c1:=zjS bs S
 have hsm:=hw.small
 have p1:ux T S n q->zfi T S n q=.nilIface:=fun h=>if_pos h
 have p2:¬ux T S n q->zfi T S n q=yg 1:=fun h=>if_neg h
 unfold ux at p1 p2
 generalize zfi T S n q=V at *
 (repeat' ((conv=>whnf);first|refine SC.go 77 c1 rfl fun fp'=>?_|refine zh ?_|((first|apply zc|apply za|apply zd)<;>intro h<;>try (exfalso;omega))|refine pay ?_|intro _));(all_goals (conv=>whnf))
 all_goals try (exfalso;omega)
 all_goals first
  | exact ⟨zdY ⟨y,ha,hc,mb,K,F,ok⟩ (Ref.takes [3000,3001,3002,77] rfl (.refl _)) (p2 (by omega)).symm⟩
  | exact ⟨zdY ⟨y,ha,hc,mb,K,F,ok⟩ (Ref.takes [3000,3001,3002,77] rfl (.refl _)) (p1 (by omega)).symm⟩
abbrev zwu:Value:=.agg #[.slice none 0 0,.slice none 0 0]
theorem zgE (bt bs:Nat) (T:Tb) (S:Sto) (hw:WF S) (n q:Int) (hq:¬ux T S n q):XC qN #[pS bt,.int .i64 n,.int .i64 q] bt bs T S (.tuple #[zwu,yg 1]):=by
 intro k1 k2 fp1 fp2 w hR
 have hR:R w (fp1++fp2) [packE 78 fp1 (fX bt bs T S.E),packE 77 fp2 (fS bs S)] w:=(Thin.packE (Thin.packE (.nil []))).ref w hR
 refine zr [.v (pS bt),.v (.int .i64 n),.v (.int .i64 q)] ue (by simp) hR ?_
 have c1:=zcS bt bs T S hw n q
 rw [show zfi T S n q=yg 1 from if_neg hq] at c1
 (repeat' ((conv=>whnf);first|refine XC.go 78 77 c1 rfl rfl fun fp1' fp2'=>?_|((first|apply zc|apply za|apply zd)<;>intro h<;>try (exfalso;omega))|refine pay ?_|intro _));(all_goals (conv=>whnf))
 all_goals try (exfalso;omega)
 exact ⟨yR (Ref.takes [78,77] rfl (.refl _)) rfl⟩
def zx4 (k2 bt bs:Nat) (T:Tb) (S:Sto) (n:Int) (v:Value) (L1:List Ent):Prop :=
 ∃ x fp' u,v = .tuple #[u,.nilIface] /\ L1 = fX bt bs T S.E x ++ [packE k2 fp' (fS bs S)] /\ (n = 0 -> u = zwu) /\
   (n≠0->∃ k:KE,k∈x.K/\k.id=n/\u=k.wh.v/\k.wh.ea≠none/\k.wh.ha≠none)
theorem zuq {T:Tb} {E:List Entr} {y:MA} {ha:Option Addr} {K:List KE} {F:List Frz} (ok:TOk T E y ha K F):kfd K 0=none:=by
 cases h:kfd K 0 with
 | none=>rfl
 | some k =>
   have h1:=qU h
   have:=(ok.kn k h1.1).pos
   omega
theorem zh2 (bt bs:Nat) (T:Tb) {kk:Nat} (hT:TbOk T kk) (S:Sto) (hw:WF S) (hD:Clo S T.D) (n q:Int) (hn:n=0∨T.D n) (hq:ux T S n q) {k1 k2:Nat} {fp1 fp2:List Nat} {w:World} (hR:R w (fp1++fp2) [packE k1 fp1 (fX bt bs T S.E),packE k2 fp2 (fS bs S)] w) :
 Calls Tryz.prog qN #[pS bt,.int .i64 n,.int .i64 q] w fun e w'=>∃ v L1,e=.returned v/\R w (fp1++fp2) L1 w'/\zx4 k2 bt bs T S n v L1:=by
 have hR:R w (fp1++fp2) [packE 78 fp1 (fX bt bs T S.E),packE 77 fp2 (fS bs S)] w:=(Thin.packE (Thin.packE (.nil []))).ref w hR
 refine zr [.ptr 3000 bt 0,.v (.int .i64 n),.v (.int .i64 q)] ue (by simp) hR ?_
 have c1:=zcS bt bs T S hw n q
 rw [show zfi T S n q=.nilIface from if_pos hq] at c1
 have c2:=fun (w':World) fp1 fp2 hR=>zh1 bt bs T hT S hw hD n hn (k1:=78) (k2:=77) (fp1:=fp1) (fp2:=fp2) (w:=w') hR
 have q1:=uJ n
 (repeat' ((conv=>whnf);first|refine XC.go 78 77 c1 rfl rfl fun fp1' fp2'=>?_|(refine vy (key1:=78) (key2:=77) rfl rfl (fun w' hR h0=>c2 w' _ _ h0) ?_;rintro _ _ w1 ⟨rfl,⟨y,ha,hc,mb,K,F,ok⟩,fp',rfl,hkn⟩ hRw;refine ⟨.v _,rfl,?_⟩)|((first|apply zc|apply za|apply zd)<;>intro h<;>try (exfalso;omega))|refine pay ?_|intro _));(all_goals (conv=>whnf))
 all_goals try (exfalso;omega)
 simp only [List.append_assoc] at hRw
 have hmF:frE 3002 F∈fX bt bs T S.E ⟨y,ha,hc,mb,K,F,ok⟩++[packE 77 fp' (fS bs S)]:=by rw [zfg];simp
 rw [zfg] at *
 by_cases h0:n=0
 ·subst h0
  have hk0:=zuq ok
  (repeat' ((conv=>whnf);first|refine zoc hk0 ?_|refine ⟨.mp 3001 _,⟨rfl,rfl⟩,?_⟩|refine zh ?_|((first|apply zc|apply za|apply zd)<;>intro h<;>try (exfalso;omega))|refine pay ?_|refine And.intro (by first|exact ⟨rfl,rfl,q1⟩) ?_|intro _));(all_goals (conv=>whnf))
  all_goals try (exfalso;omega)
  exact ⟨⟨_,Ref.takes [3000,3001,3002,77] rfl (.keep rfl (fun _ h=>h) (.keep rfl (fun _ h=>h) (.keep rfl (fun _ h=>h) (.packE (.nil _))))),⟨y,ha,hc,mb,K,F,ok⟩,_,_,rfl,rfl,fun _=>rfl,fun h=>absurd rfl h⟩⟩
 ·obtain ⟨k,hk⟩:=hkn h0
  (repeat' ((conv=>whnf);first|refine jj hk ?_|refine ⟨.mp 3001 _,⟨rfl,rfl⟩,?_⟩|refine zh ?_|((first|apply zc|apply za|apply zd)<;>intro h<;>try (exfalso;omega))|refine pay ?_|refine And.intro (by first|exact ⟨rfl,rfl,q1⟩) ?_|intro _));(all_goals (conv=>whnf))
  all_goals try (exfalso;omega)
  have hkn:=qU hk
  have hok:=ok.kn k hkn.1
  have hpos:=hT.m.pos
  have l1:k.wh.e.en.length=T.M.nx.length:=by rw [hok.wh];exact (xD _ _ _).1
  have l2:k.wh.e.hi.length=T.M.nx.length:=by rw [hok.wh];exact (xD _ _ _).2
  have n1:=FIn.ne hRw (key:=3002) (F:=F) (by simp) hok.fz.1 (by rw [ints_length];omega)
  have n2:=FIn.ne hRw (key:=3002) (F:=F) (by simp) hok.fz.2 (by rw [ints_length];omega)
  exact ⟨⟨_,Ref.takes [3000,3001,3002,77] rfl (.keep rfl (fun _ h=>h) (.keep rfl (fun _ h=>h) (.keep rfl (fun _ h=>h) (.packE (.nil _))))),⟨y,ha,hc,mb,K,F,ok⟩,_,_,rfl,rfl,fun h=>absurd h h0,fun _=>⟨k,hkn.1,hkn.2,rfl,n1,n2⟩⟩⟩
def zrn (T:Tb) (S:Sto) (n q:Int):Value:=if ux T S n q then .tuple #[.int .i64 (zA T.M q.toNat (ori T.back (tm S.E n).txt)),.nilIface] else .tuple #[.int .i64 0,yg 1]
def zro (T:Tb) (S:Sto) (n q:Int):Value:=if ux T S n q then (if zG T.M T.H q.toNat (ori T.back (tm S.E n).txt)<=LM then .tuple #[.int .i64 (zG T.M T.H q.toNat (ori T.back (tm S.E n).txt)),.nilIface] else .tuple #[.int .i64 0,yg 2]) else .tuple #[.int .i64 0,yg 1]
theorem zrp (bt bs:Nat) (T:Tb) {kk:Nat} (hT:TbOk T kk) (S:Sto) (hw:WF S) (hD:Clo S T.D) (n q:Int) (hn:n=0∨¬known S n∨T.D n):XC kK #[pS bt,.int .i64 n,.int .i64 q] bt bs T S (zrn T S n q):=by
 intro k1 k2 fp1 fp2 w hR
 have hR:R w (fp1++fp2) [packE 78 fp1 (fX bt bs T S.E),packE 77 fp2 (fS bs S)] w:=(Thin.packE (Thin.packE (.nil []))).ref w hR
 refine zr [.v (pS bt),.v (.int .i64 n),.v (.int .i64 q)] zdb (by simp) hR ?_
 by_cases hq:ux T S n q
 ·have hn:n=0∨T.D n:=hn.imp_right fun h=>h.resolve_left fun hk=>hk hq.1
  rw [show zrn T S n q=_ from if_pos hq]
  have c2:=fun (w':World) fp1 fp2 hR=>zh2 bt bs T hT S hw hD n q hn hq (k1:=78) (k2:=77) (fp1:=fp1) (fp2:=fp2) (w:=w') hR
  obtain ⟨j,hj⟩:∃ j:Nat,q=j:=⟨q.toNat,by have:=hq.2;omega⟩
  subst hj
  rw [g7q]
  have hjl:j<T.M.nx.length:=by have:=hq.2;omega
  by_cases h0:n=0
  ·subst h0
   rw [zhe,show ori T.back Tm.nil.txt=[] by cases T.back<;>rfl]
   (repeat' ((conv=>whnf);first|(refine vy (key1:=78) (key2:=77) rfl rfl (fun w' hR h0=>c2 w' _ _ h0) ?_;rintro _ _ w1 ⟨⟨y,ha,hc,mb,K,F,ok⟩,fp',u,rfl,rfl,hu,-⟩ hRw;rw [hu rfl];refine ⟨.v _,rfl,?_⟩)|refine zh ?_|((first|apply zc|apply za|apply zd)<;>intro h<;>try (exfalso;omega))|refine pay ?_|intro _));(all_goals (conv=>whnf))
   all_goals try (exfalso;omega)
   exact ⟨zdY ⟨y,ha,hc,mb,K,F,ok⟩ (Ref.takes [3000,3001,3002,77] rfl (.refl _)) rfl⟩
  ·(repeat' ((conv=>whnf);first|(refine vy (key1:=78) (key2:=77) rfl rfl (fun w' hR h0=>c2 w' _ _ h0) ?_;rintro _ _ w1 ⟨⟨y,ha,hc,mb,K,F,ok⟩,fp',u,rfl,rfl,-,hu⟩ hRw;obtain ⟨k,hk1,hk2,rfl,n1,n2⟩:=hu h0;refine ⟨.v _,rfl,?_⟩)|refine zh ?_|((first|apply zc|apply za|apply zd)<;>intro h<;>try (exfalso;omega))|refine pay ?_|intro _));(all_goals (conv=>whnf))
   all_goals try (exfalso;omega)
   have hok:=ok.kn k hk1
   have l1:k.wh.e.en.length=T.M.nx.length:=by rw [hok.wh];exact (xD _ _ _).1
   have e1:k.wh.e.en.getD j 0=(zA T.M j (ori T.back (tm S.E n).txt):Int):=by rw [hok.wh,←hk2];exact zaE _ _ _ hjl
   have hlt:=xI hT.m (t:=ori T.back (tm S.E n).txt) (q:=j) (fun x hx=>hw.byt _ _ (Nat.le_refl _) hq.1.2 x ((jR _).1 hx)) hjl
   have hm:=hT.m.most
   have rd:=fun {L Lr:List Ent} (hm:qP 3002 L=some (frE 3002 F,Lr))=>FIn.rdP (w0:=w) (fp0:=fp1++fp2) hm hok.fz.1 (k:=j) (v:=.int .u8 (zA T.M j (ori T.back (tm S.E n).txt))) (by rw [←e1];exact yM (by omega))
   have q0:((j:Nat):Int).toNat=j:=by omega
   generalize zA T.M j (ori T.back (tm S.E n).txt)=R1 at *
   (repeat' ((conv=>whnf);first|rw [q0]|refine ⟨_,rd rfl,?_⟩|refine zh ?_|((first|apply zc|apply za|apply zd)<;>intro h<;>try (exfalso;omega))|refine pay ?_|intro _));(all_goals (conv=>whnf))
   all_goals try (exfalso;omega)
   exact ⟨zdY ⟨y,ha,hc,mb,K,F,ok⟩ (Ref.takes [3000,3001,3002,77] rfl (.refl _)) rfl⟩
 ·have c1:=zgE bt bs T S hw n q hq
  rw [show zrn T S n q=_ from if_neg hq]
  (repeat' ((conv=>whnf);first|refine XC.go 78 77 c1 rfl rfl fun fp1' fp2'=>?_|((first|apply zc|apply za|apply zd)<;>intro h<;>try (exfalso;omega))|refine pay ?_|intro _));(all_goals (conv=>whnf))
  all_goals try (exfalso;omega)
  exact ⟨yR (Ref.takes [78,77] rfl (.refl _)) rfl⟩
theorem zpB (bt bs:Nat) (T:Tb) {kk:Nat} (hT:TbOk T kk) (S:Sto) (hw:WF S) (hD:Clo S T.D) (n q:Int) (hn:n=0∨¬known S n∨T.D n):XC kA #[pS bt,.int .i64 n,.int .i64 q] bt bs T S (zro T S n q):=by
 intro k1 k2 fp1 fp2 w hR
 have hR:R w (fp1++fp2) [packE 78 fp1 (fX bt bs T S.E),packE 77 fp2 (fS bs S)] w:=(Thin.packE (Thin.packE (.nil []))).ref w hR
 refine zr [.v (pS bt),.v (.int .i64 n),.v (.int .i64 q)] zcI (by simp) hR ?_
 by_cases hq:ux T S n q
 ·have hn:n=0∨T.D n:=hn.imp_right fun h=>h.resolve_left fun hk=>hk hq.1
  rw [show zro T S n q=_ from if_pos hq]
  have c2:=fun (w':World) fp1 fp2 hR=>zh2 bt bs T hT S hw hD n q hn hq (k1:=78) (k2:=77) (fp1:=fp1) (fp2:=fp2) (w:=w') hR
  obtain ⟨j,hj⟩:∃ j:Nat,q=j:=⟨q.toNat,by have:=hq.2;omega⟩
  subst hj
  rw [g7q]
  have hjl:j<T.M.nx.length:=by have:=hq.2;omega
  by_cases h0:n=0
  ·subst h0
   rw [zhe,show ori T.back Tm.nil.txt=[] by cases T.back<;>rfl,show zG T.M T.H j []=0 from rfl,if_pos (Nat.zero_le _)]
   (repeat' ((conv=>whnf);first|(refine vy (key1:=78) (key2:=77) rfl rfl (fun w' hR h0=>c2 w' _ _ h0) ?_;rintro _ _ w1 ⟨⟨y,ha,hc,mb,K,F,ok⟩,fp',u,rfl,rfl,hu,-⟩ hRw;rw [hu rfl];refine ⟨.v _,rfl,?_⟩)|refine zh ?_|((first|apply zc|apply za|apply zd)<;>intro h<;>try (exfalso;omega))|refine pay ?_|intro _));(all_goals (conv=>whnf))
   all_goals try (exfalso;omega)
   exact ⟨zdY ⟨y,ha,hc,mb,K,F,ok⟩ (Ref.takes [3000,3001,3002,77] rfl (.refl _)) rfl⟩
  ·(repeat' ((conv=>whnf);first|(refine vy (key1:=78) (key2:=77) rfl rfl (fun w' hR h0=>c2 w' _ _ h0) ?_;rintro _ _ w1 ⟨⟨y,ha,hc,mb,K,F,ok⟩,fp',u,rfl,rfl,-,hu⟩ hRw;obtain ⟨k,hk1,hk2,rfl,n1,n2⟩:=hu h0;refine ⟨.v _,rfl,?_⟩)|refine zh ?_|((first|apply zc|apply za|apply zd)<;>intro h<;>try (exfalso;omega))|refine pay ?_|intro _));(all_goals (conv=>whnf))
   all_goals try (exfalso;omega)
   have hok:=ok.kn k hk1
   have l1:k.wh.e.hi.length=T.M.nx.length:=by rw [hok.wh];exact (xD _ _ _).2
   have e1:k.wh.e.hi.getD j 0=((min (zG T.M T.H j (ori T.back (tm S.E n).txt)) BY:Nat):Int):=by rw [hok.wh,←hk2];exact zaF _ _ _ hjl
   have rd:=fun {L Lr:List Ent} (hm:qP 3002 L=some (frE 3002 F,Lr))=>FIn.rdP (w0:=w) (fp0:=fp1++fp2) hm hok.fz.2 (k:=j) (v:=.int .i64 ((min (zG T.M T.H j (ori T.back (tm S.E n).txt)) BY:Nat):Int)) (by rw [←e1];exact yM (by omega))
   have q0:((j:Nat):Int).toNat=j:=by omega
   generalize zG T.M T.H j (ori T.back (tm S.E n).txt)=R1 at *
   have hBY:BY=1152921504606846977:=rfl
   have hLM:LM=1152921504606846976:=rfl
   by_cases hle:R1<=LM
   ·rw [if_pos hle]
    rw [Nat.min_eq_left (by omega)] at rd
    (repeat' ((conv=>whnf);first|rw [q0]|refine ⟨_,rd rfl,?_⟩|refine zh ?_|((first|apply zc|apply za|apply zd)<;>intro h<;>try (exfalso;omega))|refine pay ?_|intro _));(all_goals (conv=>whnf))
    all_goals try (exfalso;omega)
    exact ⟨zdY ⟨y,ha,hc,mb,K,F,ok⟩ (Ref.takes [3000,3001,3002,77] rfl (.refl _)) rfl⟩
   ·rw [if_neg hle]
    rw [Nat.min_eq_right (by omega),hBY] at rd
    (repeat' ((conv=>whnf);first|rw [q0]|refine ⟨_,rd rfl,?_⟩|refine zh ?_|((first|apply zc|apply za|apply zd)<;>intro h<;>try (exfalso;omega))|refine pay ?_|intro _));(all_goals (conv=>whnf))
    all_goals try (exfalso;omega)
    exact ⟨zdY ⟨y,ha,hc,mb,K,F,ok⟩ (Ref.takes [3000,3001,3002,77] rfl (.refl _)) rfl⟩
 ·have c1:=zgE bt bs T S hw n q hq
  rw [show zro T S n q=_ from if_neg hq]
  (repeat' ((conv=>whnf);first|refine XC.go 78 77 c1 rfl rfl fun fp1' fp2'=>?_|((first|apply zc|apply za|apply zd)<;>intro h<;>try (exfalso;omega))|refine pay ?_|intro _));(all_goals (conv=>whnf))
  all_goals try (exfalso;omega)
  exact ⟨yR (Ref.takes [78,77] rfl (.refl _)) rfl⟩
theorem FIn.neP {w0 w:World} {fp0:List Nat} {L Lr:List Ent} {key:Nat} {F:List Frz} {a:Option Addr} {xs:List Value} (hR:R w0 fp0 L w) (hm:qP key L=some (frE key F,Lr)) (h:FIn F a xs) (h0:0<xs.length):a≠none :=
 FIn.ne hR ((zV hm).mem_iff.2 g5q) h h0
def zgF (back:Bool) (ps:List Pt):List Pt:=if back then ps.reverse else ps
theorem zlV (S:Sto) (back:Bool):∀ ps:List Pt,ori back (ps.flatMap (ptT S))=(zgF back ps).flatMap fun p=>ori back (ptT S p):=by
 intro ps
 cases back
 ·show ps.flatMap (ptT S)=ps.flatMap fun p=>ptT S p
  rfl
 ·show (ps.flatMap (ptT S)).reverse=ps.reverse.flatMap fun p=>(ptT S p).reverse
  induction ps with
  | nil=>rfl
  | cons p ps ih=>rw [List.flatMap_cons,List.reverse_append,ih,List.reverse_cons,List.flatMap_append,List.flatMap_singleton]
theorem ordP_mem {back:Bool} {ps:List Pt} {p:Pt}:p∈zgF back ps↔p∈ps:=by cases back<;>simp [zgF]
theorem zfj (back:Bool) (ps:List Pt):(zgF back ps).length=ps.length:=by cases back<;>simp [zgF]
theorem zod {T:Tb} {kk:Nat} (hM:MOk T.M kk) {j:Nat} (hj:j<T.M.nx.length) {t X:List Nat} (ht:∀ x∈t,x<256) {e:Eff} (he:e=T.eff X) :
 e.en.getD (zA T.M j t) 0=(zA T.M j (t++ori T.back X):Int)/\min (((min (zG T.M T.H j t) BY:Nat):Int)+e.hi.getD (zA T.M j t) 0) 1152921504606846977=((min (zG T.M T.H j (t++ori T.back X)) BY:Nat):Int):=by
 have hq:=xI hM ht hj
 obtain ⟨h1,h2⟩:=ziD T.M T.H t (ori T.back X) j
 subst he
 refine ⟨?_,?_⟩
 ·rw [zaE _ _ _ hq,h1]
 ·rw [zaF _ _ _ hq,←h2]
  unfold BY
  omega
def KnI (K:List KE) (i:Int):Prop:=∃ k∈K,k.id=i
theorem KnI.clo {T:Tb} {S:Sto} {y:MA} {ha:Option Addr} {K:List KE} {F:List Frz} (ok:TOk T S.E y ha K F):Clo S (KnI K):=by
 rintro i ⟨k,hk,rfl⟩
 have hp:=(ok.kn k hk).pos
 exact ⟨hp.1,hp.2,(ok.clo k hk).1,(ok.clo k hk).2⟩
def zk8 (T:Tb) (S:Sto) (n i m q:Int):Value :=
 if ux T S n q then (if 0<=i/\0<=m/\i<=(tm S.E n).txt.length/\m<=(tm S.E n).txt.length - i then
  (if zG T.M T.H q.toNat (ori T.back (((tm S.E n).txt.drop i.toNat).take m.toNat)) <= LM then .tuple #[.int .i64 (zA T.M q.toNat (ori T.back (((tm S.E n).txt.drop i.toNat).take m.toNat))),.int .i64 (zG T.M T.H q.toNat (ori T.back (((tm S.E n).txt.drop i.toNat).take m.toNat))),.nilIface]
   else .tuple #[.int .i64 0,.int .i64 0,yg 2]) else .tuple #[.int .i64 0,.int .i64 0,yg 1]) else .tuple #[.int .i64 0,.int .i64 0,yg 1]
theorem zh3 (bt bs:Nat) (T:Tb) {kk:Nat} (hT:TbOk T kk) (S:Sto) (hw:WF S) (hD:Clo S T.D) (n i m q:Int) (hn:n=0∨¬known S n∨T.D n):XC qZ #[pS bt,.int .i64 n,.int .i64 i,.int .i64 m,.int .i64 q] bt bs T S (zk8 T S n i m q):=by
 intro k1 k2 fp1 fp2 w hR
 have hR:R w (fp1++fp2) [packE 78 fp1 (fX bt bs T S.E),packE 77 fp2 (fS bs S)] w:=(Thin.packE (Thin.packE (.nil []))).ref w hR
 have hsm:=hw.small
 have c1:=zcS bt bs T S hw n q
 by_cases hq:ux T S n q
 case neg =>
  obtain ⟨⟨y,ha,hc,mb,K,F,ok⟩,hfp,hR'⟩:=hR.unpack
  refine zr [.ptr 3000 bt 0,.v (.int .i64 n),.v (.int .i64 i),.v (.int .i64 m),.v (.int .i64 q)] uI (by simp) hR ?_
  rw [show zk8 T S n i m q=_ from if_neg hq]
  rw [show zfi T S n q=yg 1 from if_neg hq] at c1
  (repeat' ((conv=>whnf);first|refine XC.go 78 77 c1 rfl rfl fun fp1' fp2'=>?_|((first|apply zc|apply za|apply zd)<;>intro h<;>try (exfalso;omega))|refine pay ?_|intro _));(all_goals (conv=>whnf))
  all_goals try (exfalso;omega)
  exact ⟨yR (Ref.takes [78,77] rfl (.refl _)) rfl⟩
 rw [show zk8 T S n i m q=_ from if_pos hq]
 have hn:n=0∨T.D n:=hn.imp_right fun h=>h.resolve_left fun hk=>hk hq.1
 rw [show zfi T S n q=.nilIface from if_pos hq] at c1
 have hR2:R w (fp1++fp2) [packE 78 fp1 (fX bt bs T S.E),packE 77 fp2 (fS bs S)] w:=hR
 refine zr [.ptr 3000 bt 0,.v (.int .i64 n),.v (.int .i64 i),.v (.int .i64 m),.v (.int .i64 q)] uI (by simp) hR ?_
 have hkn:known S n:=hq.1
 have c3:=ud bs S n hsm
 rw [zcF hkn] at c3
 have c4:=zgz i m (tm S.E n).txt.length (hw.le hkn.2)
 obtain ⟨j,hj⟩:∃ j:Nat,q=j:=⟨q.toNat,by have:=hq.2;omega⟩
 subst hj
 rw [g7q]
 have hjl:j<T.M.nx.length:=by have:=hq.2;omega
 by_cases hrg:0<=i/\0<=m/\i<=(tm S.E n).txt.length/\m<=(tm S.E n).txt.length - i
 case neg =>
  rw [if_neg hrg]
  rw [show zcG i m (tm S.E n).txt.length=yg 1 from if_neg hrg] at c4
  (repeat' ((conv=>whnf);first|(refine zgD (key1:=78) (key2:=77) rfl rfl (fun w hR h0=>c1 _ _ _ _ _ h0) ?_;rintro ⟨y,ha,hc,mb,K,F,ok⟩ g2 w1 hRw;refine ⟨.v _,rfl,?_⟩)|refine SC.go 77 c3 rfl fun fp'=>?_|(first|refine puK c4 ?_|refine quK c4 ?_)|refine zh ?_|((first|apply zc|apply za|apply zd)<;>intro h<;>try (exfalso;omega))|refine pay ?_|intro _));(all_goals (conv=>whnf))
  all_goals try (exfalso;omega)
  exact ⟨zdY ⟨y,ha,hc,mb,K,F,ok⟩ (Ref.takes [3000,3001,3002,77] rfl (.refl _)) rfl⟩
 rw [if_pos hrg]
 rw [show zcG i m (tm S.E n).txt.length=.nilIface from if_pos hrg] at c4
 obtain ⟨a,ha⟩:∃ a:Nat,i=a:=⟨i.toNat,by omega⟩
 obtain ⟨b,hb⟩:∃ b:Nat,m=b:=⟨m.toNat,by omega⟩
 subst ha hb
 rw [g7q,g7q]
 have c2:=fun (w':World) fp1 fp2 hR=>zh1 bt bs T hT S hw hD n hn (k1:=78) (k2:=77) (fp1:=fp1) (fp2:=fp2) (w:=w') hR
 (repeat' ((conv=>whnf);first|(refine zgD (key1:=78) (key2:=77) rfl rfl (fun w hR h0=>c1 _ _ _ _ _ h0) ?_;rintro ⟨y,ha,hc,mb,K,F,ok⟩ g2 w1 hRw;refine ⟨.v _,rfl,?_⟩)|refine SC.go 77 c3 rfl fun fp'=>?_|(first|refine puK c4 ?_|refine quK c4 ?_)|(refine zgn ((Ref.takes [3000,3001,3002,77,14] rfl (.refl _)).trans (Ref.packs (key:=78) (f:=fX bt bs T S.E) ⟨y,ha,hc,mb,K,F,ok⟩ (.refl _))) ?_;refine vy (key1:=78) (key2:=77) rfl rfl (fun w' hR h0=>c2 w' _ _ h0) ?_;rintro _ _ w1 ⟨rfl,⟨y,ha,hc,mb,K,F,ok⟩,fp',rfl,hkn⟩ hRw;refine ⟨.v _,rfl,?_⟩)|refine zh ?_|((first|apply zc|apply za|apply zd)<;>intro h<;>try (exfalso;omega))|refine pay ?_|intro _));(all_goals (conv=>whnf))
 all_goals try (exfalso;omega)
 have hPO:POk S (KnI K) ⟨n,a,b⟩:=by
  refine ⟨?_,?_⟩
  ·by_cases h0:n=0
   ·exact .inl h0
   ·obtain ⟨k,hk⟩:=hkn h0
    exact .inr ⟨k,(qU hk).1,(qU hk).2⟩
  ·show a+b<=(tm S.E n).len
   unfold Tm.len;omega
 have c5:=fun f0 fp (w':World) hR=>zf1 bs S hw (KnI K) (KnI.clo ok) ⟨n,a,b⟩ hPO f0 fp w' hR
 have hpT:pcT S ⟨n,a,b⟩=((tm S.E n).txt.drop a).take b:=rfl
 generalize ((tm S.E n).txt.drop a).take b=X at *
 have c6:=fun ps hl (a8:Option Addr) (c8:Nat) fp (w':World) hR=>zhX ps hl a8 c8 fp w' hR
 (repeat' ((conv=>whnf);first|(refine zj4 [77] rfl (fun w' hR h0=>c5 _ _ w' (by with_reducible exact h0)) ?_;rintro _ _ w2 ⟨ps,a8,c8,f8,rfl,hQ,htx,hpl,rfl⟩ hRp;refine ⟨.v _,rfl,?_⟩)|(refine zD [880] rfl (fun w' hR h0=>c6 ps (Nat.le_trans hpl (Nat.le_of_ble_eq_true rfl)) _ _ _ w' h0) ?_;rintro _ _ ⟨rfl,rfl⟩;refine ⟨.v _,rfl,?_⟩)|refine zh ?_|((first|apply zc|apply za|apply zd)<;>intro h<;>try (exfalso;omega))|refine pay ?_|intro _));(all_goals (conv=>whnf))
 all_goals try (exfalso;omega)
 all_goals
  have nF:=fun {a:Option Addr} {xs:List Value} (h:FIn F a xs) (h0:0<xs.length)=>FIn.neP hRp (key:=3002) rfl h h0
  have nO:=fun (h:0<ps.length)=>znE (key:=880) hRp rfl h
  obtain ⟨lp,hlp⟩:∃ lp,zgF T.back ps=lp:=⟨_,rfl⟩
  have hll:lp.length=ps.length:=by rw [←hlp];exact zfj _ _
  have hQ':∀ p∈lp,QOk S (KnI K) p:=fun p hp=>hQ p (ordP_mem.1 (by rw [hlp];exact hp))
  have hX:ori T.back X=lp.flatMap fun p=>ori T.back (ptT S p):=by rw [←hlp,←zlV,htx,hpT]
  have hby:∀ p∈lp,∀ x∈ori T.back (ptT S p),x<256:=fun p hp x hx=>by
   obtain ⟨q,hq,hid⟩:=(hQ' p hp).1
   have:=(ok.kn q hq).pos
   exact hw.byt _ p.id (Nat.le_refl _) (by rw [←hid];exact this.2) x (zbe ((jR _).1 hx))
  refine zw Nat (fun i=>[(0,.ptr 3000 bt 0),(4,.v (.int .i64 (zA T.M j ((lp.take i).flatMap fun p=>ori T.back (ptT S p)):Nat))),(11,.v (.int .i64 ((min (zG T.M T.H j ((lp.take i).flatMap fun p=>ori T.back (ptT S p))) BY:Nat):Int))),(76,.v (.slice a8 ps.length c8)),(77,.v (.int .i64 ps.length)),(78,.v (.int .i64 i))])
   (fun i=>[.box 3000 bt (zad bs y ha T.H.length hc T.back mb) zN,.mapE 3001 mb (.int .i64) (knm K),frE 3002 F,packE 77 f8 (fS bs S),.own 880 a8 ps.length c8 zM 3 (pts lp)]) (fun i=>i<=lp.length) (fun i=>lp.length - i) 0 (Nat.zero_le _) (by (repeat ((conv=>whnf);refine vS ?_));exact trivial) (Ref.takes [3000,3001,3002,77,880] rfl (.keep rfl (fun _ h=>h) (.keep rfl (fun _ h=>h) (.keep rfl (fun _ h=>h) (.keep rfl (fun _ h=>h) (.own rfl (by rw [←hlp];unfold zgF;first|rw [if_pos ‹T.back=true›]|rw [if_neg (by rw [‹T.back=false›];decide)]) (.nil _))))))) ?_
  intro i hi
  by_cases hlt:i<lp.length
  case neg =>
   obtain rfl:i=lp.length:=by omega
   rw [List.take_length,←hX]
   have hBY:BY=1152921504606846977:=rfl
   have hLM:LM=1152921504606846976:=rfl
   by_cases hle:zG T.M T.H j (ori T.back X)<=LM
   ·rw [if_pos hle,Nat.min_eq_left (by omega)]
    generalize zG T.M T.H j (ori T.back X)=R1 at *
    generalize zA T.M j (ori T.back X)=R2 at *
    (repeat' ((conv=>whnf);first|((first|apply zc|apply za|apply zd)<;>intro h<;>try (exfalso;omega))|refine pay ?_|intro _));(all_goals (conv=>whnf))
    all_goals try (exfalso;omega)
    exact ⟨zdY ⟨y,ha,hc,mb,K,F,ok⟩ (Ref.takes [3000,3001,3002,77] rfl (.refl _)) rfl⟩
   ·rw [if_neg hle,Nat.min_eq_right (by omega),hBY]
    generalize zA T.M j (ori T.back X)=R2 at *
    (repeat' ((conv=>whnf);first|((first|apply zc|apply za|apply zd)<;>intro h<;>try (exfalso;omega))|refine pay ?_|intro _));(all_goals (conv=>whnf))
    all_goals try (exfalso;omega)
    exact ⟨zdY ⟨y,ha,hc,mb,K,F,ok⟩ (Ref.takes [3000,3001,3002,77] rfl (.refl _)) rfl⟩
  obtain ⟨p,hp⟩:∃ p,lp[i]?=some p:=⟨_,g2q hlt⟩
  have hpm:p∈lp:=List.mem_of_getElem? hp
  obtain ⟨⟨k,hk,hkid⟩,hpt⟩:=hQ' p hpm
  have hrow:=zcN (f:=ptC) (k:=3) (fun _=>rfl) lp hp
  have hnx:(lp.take (i+1)).flatMap (fun p=>ori T.back (ptT S p))=(lp.take i).flatMap (fun p=>ori T.back (ptT S p))++ori T.back (ptT S p):=by
   rw [List.take_add_one,hp];simp
  have hTb:∀ x∈(lp.take i).flatMap (fun p=>ori T.back (ptT S p)),x<256:=fun x hx=>by
   obtain ⟨z,hz,hx⟩:=List.mem_flatMap.1 hx
   exact hby z (List.mem_of_mem_take hz) x hx
  have hpb:=hby p hpm
  generalize (lp.take i).flatMap (fun p=>ori T.back (ptT S p))=Ti at *
  have hok:=ok.kn k hk
  have na:=nO (by omega)
  have q0:((i:Nat):Int).toNat=i:=by omega
  have hSt:=xI hT.m hTb hjl
  have hBY:BY=1152921504606846977:=rfl
  have hm:=hT.m.most
  have hpos:=hT.m.pos
  by_cases h1:p.t=1
  ·obtain ⟨k',hk'⟩:=zet ⟨k,hk,hkid⟩
   have hok:=ok.kn k' (qU hk').1
   have hid':=(qU hk').2
   have hw1:=hok.wh
   rw [hid'] at hw1
   obtain ⟨s1,s2⟩:=zod hT.m hjl hTb hw1
   have hpT1:ptT S p=(tm S.E p.id).txt:=by unfold ptT;rw [h1,x7]
   rw [←hpT1,←hnx] at s1 s2
   have l1:k'.wh.e.en.length=T.M.nx.length:=by rw [hok.wh];exact (xD _ _ _).1
   have l2:k'.wh.e.hi.length=T.M.nx.length:=by rw [hok.wh];exact (xD _ _ _).2
   have eo:EOk T.M.nx.length k'.wh.e:=by rw [hok.wh];exact Tb.eff_ok hT.m (hw.byt _ _ (Nat.le_refl _) hok.pos.2)
   have ee:=eo.en _ hSt
   have eh:=eo.hi _ hSt
   have c7:=fun (w':World) h1 h2=>zgB (w:=w') (ea:=k'.wh.ea) (ha:=k'.wh.ha) k'.wh.ec k'.wh.hc k'.wh.e.en k'.wh.e.hi h1 h2 (zA T.M j Ti) (by omega) (by omega) (by omega) ((min (zG T.M T.H j Ti) BY:Nat):Int) (by omega) eh
   rw [s1,s2] at c7
   have qk:=uJ p.id
   have h1':(p.t:Int)=1:=by omega
   (repeat' ((conv=>whnf);first|rw [q0]|rw [h1']|refine ⟨ptC p,rfl,Rd.own (key:=880) rfl (Nat.succ_pos _) hrow,?_⟩|refine jj hk' ?_|(refine zm (.v _) (fun w' hR=>c7 w' (hok.fz.in_ (key:=3002) hR rfl).1 (hok.fz.in_ (key:=3002) hR rfl).2) ?_)|(refine yF (.v _) (fun w' hR=>c7 w' (hok.fz.in_ (key:=3002) hR rfl).1 (hok.fz.in_ (key:=3002) hR rfl).2) ?_)|refine ⟨.mp 3001 _,⟨rfl,rfl⟩,?_⟩|refine zh ?_|refine yI ?_ ?_|((first|apply zc|apply za|apply zd)<;>intro h<;>try (exfalso;omega))|refine pay ?_|refine And.intro (by first|exact na|exact ⟨rfl,rfl,qk⟩) ?_|intro _));(all_goals (conv=>whnf))
   all_goals try (exfalso;omega)
   all_goals exact zi (i+1) (by omega) (by omega) (by (repeat ((conv=>whnf);refine vS ?_));exact trivial) (Ref.takes [3000,3001,3002,77,880] rfl (.refl _))
  ·obtain ⟨t2,⟨ke,hke,hkeid⟩,k3,ka,kt⟩:=hpt.resolve_left h1
   obtain ⟨k',hk'⟩:=zet ⟨ke,hke,hkeid⟩
   have hok:=ok.kn k' (qU hk').1
   have hid':=(qU hk').2
   have hpw:=hok.pw
   rw [hid'] at hpw
   obtain ⟨pw1,pw2⟩:=hpw k3
   rw [ka] at pw2
   have qk:=uJ p.pw
   have h1':¬(p.t:Int)=1:=by omega
   have htc:p.t<2 ^ k'.cs.length:=by
    have h9:((p.t:Nat):Int)<((2 ^ k'.cs.length:Nat):Int):=by push_cast;omega
    exact_mod_cast h9
   have hti:=hw.tim2 hok.pos.1 hok.pos.2
   rw [hid'] at hti
   have hcl:k'.cs.length≠0:=fun h=>by rw [h] at htc;omega
   (repeat' ((conv=>whnf);first|rw [q0]|refine ⟨ptC p,rfl,Rd.own (key:=880) rfl (Nat.succ_pos _) hrow,?_⟩|refine jj hk' ?_|refine ⟨.mp 3001 _,⟨rfl,rfl⟩,?_⟩|refine zh ?_|refine yI ?_ ?_|((first|apply zc|apply za|apply zd)<;>intro h<;>try (exfalso;omega))|refine pay ?_|refine And.intro (by first|exact na|exact ⟨rfl,rfl,qk⟩) ?_|intro _));(all_goals (conv=>whnf))
   all_goals try (exfalso;omega)
   rename_i b19
   obtain ⟨u,hu⟩:∃ u,ori T.back (tm S.E p.id).txt=u:=⟨_,rfl⟩
   have hub:∀ x∈u,x<256:=fun x hx=>by
    rw [←hu] at hx
    have h8:=(ok.kn k hk).pos.2
    rw [hkid] at h8
    exact hw.byt _ p.id (Nat.le_refl _) h8 x ((jR _).1 hx)
   have hpT2:ori T.back (ptT S p)=rep p.t u:=by unfold ptT;rw [zaG,hu]
   rw [hpT2] at hnx
   have sd:∀ x:Nat,(x:Int)/((2 ^ Int.toNat 1:Nat):Int)=((x/2:Nat):Int):=fun x=>by
    rw [show (2 ^ Int.toNat 1:Nat)=2 from rfl];omega
   have sb:0<=(1:Int)/\(1:Int)<=biK .i64:=by decide
   have sn:∀ x:Nat,((x:Int).toNat&&&Int.toNat 1)=x%2:=fun x=>by
    rw [g7q];exact Nat.and_one_is_mod x
   have nk:=nF hok.cfz (by rw [zn7];omega)
   refine zw Nat (fun x=>[(0,.ptr 3000 bt 0),(4,.v (.int .i64 (zA T.M j (Ti++rep (p.t%2 ^ x) u):Nat))),(11,.v (.int .i64 ((min (zG T.M T.H j (Ti++rep (p.t%2 ^ x) u)) BY:Nat):Int))),(20,.v (.slice k'.ca k'.cs.length k'.cc)),(21,.v (.int .i64 x)),(22,.v (.int .i64 ((p.t/2 ^ x:Nat):Int))),(76,.v (.slice a8 ps.length c8)),(77,.v (.int .i64 ps.length)),(78,.v (.int .i64 i))])
    (fun x=>[.box 3000 bt (zad bs y ha T.H.length hc T.back mb) zN,.mapE 3001 mb (.int .i64) (knm K),frE 3002 F,packE 77 f8 (fS bs S),.own 880 a8 ps.length c8 zM 3 (pts lp)]) (fun x=>x<=64) (fun x=>p.t/2 ^ x) 0 (Nat.zero_le _) ?_ (Ref.takes [3000,3001,3002,77,880] rfl (.refl _)) ?_
   ·rw [Nat.pow_zero,Nat.mod_one,Nat.div_one,zaz,List.append_nil]
    (repeat ((conv=>whnf);refine vS ?_));exact trivial
   intro x hx
   have hTx:∀ z∈Ti++rep (p.t%2 ^ x) u,z<256:=fun z hz=>by
    rcases List.mem_append.1 hz with hz|hz
    ·exact hTb z hz
    ·exact hub z (zbe hz)
   have hSx:=xI hT.m hTx hjl
   have hql:p.t/2 ^ x<=p.t:=Nat.div_le_self _ _
   have b1:=zqk (t:=p.t) (i:=x)
   have b0:=zn8 (t:=p.t) (i:=x)
   have dz:=ziK (t:=p.t) (i:=x)
   have ds:=ziJ p.t x
   have hge:0<p.t/2 ^ x->x<k'.cs.length/\x<64:=fun h=>by
    have h3:2 ^ x<=p.t:=by
     rcases Nat.lt_or_ge p.t (2 ^ x) with h4|h4
     ·rw [Nat.div_eq_of_lt h4] at h;omega
     ·exact h4
    refine ⟨(Nat.pow_lt_pow_iff_right (a:=2) (by decide)).1 (Nat.lt_of_le_of_lt h3 htc),?_⟩
    have:2 ^ x<2 ^ 64:=by omega
    exact (Nat.pow_lt_pow_iff_right (by decide)).1 this
   by_cases h0:p.t/2 ^ x=0
   ·have e2:=dz h0
    rw [Nat.mod_eq_of_lt e2,←hnx]
    generalize p.t/2 ^ x=qq at *
    (repeat' ((conv=>whnf);first|((first|apply zc|apply za|apply zd)<;>intro h<;>try (exfalso;omega))|refine pay ?_|intro _));(all_goals (conv=>whnf))
    all_goals try (exfalso;omega)
    all_goals exact zi (i+1) (by omega) (by omega) (by (repeat ((conv=>whnf);refine vS ?_));exact trivial) (Ref.takes [3000,3001,3002,77,880] rfl (.refl _))
   obtain ⟨x1,x2⟩:=hge (Nat.pos_of_ne_zero h0)
   have hdl:p.t/2 ^ (x+1)<p.t/2 ^ x:=by rw [←ds];exact Nat.div_lt_self (Nat.pos_of_ne_zero h0) (by decide)
   have sd2:((p.t/2 ^ x:Nat):Int)/((2 ^ Int.toNat 1:Nat):Int)=((p.t/2 ^ (x+1):Nat):Int):=by rw [sd,ds]
   by_cases hbit:p.t/2 ^ x%2=1
   ·obtain ⟨z,hz⟩:∃ z,k'.cs[x]?=some z:=⟨_,g2q x1⟩
    obtain ⟨z1,z2⟩:=pw2 x z hz
    obtain ⟨s1,s2⟩:=zod hT.m hjl hTx z2
    rw [zaG,hu,List.append_assoc,←kQ,←b1 hbit] at s1 s2
    have l1:z.e.en.length=T.M.nx.length:=by rw [z2];exact (xD _ _ _).1
    have l2:z.e.hi.length=T.M.nx.length:=by rw [z2];exact (xD _ _ _).2
    have eo:EOk T.M.nx.length z.e:=by
     rw [z2];exact Tb.eff_ok hT.m (fun c hc=>by
      have h8:=(ok.kn k hk).pos.2
      rw [hkid] at h8
      exact hw.byt _ p.id (Nat.le_refl _) h8 c (zbe hc))
    have ee:=eo.en _ hSx
    have eh:=eo.hi _ hSx
    have c7:=fun (w':World) h1 h2=>zgB (w:=w') (ea:=z.ea) (ha:=z.ha) z.ec z.hc z.e.en z.e.hi h1 h2 (zA T.M j (Ti++rep (p.t%2 ^ x) u)) (by omega) (by omega) (by omega) ((min (zG T.M T.H j (Ti++rep (p.t%2 ^ x) u)) BY:Nat):Int) (by omega) eh
    rw [s1,s2] at c7
    have rdz:=fun {L Lr:List Ent} (hm:qP 3002 L=some (frE 3002 F,Lr))=>FIn.rdnP (w0:=w) (fp0:=fp1++fp2) hm hok.cfz (k:=x*2) (vs:=z.cells) (Nat.succ_pos _) (zqi hz)
    have q1:((x:Nat):Int).toNat=x:=by omega
    generalize p.t/2 ^ x=qq at *
    (repeat' ((conv=>whnf);first|rw [q1]|rw [sn]|rw [sd2]|refine ⟨z.cells,rfl,rdz rfl,?_⟩|(refine zm (.v _) (fun w' hR=>c7 w' (z1.in_ (key:=3002) hR rfl).1 (z1.in_ (key:=3002) hR rfl).2) ?_)|refine zh ?_|((first|apply zc|apply za|apply zd)<;>intro h<;>try (exfalso;omega))|refine pay ?_|refine And.intro (by first|exact sb|exact nk) ?_|intro _));(all_goals (conv=>whnf))
    all_goals try (exfalso;omega)
    all_goals exact zi (x+1) (by omega) hdl (by (repeat ((conv=>whnf);refine vS ?_));exact trivial) (Ref.takes [3000,3001,3002,77,880] rfl (.refl _))
   ·have e3:=b0 (by omega)
    generalize p.t/2 ^ x=qq at *
    (repeat' ((conv=>whnf);first|rw [sn]|rw [sd2]|refine zh ?_|((first|apply zc|apply za|apply zd)<;>intro h<;>try (exfalso;omega))|refine pay ?_|refine And.intro (by first|exact sb|exact nk) ?_|intro _));(all_goals (conv=>whnf))
    all_goals try (exfalso;omega)
    all_goals (refine zi (x+1) (by omega) hdl ?_ (Ref.takes [3000,3001,3002,77,880] rfl (.refl _));rw [e3];(repeat ((conv=>whnf);refine vS ?_));exact trivial)
def TC2 (f:Nat) (args:Array Value) (bt bs:Nat) (T:Tb) (E:List Entr) (r:Value):Prop :=
 ∀ (key:Nat) (fp:List Nat) (w:World),R w fp [packE key fp (fX bt bs T E)] w->Calls Tryz.prog f args w fun e w'=>∃ v L1,e=.returned v/\R w fp L1 w'/\v=r/\L1=[packE key fp (fX bt bs T E)]
theorem zu4 {key bt bs:Nat} {T:Tb} {E:List Entr} {r v:Value} {w0:World} {fp0 fp:List Nat} {L:List Ent} (x:TG T E) (hfp:fps (fX bt bs T E x)=fp) (h:Ref w0 fp0 L (fX bt bs T E x)) (hv:v=r):∃ L1,Ref w0 fp0 L L1/\v=r/\L1=[packE key fp (fX bt bs T E)]:=by
 subst hfp
 exact ⟨_,h.trans (Ref.pack (key:=key) x (.refl _)),hv,rfl⟩
theorem uh (bt bs:Nat) (T:Tb) (E:List Entr):TC2 zX #[pS bt] bt bs T E (pS bs):=by
 intro key fp w hR
 refine kU [.ptr 3000 bt 0] zbO (by simp) hR ?_
 rintro ⟨y,ha,hc,mb,K,F,ok⟩ hfp hR'
 have hfp2:=hfp
 rw [zfg] at hfp2 ⊢
 (repeat' ((conv=>whnf);first|refine zh ?_|((first|apply zc|apply za|apply zd)<;>intro h<;>try (exfalso;omega))|refine pay ?_|intro _));(all_goals (conv=>whnf))
 all_goals exact ⟨zu4 ⟨y,ha,hc,mb,K,F,ok⟩ hfp (Ref.takes [3000,3001,3002] rfl (.refl _)) rfl⟩
theorem zcT (bt bs:Nat) (T:Tb) (E:List Entr):TC2 yb #[pS bt] bt bs T E (.bool T.back):=by
 intro key fp w hR
 refine kU [.ptr 3000 bt 0] zcM (by simp) hR ?_
 rintro ⟨y,ha,hc,mb,K,F,ok⟩ hfp hR'
 have hfp2:=hfp
 rw [zfg] at hfp2 ⊢
 (repeat' ((conv=>whnf);first|refine zh ?_|((first|apply zc|apply za|apply zd)<;>intro h<;>try (exfalso;omega))|refine pay ?_|intro _));(all_goals (conv=>whnf))
 all_goals exact ⟨zu4 ⟨y,ha,hc,mb,K,F,ok⟩ hfp (Ref.takes [3000,3001,3002] rfl (.refl _)) rfl⟩
def zx5 (key:Nat) (fp:List Nat) (bt bs:Nat) (T:Tb) (E:List Entr) (v:Value) (L1:List Ent):Prop :=
 ∃ y F,v=MA.v y/\MFz F y/\y.m=T.M/\L1=[frE 79 F,packE key fp (fX bt bs T E)]
theorem zk9 (bt bs:Nat) (T:Tb) {kk:Nat} (hT:TbOk T kk) (E:List Entr) (key:Nat) {fp:List Nat} {w:World} (hR:R w fp [packE key fp (fX bt bs T E)] w) :
 Calls Tryz.prog xC #[pS bt] w fun e w'=>∃ v L1,e=.returned v/\R w fp L1 w'/\zx5 key fp bt bs T E v L1:=by
 refine kU [.ptr 3000 bt 0] zbd (by simp) hR ?_
 rintro ⟨y,ha,hc,mb,K,F,ok⟩ hfp hR'
 have hpk':=fun (L:List Ent)=>Ref.packs (w0:=w) (fp0:=fp) (key:=key) (f:=fX bt bs T E) (Lr:=L) ⟨y,ha,hc,mb,K,F,ok⟩ (.refl _)
 rw [hfp] at hpk'
 rw [zfg] at hpk' ⊢
 have hNy:T.M.nx=y.nr.map RA.xs:=by rw [←ok.ym];rfl
 have hN2:T.M.nx.length=y.nr.length:=by rw [hNy,g8q]
 have hCy:T.M.cls=y.cls:=by rw [←ok.ym];rfl
 have hAy:T.M.acc=y.acc:=by rw [←ok.ym];rfl
 have m1:=hT.m.most
 have m2:=hT.m.cls
 have m3:=hT.m.acc
 rw [hCy] at m2
 rw [hAy] at m3
 have hrl:∀ r∈y.nr,r.xs.length<=256:=fun r hr=>by
  have:=(hT.m.row r.xs (by rw [hNy];exact List.mem_map.2 ⟨r,hr,rfl⟩)).1
  have:=hT.m.k1
  omega
 have c2:=fun w' h=>zh0 79 (w:=w') y h ⟨by omega,by omega,by omega,fun r hr=>by have:=hrl r hr;omega⟩
 (repeat' ((conv=>whnf);first|(refine zz (fun w' hR=>c2 w' ⟨FIn.in_ hR ((zV (key:=3002) rfl).mem_iff.2 g5q) ok.mfz.cls,FIn.in_ hR ((zV (key:=3002) rfl).mem_iff.2 g5q) ok.mfz.nx,FIn.in_ hR ((zV (key:=3002) rfl).mem_iff.2 g5q) ok.mfz.acc,fun r hr=>FIn.in_ hR ((zV (key:=3002) rfl).mem_iff.2 g5q) (ok.mfz.row r hr)⟩) ?_;rintro _ _ ⟨⟨start',cls',ca',cc',nr',na',nc',acc',aa',ac'⟩,F',rfl,rfl,hF,hy⟩;refine ⟨.v _,rfl,?_⟩)|refine zh ?_|((first|apply zc|apply za|apply zd)<;>intro h<;>try (exfalso;omega))|refine pay ?_|intro _));(all_goals (conv=>whnf))
 all_goals try (exfalso;omega)
 refine ⟨⟨_,(Ref.takes [3000,3001,3002,79] rfl (.refl _)).trans ((hpk' _).trans (Ref.perm (.swap _ _ _))),⟨start',cls',ca',cc',nr',na',nc',acc',aa',ac'⟩,F',rfl,hF,by rw [hy,ok.ym],rfl⟩⟩
end Go.Proofs.YtjmlialibdobpaaGreatDoor
