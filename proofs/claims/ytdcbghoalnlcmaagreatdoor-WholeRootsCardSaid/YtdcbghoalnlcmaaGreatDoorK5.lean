/- The parse of a text, level by level. Plain Lean: no program in sight. -/
import Derived.Test.YtdcbghoalnlcmaaGreatDoorK4
set_option linter.unusedSectionVars false
set_option linter.unusedVariables false
set_option linter.unusedSimpArgs false
namespace Go.Proofs.YtdcbghoalnlcmaaGreatDoor
section
open Go.EG
def zF (ts:List Tm):List Nat:=ts.flatMap Tm.txt
theorem qv (a b:List Tm):zF (a++b)=zF a++zF b:=by simp [zF]
theorem qM (a:Tm) (b:List Tm):zF (a::b)=a.txt++zF b:=by simp [zF]
theorem zhb (t:List Nat):zF (t.map .lt)=t:=by
 induction t with
 | nil=>rfl
 | cons x t ih=>rw [List.map_cons,qM,ih];rfl
def zI:List Tm->List (Tm × Nat)
 | []=>[]
 | x :: xs => match zI xs with
   | []=>[(x,1)]
   | (y,t)::r=>if x=y then (y,t+1)::r else (x,1)::(y,t)::r
def jO (g:Tm × Nat):Tm:=if g.2=1 then g.1 else .pw g.1 g.2
def vk (ts:List Tm):List Tm:=(zI ts).map jO
theorem zmX:∀ ts:List Tm,∀ g∈zI ts,1<=g.2
 | [],g,h=>by simp [zI] at h
 | x :: xs,g,h => by
   have ih:=zmX xs
   simp only [zI] at h
   cases hr:zI xs with
   | nil=>rw [hr] at h;simp at h;subst h;exact Nat.le_refl _
   | cons p r =>
     obtain ⟨y,t⟩:=p
     rw [hr] at h ih
     simp only at h
     split at h
     ·simp only [List.mem_cons] at h
      rcases h with rfl|h
      ·simp
      ·exact ih g (g4q _ h)
     ·simp only [List.mem_cons] at h
      rcases h with rfl|h
      ·simp
      ·exact ih g (by simpa using h)
theorem zvd {g:Tm × Nat} (h:1<=g.2):(jO g).txt=rep g.2 g.1.txt:=by
 unfold jO
 split
 ·rename_i h1;rw [h1,xM]
 ·rfl
theorem zeS:∀ ts:List Tm,(zI ts).flatMap (fun g=>rep g.2 g.1.txt)=zF ts
 | []=>rfl
 | x :: xs => by
   have ih:=zeS xs
   rw [qM,←ih]
   simp only [zI]
   cases hr:zI xs with
   | nil=>simp [xM]
   | cons p r =>
     obtain ⟨y,t⟩:=p
     simp only
     split
     ·rename_i h;subst h;simp [vN]
     ·simp [xM]
theorem zve (ts:List Tm):zF (vk ts)=zF ts:=by
 rw [←zeS ts]
 have h:=zmX ts
 unfold vk
 generalize zI ts=gs at *
 induction gs with
 | nil=>rfl
 | cons g gs ih =>
   rw [List.map_cons,qM,List.flatMap_cons,zvd (h g g5q),ih fun g' hg=>h g' (g4q _ hg)]
theorem zbX:∀ ts:List Tm,(zI ts).length<=ts.length/\((zI ts).length=ts.length->vk ts=ts)
 | []=>⟨Nat.le_refl _,fun _=>rfl⟩
 | x :: xs => by
   obtain ⟨i1,i2⟩:=zbX xs
   unfold vk at i2 ⊢
   simp only [zI]
   cases hr:zI xs with
   | nil =>
     rw [hr] at i1 i2
     have hx:xs=[]:=by
      have:=zeS xs
      cases xs with
      | nil=>rfl
      | cons y ys =>
        simp only [zI] at hr
        split at hr
        ·cases hr
        ·split at hr<;>cases hr
     subst hx
     simp [jO]
   | cons p r =>
     obtain ⟨y,t⟩:=p
     rw [hr] at i1 i2
     simp only
     split
     ·simp only [List.length_cons] at i1 ⊢
      exact ⟨by omega,fun h=>by omega⟩
     ·simp only [List.length_cons,List.map_cons] at i1 i2 ⊢
      refine ⟨by omega,fun h=>?_⟩
      have:=i2 (by omega)
      rw [this]
      simp [jO]
theorem vl (ts:List Tm):(vk ts).length=(zI ts).length:=by simp [vk]
theorem ztD {ts:List Tm} (h:(vk ts).length=ts.length):vk ts=ts:=(zbX ts).2 (by rw [←vl];exact h)
theorem uM:∀ (x:Tm) (xs:List Tm),∃ t r,zI (x::xs)=(x,t)::r
 | x,[]=>⟨1,[],rfl⟩
 | x,y :: ys => by
   obtain ⟨t,r,h⟩:=uM y ys
   have e:zI (x::y::ys)=match zI (y::ys) with
    | []=>[(x,1)]
    | (y,t)::r=>if x=y then (y,t+1)::r else (x,1)::(y,t)::r:=rfl
   rw [e,h]
   simp only
   by_cases hx:x=y
   ·rw [if_pos hx,hx];exact ⟨_,_,rfl⟩
   ·rw [if_neg hx];exact ⟨_,_,rfl⟩
theorem zih {x:Tm} {r:List Tm}:(vk (x::x::r)).length<(x::x::r).length:=by
 rw [vl]
 have h:=(zbX (x::r)).1
 have e:zI (x::x::r)=match zI (x::r) with
  | []=>[(x,1)]
  | (y,t)::r=>if x=y then (y,t+1)::r else (x,1)::(y,t)::r:=rfl
 obtain ⟨t,r',h'⟩:=uM x r
 rw [e,h']
 rw [h'] at h
 simp only [if_true,List.length_cons] at h ⊢
 omega
theorem zvf {ts:List Tm} (h:0<ts.length):0<(vk ts).length:=by
 cases ts with
 | nil=>simp at h
 | cons x xs =>
   obtain ⟨t,r,e⟩:=uM x xs
   rw [vl,e];simp
def xl (ts:List Tm):List Int:=ts.map fun m=>(m.key:Int)
theorem ztE (ts:List Tm):(xl ts).length=ts.length:=by simp [xl]
def asm (ts:List Tm):Nat->List Int->List Tm
 | i,[]=>ts.drop i
 | i,p::ps=>(ts.drop i).take (p.toNat - i)++.pr (ts.getD p.toNat .nil) (ts.getD (p.toNat+1) .nil)::asm ts (p.toNat+2) ps
def ql (ts:List Tm) (l:Nat):List Tm:=asm ts 0 (zQ (xl ts) l)
theorem zo8 {ts:List Tm} {i p:Nat} (h1:i<=p) (h2:p+1<ts.length):ts.drop i=(ts.drop i).take (p - i)++ts.getD p .nil::ts.getD (p+1) .nil::ts.drop (p+2):=by
 conv=>lhs;rw [←List.take_append_drop (p - i) (ts.drop i)]
 rw [List.drop_drop,show i+(p - i)=p by omega,List.drop_eq_getElem_cons (by omega:p<ts.length),List.drop_eq_getElem_cons (by omega:p+1<ts.length)]
 rw [g1q,g2q (by omega),g1q,g2q (by omega)]
 rfl
theorem zro (ts:List Tm):∀ (ps:List Int) (i:Nat),Gap i ps->(∀ p∈ps,0<=p/\p+1<ts.length)->zF (asm ts i ps)=zF (ts.drop i)
 | [],i,_,_=>rfl
 | p :: ps,i,hg,hm => by
   have hp:=hm p g5q
   have h1:=hg.1
   rw [asm,qv,qM,zro ts ps (p.toNat+2) (by have:=hg.2;rwa [show ((p.toNat+2:Nat):Int)=p+2 by omega]) fun q hq=>hm q (g4q _ hq)]
   conv=>rhs;rw [zo8 (ts:=ts) (i:=i) (p:=p.toNat) (by omega) (by omega)]
   rw [qv,qM,qM]
   simp [Tm.txt]
theorem zrp (ts:List Tm):∀ (ps:List Int) (i:Nat),Gap i ps->(∀ p∈ps,0<=p/\p+1<ts.length)->(asm ts i ps).length+ps.length=ts.length - i
 | [],i,_,_=>by simp [asm]
 | p :: ps,i,hg,hm => by
   have hp:=hm p g5q
   have h1:=hg.1
   have ih:=zrp ts ps (p.toNat+2) (by have:=hg.2;rwa [show ((p.toNat+2:Nat):Int)=p+2 by omega]) fun q hq=>hm q (g4q _ hq)
   rw [asm,g6q,List.length_take,List.length_drop,List.length_cons,List.length_cons]
   omega
theorem zhc (ts:List Tm) (l:Nat):Gap ((0:Nat):Int) (zQ (xl ts) l)/\∀ p∈zQ (xl ts) l,0<=p/\p+1<ts.length :=
 ⟨ztz _ _,fun p hp=>by have:=zie hp;rw [ztE] at this;exact ⟨this.1,this.2.1⟩⟩
theorem zmY (ts:List Tm) (l:Nat):zF (ql ts l)=zF ts:=by
 obtain ⟨h1,h2⟩:=zhc ts l
 have:=zro ts _ 0 h1 h2
 simpa [ql] using this
theorem zeT (ts:List Tm) (l:Nat):(ql ts l).length+(zQ (xl ts) l).length=ts.length:=by
 obtain ⟨h1,h2⟩:=zhc ts l
 have:=zrp ts _ 0 h1 h2
 simpa [ql] using this
theorem zsg {ts:List Tm} {l:Nat} (h:(ql ts l).length=ts.length):ql ts l=ts:=by
 have h1:=zeT ts l
 have h2:zQ (xl ts) l=[]:=List.eq_nil_of_length_eq_zero (by omega)
 unfold ql
 rw [h2];rfl
theorem zcG {ts:List Tm} {l:Nat} (h:0<ts.length):0<(ql ts l).length:=by
 refine Nat.pos_of_ne_zero fun h0=>?_
 have h1:=zmY ts l
 have h2:=zeT ts l
 obtain ⟨h3,h4⟩:=zhc ts l
 unfold ql at h0
 have hnil:=List.eq_nil_of_length_eq_zero h0
 cases hps:zQ (xl ts) l with
 | nil=>rw [hps,asm] at hnil;simp at hnil;subst hnil;simp at h
 | cons p ps=>rw [hps,asm] at hnil;simp at hnil
theorem zo9 {a b:Int} {r:List Int} {l:Int} (h:zA a b l=true):0<(zQ (a::b::r) l).length:=by
 have he:qr l=true:=by
  unfold zA at h
  exact (Bool.and_eq_true_iff.1 h).1
 unfold zQ
 rw [if_pos he]
 split
 ·rename_i ht
  have hab:a=b:=by
   unfold zA at h
   rw [he,if_pos ht] at h
   simpa using h
  subst hab
  obtain ⟨t,q,hq,ht2⟩:∃ t q,runs (a::a::r)=(a,t)::q/\2<=t:=by
   have h1:=zeQ (a::r)
   have h2:=kB (a::r)
   have e:runs (a::a::r)=match runs (a::r) with
    | []=>[(a,1)]
    | (y,t)::r=>if a=y then (y,t+1)::r else (a,1)::(y,t)::r:=rfl
   rw [e]
   cases hr:runs (a::r) with
   | nil=>rw [hr] at h1;simp at h1
   | cons g q =>
     obtain ⟨y,t⟩:=g
     rw [hr] at h1 h2
     have hy:y=a:=by simpa using h1
     subst hy
     have:=h2 (y,t) g5q
     simp only at this
     exact ⟨t+1,q,by simp,by omega⟩
  unfold zK
  rw [hq,vv,if_pos (by omega)]
  simp only [ya,List.cons_append,List.nil_append,List.flatMap_cons,g6q,ug,g8q,List.length_range]
  omega
 ·have hm:(0:Int)∈pick (fun i=>zA ((a::b::r).getD i 0) ((a::b::r).getD (i+1) 0) l) ((a::b::r).length - 1):=by
   simp only [List.length_cons,Nat.add_sub_cancel]
   generalize r.length=n
   induction n with
   | zero=>simp [pick,h]
   | succ n ih=>rw [pick];exact List.mem_append_left _ ih
  exact List.length_pos_of_mem hm
def zG (l:Nat) (ts:List Tm):List Tm:=if l%2=1 then vk ts else ql ts l
def zx (t:List Nat):Nat->List Tm
 | 0=>t.map .lt
 | l+1=>zG (l+1) (zx t l)
theorem jP (l:Nat) (ts:List Tm):zF (zG l ts)=zF ts:=by
 unfold zG
 split
 ·exact zve ts
 ·exact zmY ts l
theorem zcH (l:Nat) (ts:List Tm):(zG l ts).length<=ts.length:=by
 unfold zG
 split
 ·rw [vl];exact (zbX ts).1
 ·have:=zeT ts l;omega
theorem zsh {l:Nat} {ts:List Tm} (h:¬(zG l ts).length<ts.length):zG l ts=ts:=by
 have h1:=zcH l ts
 unfold zG at h h1 ⊢
 split
 ·rename_i hl;rw [if_pos hl] at h h1;exact ztD (by omega)
 ·rename_i hl;rw [if_neg hl] at h h1;exact zsg (by omega)
theorem ztF {l:Nat} {ts:List Tm} (h:0<ts.length):0<(zG l ts).length:=by
 unfold zG
 split
 ·exact zvf h
 ·exact zcG h
theorem zv3 {ts:List Tm} (h:2<=ts.length) (l:Nat) (hl:1<=l):∃ L,l<=L/\L<=l+246/\(zG L ts).length<ts.length:=by
 match ts,h with
 | a :: b :: r,_ =>
   by_cases hab:a=b
   ·subst hab
    by_cases ho:l%2=1
    ·exact ⟨l,by omega,by omega,by rw [zG,if_pos ho];exact zih⟩
    ·exact ⟨l+1,by omega,by omega,by rw [zG,if_pos (by omega)];exact zih⟩
   ·have ha:=a.key_lt
    have hb:=b.key_lt
    have hne:=zck (low:=((l - 1:Nat):Int)) (x:=a.key) (y:=b.key) (by omega) (Nat.lt_of_lt_of_le ha (by decide)) (Nat.lt_of_lt_of_le hb (by decide))
    have hok:=zec (l - 1) a.key b.key
    have hle:=zif ((l - 1:Nat):Int) a.key b.key (by omega)
    generalize kH ((l - 1:Nat):Int) a.key b.key=L at *
    obtain ⟨f1,f2,f3⟩:((l - 1:Nat):Int)<L/\L<=((l - 1:Nat):Int)+246/\zA a.key b.key L=true:=by
     have:=hok.some (by omega)
     exact ⟨this.1,this.2.1,this.2.2.1⟩
    have hev:qr L=true:=by
     unfold zA at f3
     exact (Bool.and_eq_true_iff.1 f3).1
    have hev2:2<=L/\L%2=0:=by unfold qr at hev;simpa using hev
    have hc:((L.toNat:Nat):Int)=L:=by omega
    refine ⟨L.toNat,by omega,by omega,?_⟩
    rw [zG,if_neg (by omega)]
    have h1:=zeT (a::b::r) L.toNat
    have h2:=zo9 (r:=xl r) f3
    rw [←hc] at h2
    have e:xl (a::b::r)=(a.key:Int)::(b.key:Int)::xl r:=rfl
    rw [e] at h1
    omega
theorem vm (t:List Nat):∀ l,zF (zx t l)=t
 | 0=>zhb t
 | l+1=>by rw [zx,jP,vm t l]
theorem zee {t:List Nat} (h:0<t.length):∀ l,0<(zx t l).length
 | 0=>by simpa [zx] using h
 | l+1=>ztF (zee h l)
def Sig (t:List Nat) (m:Tm):Prop:=∃ L,zx t L=[m]/\∀ l,l<L->1<(zx t l).length
theorem Sig.det {t:List Nat} {m m':Tm} (h:Sig t m) (h':Sig t m'):m=m':=by
 obtain ⟨L,e,hl⟩:=h
 obtain ⟨L',e',hl'⟩:=h'
 rcases Nat.lt_trichotomy L L' with hc|hc|hc
 ·have:=hl' L hc;rw [e] at this;simp at this
 ·subst hc;rw [e] at e';simpa using e'
 ·have:=hl L' hc;rw [e'] at this;simp at this
theorem Sig.txt {t:List Nat} {m:Tm} (h:Sig t m):m.txt=t:=by
 obtain ⟨L,e,_⟩:=h
 have:=vm t L
 rw [e] at this
 simpa [zF] using this
def Seq (S:Sto) (ids:List Int):Prop:=∀ x∈ids,1<=x/\x<=S.E.length
def tms (S:Sto) (ids:List Int):List Tm:=ids.map (tm S.E)
def kys (S:Sto) (ids:List Int):List Int:=ids.map fun x=>((tm S.E x).key:Int)
theorem ziU (S:Sto) (ids:List Int):(tms S ids).length=ids.length:=by simp [tms]
theorem xO (S:Sto) (ids:List Int):(kys S ids).length=ids.length:=by simp [kys]
theorem zpa (S:Sto) (ids:List Int):xl (tms S ids)=kys S ids:=by simp [xl,tms,kys]
theorem Seq.grow {S S':Sto} {ids:List Int} (h:Seq S ids) (g:Grow S S'):Seq S' ids:=fun x hx=>by have:=h x hx;have:=g.len;omega
theorem zef {S S':Sto} {ids:List Int} (h:Seq S ids) (g:Grow S S'):tms S' ids=tms S ids :=
 List.map_congr_left fun x hx=>g.tm (h x hx).2
theorem zeg {S S':Sto} {ids:List Int} (h:Seq S ids) (g:Grow S S'):kys S' ids=kys S ids :=
 List.map_congr_left fun x hx=>by rw [g.tm (h x hx).2]
theorem Seq.snoc {S:Sto} {ids:List Int} {x:Int} (h:Seq S ids) (hx:1<=x/\x<=S.E.length):Seq S (ids++[x]):=fun y hy=>by
 rw [List.mem_append,List.mem_singleton] at hy
 rcases hy with hy|rfl
 ·exact h y hy
 ·exact hx
theorem Seq.append {S:Sto} {a b:List Int} (h:Seq S a) (k:Seq S b):Seq S (a++b):=fun y hy=>by
 rw [List.mem_append] at hy
 rcases hy with hy|hy
 ·exact h y hy
 ·exact k y hy
theorem Seq.drop {S:Sto} {a:List Int} (h:Seq S a) (n:Nat):Seq S (a.drop n):=fun y hy=>h y (List.mem_of_mem_drop hy)
theorem Seq.take {S:Sto} {a:List Int} (h:Seq S a) (n:Nat):Seq S (a.take n):=fun y hy=>h y (List.mem_of_mem_take hy)
theorem Seq.get {S:Sto} {ids:List Int} (h:Seq S ids) {i:Nat} (hi:i<ids.length):1<=ids.getD i 0/\ids.getD i 0<=S.E.length:=by
 rw [g1q,g2q hi]
 exact h _ (List.getElem_mem hi)
theorem zad (S:Sto) (a b:List Int):tms S (a++b)=tms S a++tms S b:=by simp [tms]
theorem zae (S:Sto) (a b:List Int):kys S (a++b)=kys S a++kys S b:=by simp [kys]
theorem zrq (S:Sto) {ids:List Int} {i:Nat} (hi:i<ids.length):(tms S ids).getD i .nil=tm S.E (ids.getD i 0):=by
 simp [tms,g1q,g2q hi]
theorem zrr (S:Sto) {ids:List Int} {i:Nat} (hi:i<ids.length):(kys S ids).getD i 0=((tm S.E (ids.getD i 0)).key:Int):=by
 simp [kys,g1q,g2q hi]
theorem zvg {xs:List Int} {y t:Int} {r:List (Int × Int)} (h:runs xs=(y,t)::r):y∈xs:=by
 have h1:=zeQ xs
 rw [h] at h1
 cases xs with
 | nil=>simp at h1
 | cons x xs=>simp only [List.head?_cons,Option.map_some,g3q] at h1;rw [h1];exact g5q
theorem zjY {S:Sto} (hw:WF S):∀ {ids:List Int},Seq S ids->zI (tms S ids)=(runs ids).map fun g=>(tm S.E g.1,g.2.toNat)
 | [],_=>rfl
 | x :: xs,h => by
   have ih:=zjY hw (ids:=xs) fun y hy=>h y (g4q _ hy)
   have hx:=h x g5q
   have e:tms S (x::xs)=tm S.E x::tms S xs:=rfl
   rw [e]
   simp only [zI,runs]
   rw [ih]
   cases hr:runs xs with
   | nil=>rfl
   | cons g r =>
     obtain ⟨y,t⟩:=g
     have hy:=h y (g4q _ (zvg hr))
     have ht:=kB xs (y,t) (by rw [hr];exact g5q)
     simp only at ht
     simp only [List.map_cons]
     by_cases hxy:x=y
     ·subst hxy
      rw [if_pos rfl,if_pos rfl]
      simp only [List.map_cons]
      rw [show (t+1).toNat=t.toNat+1 by omega]
     ·rw [if_neg hxy,if_neg (fun he=>hxy ((hw.inj_iff hx.1 hx.2 hy.1 hy.2).1 he))]
      rfl
structure Made (S S':Sto) (x:Int) (m:Tm):Prop where
 wf:WF S'
 grow:Grow S S'
 pos:1<=x
 le:x<=S'.E.length
 tm:tm S'.E x=m
 len:S'.E.length<=S.E.length+1
 new:S'.E.length=S.E.length∨x=S'.E.length
theorem zma {S:Sto} {r:Rul} (h:WF S) (hr:Fit S r) (hroom:S.E.length<S.most):∃ S' x,qo S r=(S',x,0)/\Made S S' x (mkT S.E r):=by
 obtain ⟨S',x,e,h1,h2,h3,h4,h5,h6⟩:=zxD h hr hroom
 refine ⟨S',x,e,h1,h2,h3,h4,h5,h6,?_⟩
 unfold qo at e
 split at e
 ·rw [if_neg (by omega)] at e
  simp only [Prod.mk.injEq] at e
  obtain ⟨rfl,rfl,_⟩:=e
  right
  simp [uK]
 ·simp only [Prod.mk.injEq] at e
  obtain ⟨rfl,_⟩:=e
  exact .inl rfl
theorem zv4 {S:Sto} (h:WF S) {l:Nat} (hl:l<256) (hroom:S.E.length<S.most):∃ S' x,qo S (zd6 l)=(S',x,0)/\Made S S' x (.lt l):=by
 obtain ⟨S',x,e,hm⟩:=zma h (zwv S hl) hroom
 have he:mkT S.E (zd6 l)=.lt l:=by simp [mkT,zd6]
 rw [he] at hm
 exact ⟨S',x,e,hm⟩
theorem zv5 {S:Sto} (h:WF S) {i k:Int} (h1:1<=i) (h2:i<=S.E.length) (hk:2<=k) (hl:(tm S.E i).len*k.toNat<=LM) (hroom:S.E.length<S.most):∃ S' x,zbU S i k=(S',x,0)/\Made S S' x (.pw (tm S.E i) k.toNat):=by
 obtain ⟨S',x,e,hm⟩:=zma h (zrj h1 h2 hk hl) hroom
 have he:mkT S.E (uL i k)=.pw (tm S.E i) k.toNat:=by simp [mkT,uL]
 rw [he] at hm
 refine ⟨S',x,?_,hm⟩
 unfold zbU
 rw [if_neg (by simp [known];omega),if_neg (by omega),if_neg (by omega),if_neg (by omega)]
 exact e
theorem jQ {S:Sto} (h:WF S) {i j:Int} (h1:1<=i) (h2:i<=S.E.length) (h3:1<=j) (h4:j<=S.E.length) (hl:(tm S.E i).len+(tm S.E j).len<=LM) (hroom:S.E.length<S.most):∃ S' x,zf3 S i j=(S',x,0)/\Made S S' x (.pr (tm S.E i) (tm S.E j)):=by
 obtain ⟨S',x,e,hm⟩:=zma h (zu0 h1 h2 h3 h4 hl) hroom
 have he:mkT S.E (uf i j)=.pr (tm S.E i) (tm S.E j):=by simp [mkT,uf]
 rw [he] at hm
 refine ⟨S',x,?_,hm⟩
 unfold zf3
 rw [if_neg (by simp [known];omega),if_neg (by omega),if_neg (by omega),if_neg (by omega)]
 exact e
def News (S S':Sto) (ids:List Int):Prop:=∀ x:Int,S.E.length<x->x<=S'.E.length->x∈ids
theorem News.refl (S:Sto) (ids:List Int):News S S ids:=fun x h1 h2=>by omega
theorem News.made {S S1 S2:Sto} {ids:List Int} {x:Int} {m:Tm} (h:News S S1 ids) (k:Made S1 S2 x m):News S S2 (ids++[x]):=fun y h1 h2=>by
 rw [List.mem_append,List.mem_singleton]
 rcases k.new with k|k
 ·exact .inl (h y h1 (by omega))
 ·by_cases hy:y=x
  ·exact .inr hy
  ·exact .inl (h y h1 (by have:=k;have:=Made.len ‹Made S1 S2 x m›;omega))
theorem News.more {S S1:Sto} {ids:List Int} (h:News S S1 ids) (l:List Int):News S S1 (ids++l):=fun y h1 h2=>List.mem_append_left _ (h y h1 h2)
theorem zwC {ts:List Tm} {i:Nat} (h:i+1<ts.length):(ts.getD i .nil).len+(ts.getD (i+1) .nil).len<=(zF ts).length:=by
 have e:=zo8 (ts:=ts) (i:=0) (p:=i) (Nat.zero_le _) h
 rw [List.drop_zero] at e
 conv=>rhs;rw [e]
 rw [qv,qM,qM]
 simp only [g6q,Tm.len]
 omega
theorem zrs {ts:List Tm} {g:Tm × Nat} (h:g∈zI ts):g.1.len*g.2<=(zF ts).length:=by
 rw [←zeS ts]
 obtain ⟨a,b,e⟩:=List.append_of_mem h
 rw [e,List.flatMap_append,List.flatMap_cons]
 simp only [g6q,qL,Tm.len]
 rw [Nat.mul_comm]
 omega
theorem zdH {X Y:List Int} {i:Nat} {v:Int} (hX:X.length=i) (hi:i<Y.length):(X++Y.drop i).set i v=(X++[v])++Y.drop (i+1):=by
 rw [List.set_append_right i v (by omega),hX,Nat.sub_self,List.drop_eq_getElem_cons hi,List.set_cons_zero,List.append_assoc]
 rfl
theorem zmb {X Y:List Int} {i j:Nat} (hX:X.length=i) (hij:i<=j) (hj:j<Y.length):(X++Y.drop i).getD j 0=Y.getD j 0:=by
 rw [g1q,List.getElem?_append_right (by omega),hX,List.getElem?_drop,show i+(j - i)=j by omega,←g1q]
theorem uo {X Y:List Int} {i:Nat} (hX:X.length=i) (hi:i<=Y.length):(X++Y.drop i).length=Y.length:=by
 rw [g6q,List.length_drop];omega
def atR (xs:List Int) (i:Nat):Nat:=(yJ ((runs xs).take i)).length
theorem zpb (xs:List Int):atR xs 0=0:=by simp [atR,yJ]
theorem zpc {xs:List Int} {i:Nat} (h:i<(runs xs).length):atR xs (i+1)=atR xs i+((runs xs).getD i (0,0)).2.toNat/\atR xs (i+1)<=xs.length/\1<=((runs xs).getD i (0,0)).2/\xs.getD (atR xs i) 0=((runs xs).getD i (0,0)).1:=by
 have h1:=zqs h
 have h2:=zu3 h
 have h3:=zl9 (runs xs) (i+1)
 rw [zfn] at h3
 refine ⟨by unfold atR;rw [h1,g6q,List.length_replicate],h3,h2,?_⟩
 have h4:xs=yJ ((runs xs).take i)++(List.replicate ((runs xs).getD i (0,0)).2.toNat ((runs xs).getD i (0,0)).1++yJ ((runs xs).drop (i+1))):=by
  conv=>lhs;rw [←zfn xs,←List.take_append_drop (i+1) (runs xs)]
  have:∀ a b,yJ (a++b)=yJ a++yJ b:=fun a b=>by simp [yJ]
  rw [this,h1,List.append_assoc]
 unfold atR
 conv=>lhs;arg 1;rw [h4]
 rw [g1q,List.getElem?_append_right (Nat.le_refl _),Nat.sub_self]
 obtain ⟨m,hm⟩:∃ m,((runs xs).getD i (0,0)).2.toNat=m+1:=⟨((runs xs).getD i (0,0)).2.toNat - 1,by omega⟩
 rw [hm,List.replicate_succ]
 rfl
theorem ztG {xs:List Int}:∀ {i:Nat},i<=(runs xs).length->i<=atR xs i
 | 0,_=>Nat.zero_le _
 | i + 1,h => by
   have ih:=ztG (xs:=xs) (i:=i) (by omega)
   have:=zpc (xs:=xs) (i:=i) (by omega)
   omega
theorem uq {o t:Int} {x:Int} {q:List (Int × Int)} (ht:1<=t):ya (vv o ((x,t)::q))=ug (o,t)++ya (vv (o+t) q):=by
 rw [vv,zcj]
 congr 1
 split
 ·simp [ya]
 ·have:t=1:=by omega
  subst this
  simp [ya,ug]
theorem zqu (c o t:Int):ug (c+o,t)=(ug (o,t)).map fun z=>c+z:=by
 simp only [ug,List.map_map]
 refine List.map_congr_left fun q _=>?_
 simp only [Function.comp_apply];omega
theorem zdu (c:Int):∀ (q:List (Int × Int)) (o:Int),(∀ g∈q,1<=g.2)->ya (vv (c+o) q)=(ya (vv o q)).map fun z=>c+z
 | [],o,_=>rfl
 | (x,t) :: q,o,h => by
   have ht:1<=t:=h (x,t) g5q
   rw [uq ht,uq ht,List.map_append,zqu,show c+o+t=c+(o+t) by omega,zdu c q (o+t) fun g hg=>h g (g4q _ hg)]
theorem ztH {t:Int} (ht:0<=t):ug (0,t+2)=0::(ug (0,t)).map fun z=>2+z:=by
 simp only [ug,List.map_map]
 rw [show ((t+2)/2).toNat=(t/2).toNat+1 by omega,List.range_succ_eq_map,List.map_cons,List.map_map]
 congr 1
 refine List.map_congr_left fun q _=>?_
 simp only [Function.comp_apply];omega
theorem zpd {x y:Int} {r:List Int} (h:x≠y):runs (x::y::r)=(x,1)::runs (y::r):=by
 have h1:=zeQ (y::r)
 have e:runs (x::y::r)=match runs (y::r) with
  | []=>[(x,1)]
  | (z,t)::q=>if x=z then (z,t+1)::q else (x,1)::(z,t)::q:=rfl
 rw [e]
 cases hr:runs (y::r) with
 | nil=>rfl
 | cons g q =>
   obtain ⟨z,t⟩:=g
   rw [hr] at h1
   have:z=y:=by simpa using h1
   subst this
   simp only
   rw [if_neg h]
theorem zpe (x:Int) (r:List Int):∃ t q,0<=t/\(∀ g∈q,1<=g.2)/\runs (x::x::r)=(x,t+2)::q/\(t=0/\runs r=q∨1<=t/\runs r=(x,t)::q):=by
 have hp:=kB r
 have e1:runs (x::r)=match runs r with
  | []=>[(x,1)]
  | (z,t)::q=>if x=z then (z,t+1)::q else (x,1)::(z,t)::q:=rfl
 have e2:runs (x::x::r)=match runs (x::r) with
  | []=>[(x,1)]
  | (z,t)::q=>if x=z then (z,t+1)::q else (x,1)::(z,t)::q:=rfl
 cases hr:runs r with
 | nil=>rw [hr] at e1;rw [e1] at e2;exact ⟨0,[],Int.le_refl _,by simp,by rw [e2];simp,.inl ⟨rfl,rfl⟩⟩
 | cons g q =>
   obtain ⟨z,t⟩:=g
   rw [hr] at e1 hp
   have ht:1<=t:=hp (z,t) g5q
   simp only at e1
   by_cases hxz:x=z
   ·subst hxz
    rw [if_pos rfl] at e1
    rw [e1] at e2
    exact ⟨t,q,by omega,fun g hg=>hp g (g4q _ hg),by rw [e2];simp;omega,.inr ⟨ht,rfl⟩⟩
   ·rw [if_neg hxz] at e1
    rw [e1] at e2
    exact ⟨0,(z,t)::q,Int.le_refl _,hp,by rw [e2];simp,.inl ⟨rfl,rfl⟩⟩
theorem zmZ (l:Int):zQ [] l=[]:=List.eq_nil_of_length_eq_zero (Nat.le_zero.1 (zc3 [] l))
theorem zeU (x l:Int):zQ [x] l=[]:=by
 cases h:zQ [x] l with
 | nil=>rfl
 | cons z q =>
   have:=zie (xs:=[x]) (l:=l) (z:=z) (by rw [h];exact g5q)
   simp only [List.length_cons,List.length_nil] at this
   omega
theorem zk6 {xs:List Int} {l:Int} (h:qr l=false):zQ xs l=[]:=by simp [zQ,h]
theorem zk7 {x y:Int} {r:List Int} {l:Int} (h:zA x y l=false):zQ (x::y::r) l=(zQ (y::r) l).map fun z=>1+z:=by
 cases he:qr l with
 | false=>rw [zk6 he,zk6 he];rfl
 | true =>
   by_cases hn:qn l=122
   ·have hxy:x≠y:=by intro e;unfold zA at h;rw [he,if_pos hn] at h;simp [e] at h
    unfold zQ
    rw [if_pos he,if_pos hn,if_pos he,if_pos hn]
    unfold zK
    rw [zpd hxy,uq (by omega)]
    have:=zdu 1 (runs (y::r)) 0 (kB _)
    rw [show (1:Int)+0=0+1 by omega] at this
    rw [this]
    simp [ug]
   ·have ht:qE l=false:=by unfold qE;simp [hn]
    have:=zv1 (a:=[x]) (b:=y::r) ht
    rw [List.singleton_append] at this
    rw [this,zeU]
    unfold znU
    rw [if_neg (by simp [h])]
    simp
theorem zsi {x y:Int} {r:List Int} {l:Int} (h:zA x y l=true):zQ (x::y::r) l=0::(zQ r l).map fun z=>2+z:=by
 have he:qr l=true:=by unfold zA at h;exact (Bool.and_eq_true_iff.1 h).1
 by_cases hn:qn l=122
 ·have hxy:x=y:=by unfold zA at h;rw [he,if_pos hn] at h;simpa using h
  subst hxy
  unfold zQ
  rw [if_pos he,if_pos hn,if_pos he,if_pos hn]
  unfold zK
  obtain ⟨t,q,h0,hq,h1,h2⟩:=zpe x r
  rw [h1,uq (by omega),ztH h0]
  rcases h2 with ⟨rfl,h2⟩|⟨h3,h2⟩
  ·rw [h2]
   have:=zdu 2 q 0 hq
   rw [show (0:Int)+(0+2)=2+0 by omega,this]
   simp [ug]
  ·rw [h2,uq h3,List.map_append]
   have:=zdu 2 q t hq
   rw [show (0:Int)+(t+2)=2+t by omega,this,show (0:Int)+t=t by omega]
   rfl
 ·have ht:qE l=false:=by unfold qE;simp [hn]
  have:=zv1 (a:=[x]) (b:=y::r) ht
  rw [List.singleton_append] at this
  rw [this,zeU]
  unfold znU
  rw [if_pos (by simp [h])]
  cases r with
  | nil=>rw [zeU,zmZ];rfl
  | cons z r =>
    rw [zk7 (zmN ht h)]
    simp only [List.nil_append,List.length_cons,List.length_nil,List.singleton_append,List.map_map]
    congr 1
    refine List.map_congr_left fun q _=>?_
    simp only [Function.comp_apply];omega
theorem zvh {x:Tm} {ts:List Tm}:∀ {ps:List Int},(∀ p∈ps,0<=p)->asm (x::ts) 0 (ps.map fun z=>1+z)=x::asm (x::ts) 1 (ps.map fun z=>1+z)
 | [],_=>rfl
 | p :: ps,h => by
   have hp:=h p g5q
   simp only [List.map_cons,asm,List.drop_zero,List.drop_succ_cons]
   rw [show (1+p).toNat - 0=p.toNat+1 by omega,show (1+p).toNat - 1=p.toNat by omega,List.take_succ_cons,List.cons_append]
theorem zii (c:Nat) (xs:List Tm) (hc:xs.length=c) (ts:List Tm):∀ (ps:List Int) (i:Nat),(∀ p∈ps,0<=p)->asm (xs++ts) (c+i) (ps.map fun z=>(c:Int)+z)=asm ts i ps
 | [],i,_=>by simp [asm,List.drop_append,hc]
 | p :: ps,i,h => by
   have hp:=h p g5q
   have e1:((c:Int)+p).toNat=c+p.toNat:=by omega
   have e2:∀ j,(xs++ts).getD (c+j) .nil=ts.getD j .nil:=fun j=>by
    rw [g1q,List.getElem?_append_right (by omega),g1q]
    congr 2;omega
   have e3:(xs++ts).drop (c+i)=ts.drop i:=by rw [←List.drop_drop,←hc,List.drop_left]
   simp only [List.map_cons,asm]
   rw [e1,e3,show c+p.toNat - (c+i)=p.toNat - i by omega,e2,show c+p.toNat+1=c+(p.toNat+1) by omega,e2,show c+p.toNat+2=c+(p.toNat+2) by omega,zii c xs hc ts ps (p.toNat+2) fun q hq=>h q (g4q _ hq)]
theorem zeh (xs:List Int) (l:Int):∀ p∈zQ xs l,0<=p:=fun p hp=>(zie hp).1
theorem kV (l:Nat):ql [] l=[]:=by
 rw [ql,xl,List.map_nil,zmZ];rfl
theorem uz (x:Tm) (l:Nat):ql [x] l=[x]:=by
 rw [ql,xl,List.map_cons,List.map_nil,zeU];rfl
theorem ym {x y:Tm} {r:List Tm} {l:Nat} (h:zA x.key y.key l=true):ql (x::y::r) l=.pr x y::ql r l:=by
 have e:xl (x::y::r)=(x.key:Int)::(y.key:Int)::xl r:=rfl
 rw [ql,e,zsi h,asm]
 have:=zii 2 [x,y] rfl r (zQ (xl r) l) 0 (zeh _ _)
 simp only [Nat.add_zero,List.cons_append,List.nil_append] at this
 simp only [Int.toNat_zero,Nat.sub_zero,List.take_zero,List.nil_append,Nat.zero_add,List.getD_cons_zero,List.getD_cons_succ]
 exact congrArg _ this
theorem kN {x y:Tm} {r:List Tm} {l:Nat} (h:zA x.key y.key l=false):ql (x::y::r) l=x::ql (y::r) l:=by
 have e:xl (x::y::r)=(x.key:Int)::(y.key:Int)::xl r:=rfl
 have e2:xl (y::r)=(y.key:Int)::xl r:=rfl
 rw [ql,e,zk7 h,←e2,zvh (zeh _ _)]
 have:=zii 1 [x] rfl (y::r) (zQ (xl (y::r)) l) 0 (zeh _ _)
 rw [ql]
 congr 1
theorem zfp:∀ {ts:List Tm} {p q:List (Tm × Nat)},zI ts=p++q->∃ a b,ts=a++b/\zI a=p/\zI b=q
 | ts,[],q,h=>⟨[],ts,rfl,rfl,h⟩
 | [],_::_,_,h=>by simp [zI] at h
 | x :: xs,(y,t) :: p,q,h => by
   have e:zI (x::xs)=match zI xs with
    | []=>[(x,1)]
    | (z,t)::q=>if x=z then (z,t+1)::q else (x,1)::(z,t)::q:=rfl
   cases hr:zI xs with
   | nil =>
     rw [hr] at e
     rw [e] at h
     simp only [List.cons_append,List.cons.injEq] at h
     obtain ⟨h1,h2⟩:=h
     have h3:=List.append_eq_nil_iff.1 h2.symm
     rw [h3.1,h3.2]
     have hxs:xs=[]:=by
      cases xs with
      | nil=>rfl
      | cons z zs=>obtain ⟨t,r,e⟩:=uM z zs;rw [e] at hr;cases hr
     subst hxs
     exact ⟨[x],[],by simp,by rw [←h1];rfl,rfl⟩
   | cons g r =>
     obtain ⟨z,t'⟩:=g
     rw [hr] at e
     simp only at e
     by_cases hxz:x=z
     ·subst hxz
      rw [if_pos rfl] at e
      rw [e,List.cons_append,List.cons.injEq] at h
      obtain ⟨a,b,h1,h2,h3⟩:=zfp (ts:=xs) (p:=(x,t')::p) (q:=q) (by rw [hr,h.2];rfl)
      refine ⟨x::a,b,by rw [h1];rfl,?_,h3⟩
      have e2:zI (x::a)=match zI a with
       | []=>[(x,1)]
       | (z,t)::q=>if x=z then (z,t+1)::q else (x,1)::(z,t)::q:=rfl
      rw [e2,h2]
      simp only [if_true]
      rw [←h.1]
     ·rw [if_neg hxz] at e
      rw [e,List.cons_append,List.cons.injEq] at h
      obtain ⟨a,b,h1,h2,h3⟩:=zfp (ts:=xs) (p:=p) (q:=q) (by rw [hr];exact h.2)
      refine ⟨x::a,b,by rw [h1];rfl,?_,h3⟩
      have e2:zI (x::a)=match zI a with
       | []=>[(x,1)]
       | (z,t)::q=>if x=z then (z,t+1)::q else (x,1)::(z,t)::q:=rfl
      rw [e2,h2,←h.1]
      cases p with
      | nil=>rfl
      | cons g p =>
        simp only [List.cons_append,List.cons.injEq] at h
        rw [←h.2.1]
        simp only
        rw [if_neg hxz]
theorem zfq (l:Nat):∀ (n:Nat) {ts u v:List Tm},ts.length<=n->ql ts l=u++v->∃ a b,ts=a++b/\ql a l=u/\ql b l=v
 | n,ts,[],v,_,h=>⟨[],ts,rfl,kV l,h⟩
 | _,[],_::_,_,_,h=>by rw [kV] at h;cases h
 | n,[x],c :: u,v,_,h => by
   rw [uz,List.cons_append,List.cons.injEq] at h
   have h3:=List.append_eq_nil_iff.1 h.2.symm
   rw [h3.1,h3.2,←h.1]
   exact ⟨[x],[],rfl,uz x l,kV l⟩
 | 0,_::_::_,_::_,_,hn,_=>by simp at hn
 | n + 1,x :: y :: r,c :: u,v,hn,h => by
   simp only [List.length_cons] at hn
   cases hf:zA x.key y.key l with
   | true =>
     rw [ym hf,List.cons_append,List.cons.injEq] at h
     obtain ⟨a,b,h1,h2,h3⟩:=zfq l n (ts:=r) (by omega) h.2
     exact ⟨x::y::a,b,by rw [h1];rfl,by rw [ym hf,h2,h.1],h3⟩
   | false =>
     rw [kN hf,List.cons_append,List.cons.injEq] at h
     obtain ⟨a,b,h1,h2,h3⟩:=zfq l n (ts:=y::r) (by simp only [List.length_cons];omega) h.2
     cases a with
     | nil =>
       rw [kV] at h2
       refine ⟨[x],b,by rw [h1];rfl,by rw [uz,h.1,h2],h3⟩
     | cons z a =>
       rw [List.cons_append,List.cons.injEq] at h1
       rw [←h1.1] at h2
       exact ⟨x::y::a,b,by rw [h1.2];rfl,by rw [kN hf,h2,h.1],h3⟩
theorem zfr {l:Nat} {ts u v:List Tm} (h:zG l ts=u++v):∃ a b,ts=a++b/\zG l a=u/\zG l b=v:=by
 by_cases hl:l%2=1
 ·rw [zG,if_pos hl] at h
  obtain ⟨p,q,h1,h2,h3⟩:=List.map_eq_append_iff.1 h
  obtain ⟨a,b,k1,k2,k3⟩:=zfp h1
  exact ⟨a,b,k1,by rw [zG,if_pos hl,vk,k2,h2],by rw [zG,if_pos hl,vk,k3,h3]⟩
 ·rw [zG,if_neg hl] at h
  obtain ⟨a,b,k1,k2,k3⟩:=zfq l _ (Nat.le_refl _) h
  exact ⟨a,b,k1,by rw [zG,if_neg hl,k2],by rw [zG,if_neg hl,k3]⟩
theorem kO {t:List Nat}:∀ {k:Nat} {u v:List Tm},zx t k=u++v->zx (zF u) k=u/\zx (zF v) k=v
 | 0,u,v,h => by
   rw [zx] at h
   obtain ⟨p,q,h1,h2,h3⟩:=List.map_eq_append_iff.1 h
   rw [←h2,←h3]
   exact ⟨by rw [zhb];rfl,by rw [zhb];rfl⟩
 | k + 1,u,v,h => by
   rw [zx] at h
   obtain ⟨a,b,h1,h2,h3⟩:=zfr h
   obtain ⟨i1,i2⟩:=kO h1
   have e1:zF a=zF u:=by rw [←h2,jP]
   have e2:zF b=zF v:=by rw [←h3,jP]
   rw [zx,zx,←e1,←e2,i1,i2]
   exact ⟨h2,h3⟩
theorem zij {t:List Nat} {k:Nat} {u v w:List Tm} (h:zx t k=u++v++w):zx (zF v) k=v:=by
 have h1:=(kO h).1
 exact (kO h1).2
theorem zaf {t:List Nat}:∀ {k:Nat} {u v:List Tm},zx t k=u++v->∀ j,j<=k->zx t j=zx (zF u) j++zx (zF v) j
 | k,u,v,h,j,hj => by
   by_cases he:j=k
   ·subst he
    obtain ⟨i1,i2⟩:=kO h
    rw [i1,i2,h]
   ·obtain ⟨k',rfl⟩:∃ k',k=k'+1:=⟨k - 1,by omega⟩
    rw [zx] at h
    obtain ⟨a,b,h1,h2,h3⟩:=zfr h
    have e1:zF a=zF u:=by rw [←h2,jP]
    have e2:zF b=zF v:=by rw [←h3,jP]
    rw [←e1,←e2]
    exact zaf h1 j (by omega)
theorem qJ (m:Tm):zF [m]=m.txt:=by simp [zF]
theorem zaK {t:List Nat} {k:Nat} {m:Tm} (h:m∈zx t k):zx m.txt k=[m]:=by
 obtain ⟨u,w,e⟩:=List.append_of_mem h
 have:=zij (u:=u) (v:=[m]) (w:=w) (by rw [e];simp)
 rwa [qJ] at this
theorem ztI (l:Nat) (m:Tm):zG l [m]=[m]:=by
 unfold zG
 split
 ·rfl
 ·exact uz m l
theorem xA {t:List Nat} {k:Nat} {m:Tm} (h:zx t k=[m]):∀ j,k<=j->zx t j=[m]
 | 0, hj => by have : k = 0 := by omega
               rw [←this];exact h
 | j + 1,hj => by
   by_cases he:k=j+1
   ·rw [←he];exact h
   ·rw [zx,xA h j (by omega),ztI]
theorem kP {t:List Nat} (hp:0<t.length):∀ {k:Nat} {m:Tm},zx t k=[m]->Sig t m
 | 0,m,h=>⟨0,h,fun l hl=>absurd hl (by omega)⟩
 | k + 1,m,h => by
   by_cases h1:(zx t k).length=1
   ·obtain ⟨x,hx⟩:=List.length_eq_one_iff.1 h1
    have:=xA hx (k+1) (by omega)
    rw [this] at h
    have hxm:x=m:=by simpa using h
    subst hxm
    exact kP hp hx
   ·refine ⟨k+1,h,fun l hl=>?_⟩
    have hl':=zee hp l
    refine Nat.lt_of_le_of_ne hl' fun he=>?_
    obtain ⟨x,hx⟩:=List.length_eq_one_iff.1 he.symm
    have:=xA hx k (by omega)
    rw [this] at h1
    simp at h1
def Out (S0 S:Sto) (t:List Nat):Prop:=∀ y:Int,S0.E.length<y->y<=S.E.length->∃ k,tm S.E y∈zx t k
theorem Out.refl (S:Sto) (t:List Nat):Out S S t:=fun y h1 h2=>by omega
theorem Out.next {S0 S1 S2:Sto} {ids:List Int} {t:List Nat} {k:Nat} (h:Out S0 S1 t) (hg:Grow S1 S2) (hn:News S1 S2 ids) (ht:tms S2 ids=zx t k):Out S0 S2 t:=fun y h1 h2=>by
 by_cases hy:y<=S1.E.length
 ·obtain ⟨j,hj⟩:=h y h1 hy
  exact ⟨j,by rw [hg.tm hy];exact hj⟩
 ·have:=hn y (by omega) h2
  exact ⟨k,by rw [←ht];exact List.mem_map.2 ⟨y,this,rfl⟩⟩
theorem zeV (l:Nat):zG l []=[]:=by
 unfold zG
 split
 ·rfl
 ·exact kV l
theorem zbY:∀ k,zx [] k=[]
 | 0=>rfl
 | k+1=>by rw [zx,zbY k,zeV]
theorem x7 {t:List Nat} {k:Nat} {m:Tm} {r:List Tm} (h:zx t k=m::r):0<t.length:=by
 refine Nat.pos_of_ne_zero fun h0=>?_
 have:=List.eq_nil_of_length_eq_zero h0
 subst this
 rw [zbY] at h
 cases h
theorem zm0:∀ ts:List Tm,((zI ts).flatMap fun g=>List.replicate g.2 g.1)=ts
 | []=>rfl
 | x :: xs => by
   have ih:=zm0 xs
   simp only [zI]
   cases hr:zI xs with
   | nil=>rw [hr] at ih;rw [←ih];rfl
   | cons g r =>
     obtain ⟨y,t⟩:=g
     rw [hr] at ih
     simp only
     by_cases hxy:x=y
     ·subst hxy
      rw [if_pos rfl,←ih]
      simp [List.replicate_succ]
     ·rw [if_neg hxy,←ih]
      simp
theorem zau {ts:List Tm} {m:Tm} (h:vk ts=[m]) (h2:2<=ts.length):∃ a,ts=List.replicate ts.length a/\m=.pw a ts.length:=by
 obtain ⟨g,hg,hm⟩:∃ g,zI ts=[g]/\jO g=m:=by
  unfold vk at h
  obtain ⟨g,r,h1,h2,h3⟩:=List.map_eq_cons_iff.1 h
  have:=List.map_eq_nil_iff.1 h3
  exact ⟨g,by rw [h1,this],h2⟩
 obtain ⟨a,n⟩:=g
 have he:=zm0 ts
 rw [hg] at he
 simp only [List.flatMap_cons,List.flatMap_nil,List.append_nil] at he
 have hn:n=ts.length:=by rw [←he,List.length_replicate]
 subst hn
 refine ⟨a,he.symm,?_⟩
 rw [←hm,jO,if_neg (by simp only;omega)]
theorem zm1 (a:Tm):∀ n,zI (List.replicate (n+1) a)=[(a,n+1)]
 | 0=>rfl
 | n + 1 => by
   have ih:=zm1 a n
   rw [List.replicate_succ]
   have e:zI (a::List.replicate (n+1) a)=match zI (List.replicate (n+1) a) with
    | []=>[(a,1)]
    | (z,t)::q=>if a=z then (z,t+1)::q else (a,1)::(z,t)::q:=rfl
   rw [e,ih]
   simp
theorem zik (a:Tm) {n:Nat} (h:1<=n):(vk (List.replicate n a)).length=1:=by
 obtain ⟨n,rfl⟩:∃ k,n=k+1:=⟨n - 1,by omega⟩
 rw [vl,zm1];rfl
theorem zbl {ts:List Tm} {l:Nat} {m:Tm} (h:ql ts l=[m]) (h2:2<=ts.length):∃ x y,ts=[x,y]/\zA x.key y.key l=true/\m=.pr x y:=by
 match ts,h2 with
 | x :: y :: r,_ =>
   cases hf:zA x.key y.key l with
   | true =>
     rw [ym hf,List.cons.injEq] at h
     have hr:r=[]:=by
      cases r with
      | nil=>rfl
      | cons z r=>have:=zcG (ts:=z::r) (l:=l) (by simp);rw [h.2] at this;simp at this
     subst hr
     exact ⟨x,y,rfl,hf,h.1.symm⟩
   | false =>
     rw [kN hf,List.cons.injEq] at h
     have:=zcG (ts:=y::r) (l:=l) (by simp)
     rw [h.2] at this
     simp at this
theorem zaZ {e:Tm}:∀ {n:Nat} {t:List Nat} {k:Nat},zx t k=List.replicate n e->∀ j,j<=k->zx t j=(List.replicate n (zx e.txt j)).flatten
 | 0,t,k,h,j,hj => by
   have:=vm t k
   rw [h] at this
   have ht:t=[]:=this.symm
   subst ht
   rw [zbY];rfl
 | n + 1,t,k,h,j,hj => by
   rw [List.replicate_succ] at h
   have h1:=zaf (u:=[e]) (v:=List.replicate n e) h j hj
   have h2:=(kO (u:=[e]) (v:=List.replicate n e) h).2
   rw [h1,qJ,zaZ h2 j hj,List.replicate_succ,List.flatten_cons]
theorem zei (a:Tm) (p:Nat):∀ n,(List.replicate n (List.replicate p a)).flatten=List.replicate (n*p) a
 | 0=>by simp
 | n+1=>by rw [List.replicate_succ,List.flatten_cons,zei a p n,List.replicate_append_replicate];congr 1;rw [Nat.succ_mul];omega
theorem zbm (a:Tm) (n:Nat):(List.replicate n [a]).flatten=List.replicate n a:=by
 have:=zei a 1 n
 rwa [Nat.mul_one] at this
theorem zhd {e:Tm} {n:Nat} (hn:2<=n) {t:List Nat} {k:Nat} (h:zx t k=List.replicate n e) {Le:Nat} (h1:zx e.txt Le=[e]) (h2:∀ l,l<Le->1<(zx e.txt l).length):k=Le/\Le%2=0:=by
 have hk:zx e.txt k=[e]:=zaK (t:=t) (by rw [h];exact List.mem_replicate.2 ⟨by omega,rfl⟩)
 have hle:Le<=k:=by
  refine Decidable.byContradiction fun hc=>?_
  have:=h2 k (by omega)
  rw [hk] at this
  simp at this
 have hev:Le%2=0:=by
  refine Decidable.byContradiction fun hc=>?_
  obtain ⟨j,rfl⟩:∃ j,Le=j+1:=⟨Le - 1,by omega⟩
  have h3:=h2 j (by omega)
  rw [zx,zG,if_pos (by omega)] at h1
  obtain ⟨a,ha,_⟩:=zau h1 h3
  have e1:=zaZ h j (by omega)
  have e2:=zaZ h (j+1) hle
  rw [ha,zei] at e1
  have e3:(zx t (j+1)).length=1:=by
   rw [zx,zG,if_pos (by omega),e1]
   refine zik a ?_
   have:=Nat.mul_le_mul hn h3
   omega
  rw [e2,zx,zG,if_pos (by omega),h1,zbm,List.length_replicate] at e3
  omega
 refine ⟨?_,hev⟩
 refine Decidable.byContradiction fun hc=>?_
 have e1:=zaZ h Le (by omega)
 have e2:=zaZ h (Le+1) (by omega)
 rw [h1,zbm] at e1
 rw [xA h1 (Le+1) (by omega),zbm] at e2
 have e3:(zx t (Le+1)).length=1:=by
  rw [zx,zG,if_pos (by omega),e1]
  exact zik e (by omega)
 rw [e2,List.length_replicate] at e3
 omega
theorem zvi {x y l:Int} (h:l%2=1):zA x y l=false:=by
 unfold zA qr
 simp [h]
theorem za0 (m:Tm):∀ {b:List Nat} {L:Nat},zx b L=[m]->(∀ l,l<L->1<(zx b l).length)->m.level=L:=by
 induction m with
 | nil =>
   intro b L h1 h2
   have:=vm b L
   rw [h1] at this
   have hb:b=[]:=this.symm
   subst hb
   rw [zbY] at h1
   cases h1
 | lt x =>
   intro b L h1 h2
   have hb:=vm b L
   rw [h1] at hb
   have hb:b=[x]:=hb.symm
   subst hb
   cases L with
   | zero=>rfl
   | succ L=>have:=h2 0 (by omega);simp [zx] at this
 | pr x y ihx ihy =>
   intro b L h1 h2
   cases L with
   | zero =>
     rw [zx] at h1
     obtain ⟨c,r,k1,k2,k3⟩:=List.map_eq_cons_iff.1 h1
     cases k2
   | succ L =>
     have h3:=h2 L (by omega)
     have hL:=h1
     rw [zx] at hL
     have hev:(L+1)%2=0:=by
      refine Decidable.byContradiction fun hc=>?_
      rw [zG,if_pos (by omega)] at hL
      obtain ⟨a,_,hm⟩:=zau hL h3
      cases hm
     rw [zG,if_neg (by omega)] at hL
     obtain ⟨x',y',hs,hf,hm⟩:=zbl hL h3
     injection hm with e1 e2
     subst e1 e2
     have hbl:=zaf (u:=[x]) (v:=[y]) hs
     rw [qJ,qJ] at hbl
     obtain ⟨sx,sy⟩:=kO (u:=[x]) (v:=[y]) hs
     rw [qJ] at sx sy
     obtain ⟨Lx,x1,x2⟩:=kP (x7 sx) sx
     obtain ⟨Ly,y1,y2⟩:=kP (x7 sy) sy
     have lx:=ihx x1 x2
     have ly:=ihy y1 y2
     have hLx:Lx<=L:=by
      refine Decidable.byContradiction fun hc=>?_
      have:=x2 L (by omega)
      rw [sx] at this
      simp at this
     have hLy:Ly<=L:=by
      refine Decidable.byContradiction fun hc=>?_
      have:=y2 L (by omega)
      rw [sy] at this
      simp at this
     have hxy:x≠y:=by
      intro he
      subst he
      have:=zhd (e:=x) (n:=2) (Nat.le_refl _) hs x1 x2
      omega
     have hbet:∀ j,Lx<=j->Ly<=j->j<=L->zx b j=[x,y]:=fun j j1 j2 j3=>by
      rw [hbl j j3,xA x1 j j1,xA y1 j j2];rfl
     have hno:∀ l:Int,max (Lx:Int) Ly<l->l<=L->zA x.key y.key l=false:=fun l l1 l2=>by
      obtain ⟨j,rfl⟩:∃ j:Nat,l=((j+1:Nat):Int):=⟨(l - 1).toNat,by omega⟩
      by_cases ho:(j+1)%2=1
      ·exact zvi (by omega)
      ·have k1:=hbet j (by omega) (by omega) (by omega)
       have k2:=hbet (j+1) (by omega) (by omega) (by omega)
       rw [zx,k1,zG,if_neg ho] at k2
       cases hff:zA x.key y.key ((j+1:Nat):Int) with
       | false=>rfl
       | true=>rw [ym hff,kV] at k2;simp at k2
     rw [Tm.level,lx,ly,if_pos ⟨hxy,by omega,by omega⟩]
     have hmx:max (Lx:Int) (Ly:Int)=((max Lx Ly:Nat):Int):=by omega
     have hne:=zck (low:=max (Lx:Int) Ly) (x:=x.key) (y:=y.key) (by omega) (Nat.lt_of_lt_of_le x.key_lt (by decide)) (Nat.lt_of_lt_of_le y.key_lt (by decide))
     have hok:=(zec (max Lx Ly) x.key y.key)
     rw [←hmx] at hok
     obtain ⟨a1,a2,a3,a4⟩:=hok.some hne
     generalize kH (max (Lx:Int) Ly) x.key y.key=A at *
     rcases Int.lt_trichotomy A ((L+1:Nat):Int) with hc|hc|hc
     ·have:=hno A a1 (by omega)
      rw [a3] at this
      cases this
     ·exact hc
     ·have:=a4 ((L+1:Nat):Int) (by omega) hc
      rw [hf] at this
      cases this
 | pw a n iha =>
   intro b L h1 h2
   cases L with
   | zero =>
     rw [zx] at h1
     obtain ⟨c,r,k1,k2,k3⟩:=List.map_eq_cons_iff.1 h1
     cases k2
   | succ L =>
     have h3:=h2 L (by omega)
     have hL:=h1
     rw [zx] at hL
     have hod:(L+1)%2=1:=by
      refine Decidable.byContradiction fun hc=>?_
      rw [zG,if_neg hc] at hL
      obtain ⟨x',y',_,_,hm⟩:=zbl hL h3
      cases hm
     rw [zG,if_pos hod] at hL
     obtain ⟨a',hs,hm⟩:=zau hL h3
     injection hm with e1 e2
     subst e1
     have sa:zx a.txt L=[a]:=zaK (t:=b) (k:=L) (by rw [hs];exact List.mem_replicate.2 ⟨by omega,rfl⟩)
     obtain ⟨La,a1,a2⟩:=kP (x7 sa) sa
     have la:=iha a1 a2
     obtain ⟨q1,q2⟩:=zhd (by omega) hs a1 a2
     rw [Tm.level,la,if_pos ⟨by omega,by omega⟩]
     omega
def qU (n:Int):Tm->List Tm
 | .nil=>[.nil]
 | .lt x=>[.lt x]
 | .pr a b=>if (Tm.pr a b).level<=n then [.pr a b] else qU n a++qU n b
 | .pw a k=>if (Tm.pw a k).level<=n then [.pw a k] else (List.replicate k (qU n a)).flatten
theorem zhe {n:Nat} (m:Tm):∀ {b:List Nat} {L:Nat},zx b L=[m]->(∀ l,l<L->1<(zx b l).length)->qU n m=zx b n:=by
 induction m with
 | nil =>
   intro b L h1 h2
   have:=vm b L
   rw [h1] at this
   have hb:b=[]:=this.symm
   subst hb
   rw [zbY] at h1
   cases h1
 | lt x =>
   intro b L h1 h2
   have hl:=za0 _ h1 h2
   have:L=0:=by simp only [Tm.level] at hl;omega
   subst this
   rw [qU,xA h1 n (by omega)]
 | pr x y ihx ihy =>
   intro b L h1 h2
   have hl:=za0 _ h1 h2
   rw [qU]
   by_cases hn:(Tm.pr x y).level<=n
   ·rw [if_pos hn,xA h1 n (by omega)]
   ·rw [if_neg hn]
    cases L with
    | zero=>omega
    | succ L =>
      have h3:=h2 L (by omega)
      have hL:=h1
      rw [zx] at hL
      by_cases hod:(L+1)%2=1
      ·rw [zG,if_pos hod] at hL
       obtain ⟨a,_,hm⟩:=zau hL h3
       cases hm
      ·rw [zG,if_neg hod] at hL
       obtain ⟨x',y',hs,hf,hm⟩:=zbl hL h3
       injection hm with e1 e2
       subst e1 e2
       have hbl:=zaf (u:=[x]) (v:=[y]) hs n (by omega)
       rw [qJ,qJ] at hbl
       obtain ⟨sx,sy⟩:=kO (u:=[x]) (v:=[y]) hs
       rw [qJ] at sx sy
       obtain ⟨Lx,x1,x2⟩:=kP (x7 sx) sx
       obtain ⟨Ly,y1,y2⟩:=kP (x7 sy) sy
       rw [hbl,ihx x1 x2,ihy y1 y2]
 | pw a k iha =>
   intro b L h1 h2
   have hl:=za0 _ h1 h2
   rw [qU]
   by_cases hn:(Tm.pw a k).level<=n
   ·rw [if_pos hn,xA h1 n (by omega)]
   ·rw [if_neg hn]
    cases L with
    | zero=>omega
    | succ L =>
      have h3:=h2 L (by omega)
      have hL:=h1
      rw [zx] at hL
      by_cases hod:(L+1)%2=1
      ·rw [zG,if_pos hod] at hL
       obtain ⟨a',hs,hm⟩:=zau hL h3
       injection hm with e1 e2
       subst e1
       have sa:zx a.txt L=[a]:=zaK (t:=b) (k:=L) (by rw [hs];exact List.mem_replicate.2 ⟨by omega,rfl⟩)
       obtain ⟨La,a1,a2⟩:=kP (x7 sa) sa
       rw [zaZ hs n (by omega),iha a1 a2,e2]
      ·rw [zG,if_neg hod] at hL
       obtain ⟨x',y',_,_,hm⟩:=zbl hL h3
       cases hm
end
section
open Go.EG
attribute [local irreducible] z8 yN Go.Calls
set_option maxRecDepth 20000
set_option maxHeartbeats 4000000
def fP (bp bt bs:Nat) (S:Sto) (f1 f2:List Nat):List Ent:=[packE 78 f1 (fT bt bs S.E),packE 77 f2 (fS bs S),.box 3000 bp [pS bs,pS bt] yD]
theorem zk8 {k k' bt bs:Nat} {fp:List Nat} {S S':Sto} (g:Grow S S') {L L':List Ent} (h:Thin L L'):Thin (packE k fp (fT bt bs S.E)::L) (packE k' fp (fT bt bs S'.E)::L'):=by
 obtain ⟨E',rfl⟩:=g
 exact zsd h
theorem x8 {S:Sto} {x:Int} (h:1<=x/\x<=S.E.length):zo6 S x=.tuple #[.int .u64 (tm S.E x).key,.nilIface]:=if_pos h
theorem zcn {P:Program} {w0:World} {fp0:List Nat} {L Lr:List Ent} {f:FuncId} {args:List Value} {k:SV->List Ent->Prop} {bt bs:Nat} {f1:List Nat} {S S':Sto} (hp:zax 78 L=some (packE 78 f1 (fT bt bs S.E),Lr)) (g:Grow S S') (h:z8 P w0 fp0 f args (packE 78 f1 (fT bt bs S'.E)::Lr) k):z8 P w0 fp0 f args L k :=
 zeL ((Ref.perm (j5 hp)).trans (zk8 g (Thin.refl Lr)).ref) h
def zxG (bp bt bs br:Nat) (S:Sto) (ids:List Int) (x:Int) (v:Value) (L1:List Ent):Prop :=
 ∃ a a' c c' f1 f2,v=.nilIface/\L1=fP bp bt bs S f1 f2++[.box 861 br [.slice a (ids++[x]).length c,.slice a' (ids++[x]).length c'] zC,.own 851 a (ids++[x]).length c zr 1 (zt .i64 (ids++[x])),.own 852 a' (ids++[x]).length c' qI 1 (zt .u64 (kys S (ids++[x])))]
theorem zsj (bp bt bs br:Nat) (S:Sto) (hw:WF S) (ids:List Int) (hl:ids.length<=65536) (x:Int) (hx:1<=x/\x<=S.E.length) (a a':Option Addr) (c c':Nat) (f1 f2 fp:List Nat) (w:World)
 (hR:R w fp (fP bp bt bs S f1 f2++[.box 861 br [.slice a ids.length c,.slice a' ids.length c'] zC,.own 851 a ids.length c zr 1 (zt .i64 ids),.own 852 a' ids.length c' qI 1 (zt .u64 (kys S ids))]) w) (hG:qq w fp) :
 Calls Tryz.prog yl #[pS bp,.pointer (some ⟨br,0,none⟩),.int .i64 x] w fun e w'=>∃ v L1,e=.returned v/\R w fp L1 w'/\zxG bp bt bs br S ids x v L1:=by
 refine zf [.ptr 3000 bp 0,.ptr 861 br 0,.v (.int .i64 x)] jw (by simp) hR ?_
 have c1:=x6 bt bs S hw x
 rw [x8 hx] at c1
 have hk:kys S (ids++[x])=kys S ids++[((tm S.E x).key:Int)]:=zae S ids [x]
 have hn:(ids++[x]).length=ids.length+1:=by simp
 (repeat' ((conv=>whnf);first|(refine zZ (key1:=78) (key2:=77) rfl rfl (fun w hR h0=>c1 _ _ _ _ _ h0 (hG.cast2 hR)) ?_;rintro _ _ ⟨rfl,fp1',fp2',rfl⟩;refine ⟨.v _,rfl,?_⟩)|refine ⟨.sl 851 _ _ _,⟨rfl,rfl,rfl,rfl⟩,?_⟩|refine ⟨.sl 852 _ _ _,⟨rfl,rfl,rfl,rfl⟩,?_⟩|refine zg ?_|((first|apply zb|apply za|apply zc)<;>intro h<;>try (exfalso;omega))|refine pay ?_|intro _));(all_goals (conv=>whnf))
 rename_i b27 a1 d1 b37 a2 d2
 refine ⟨⟨_,Thin.ref (.skip (.skip (.keep rfl (fun _ h=>h) (.keep rfl (fun _ h=>h) (.keep rfl (fun _ h=>h) (.box ?_ (.own (k':=851) hn.symm ?_ (.own (k':=852) hn.symm ?_ (.nil _))))))))),a1,a2,d1,d2,fp1',fp2',rfl,rfl⟩⟩
 ·rw [hn]
 ·exact ints_snoc
 ·rw [hk]
  exact ints_snoc
def zxH (bp bt bs br:Nat) (S:Sto) (a a':Option Addr) (n c c' m:Nat) (ids keys:List Int) (x:Int) (v:Value) (L1:List Ent):Prop :=
 ∃ f1 f2,v=.nilIface/\L1=fP bp bt bs S f1 f2++[.box 861 br [.slice a (m+1) c,.slice a' (m+1) c'] zC,.own 851 a n c zr 1 (zt .i64 (ids.set m x)),.own 852 a' n c' qI 1 (zt .u64 (keys.set m ((tm S.E x).key:Int)))]
theorem zsk (bp bt bs br:Nat) (S:Sto) (hw:WF S) (ids keys:List Int) (n:Nat) (hn:ids.length=n) (hk:keys.length=n) (hl:n<=65536) (m:Nat) (hm:m<n) (x:Int) (hx:1<=x/\x<=S.E.length) (a a':Option Addr) (c c':Nat) (f1 f2 fp:List Nat) (w:World)
 (hR:R w fp (fP bp bt bs S f1 f2++[.box 861 br [.slice a m c,.slice a' m c'] zC,.own 851 a n c zr 1 (zt .i64 ids),.own 852 a' n c' qI 1 (zt .u64 keys)]) w) (hG:qq w fp) :
 Calls Tryz.prog yl #[pS bp,.pointer (some ⟨br,0,none⟩),.int .i64 x] w fun e w'=>∃ v L1,e=.returned v/\R w fp L1 w'/\zxH bp bt bs br S a a' n c c' m ids keys x v L1:=by
 refine zf [.ptr 3000 bp 0,.ptr 861 br 0,.v (.int .i64 x)] jw (by simp) hR ?_
 have c1:=x6 bt bs S hw x
 rw [x8 hx] at c1
 (repeat' ((conv=>whnf);first|(refine zZ (key1:=78) (key2:=77) rfl rfl (fun w hR h0=>c1 _ _ _ _ _ h0 (hG.cast2 hR)) ?_;rintro _ _ ⟨rfl,fp1',fp2',rfl⟩;refine ⟨.v _,rfl,?_⟩)|refine ⟨.vie 851 a m c,⟨rfl,trivial⟩,?_⟩|refine ⟨.vie 852 a' m c',⟨rfl,trivial⟩,?_⟩|refine zg ?_|((first|apply zb|apply za|apply zc)<;>intro h<;>try (exfalso;omega))|refine pay ?_|refine And.intro (by first|exact ⟨rfl,rfl,rfl,rfl,by omega,by omega⟩) ?_|intro _));(all_goals (conv=>whnf))
 rename_i b27 b37
 refine ⟨⟨_,Thin.ref (.skip (.skip (.keep rfl (fun _ h=>h) (.keep rfl (fun _ h=>h) (.keep rfl (fun _ h=>h) (.keep rfl (fun _ h=>h) (.own (k':=851) rfl ?_ (.own (k':=852) rfl ?_ (.nil _))))))))),fp1',fp2',rfl,rfl⟩⟩
 ·rw [Nat.mul_one,zci (by omega)]
 ·rw [Nat.mul_one,zci (by omega)]
structure Row (S0 S:Sto) (ids:List Int) (ts:List Tm):Prop where
 wf:WF S
 grow:Grow S0 S
 seq:Seq S ids
 tms:tms S ids=ts
 news:News S0 S ids
abbrev sqV (a a':Option Addr) (n c c':Nat):Value:=.agg #[.slice a n c,.slice a' n c']
def zvj (bp bt bs:Nat) (S0:Sto) (B:Nat) (ts:List Tm) (v:Value) (L1:List Ent):Prop :=
 ∃ S ids a a' c c' f1 f2,Row S0 S ids ts/\S.E.length+ids.length<=B/\v=.tuple #[sqV a a' ids.length c c',.nilIface]/\L1=fP bp bt bs S f1 f2++[.own 851 a ids.length c zr 1 (zt .i64 ids),.own 852 a' ids.length c' qI 1 (zt .u64 (kys S ids))]
theorem zwD {t:List Nat} {i:Nat} (h:i<t.length):(xd t)[i]?=some (.int .u8 (t.getD i 0:Nat)):=by
 simp [xd,g1q,g2q h]
theorem zk9 {α:Type} {d:α} {t:List α} {i:Nat} (h:i<t.length):t.take (i+1)=t.take i++[t.getD i d]:=by
 rw [List.take_add_one,g2q h,g1q,g2q h];rfl
structure LtG where
 i:Nat
 S:Sto
 ids:List Int
 a:Option Addr
 a':Option Addr
 c:Nat
 c':Nat
 f1:List Nat
 f2:List Nat
 b6:Nat
abbrev ltL (bp bt bs b4:Nat) (S:Sto) (ids:List Int) (a a':Option Addr) (c c':Nat) (f1 f2:List Nat) (b6:Nat):List Ent:=fP bp bt bs S f1 f2++[.box 861 b6 [.slice a ids.length c,.slice a' ids.length c'] zC,.own 851 a ids.length c zr 1 (zt .i64 ids),.own 852 a' ids.length c' qI 1 (zt .u64 (kys S ids)),.box 4 b4 [.slice none 0 0,.slice none 0 0] zC]
abbrev ltH (bp bt bs b4:Nat) (x:LtG):List Ent:=ltL bp bt bs b4 x.S x.ids x.a x.a' x.c x.c' x.f1 x.f2 x.b6
structure LtI (S0:Sto) (t:List Nat) (x:LtG):Prop where
 le:x.i<=t.length
 row:Row S0 x.S x.ids ((t.take x.i).map .lt)
 len:x.ids.length=x.i
 most:x.S.E.length<=S0.E.length+x.i
theorem znv (bp bt bs:Nat) (S0:Sto) (hw:WF S0) (t:List Nat) (hb:∀ x∈t,x<256) (hl:t.length<=65536) (hroom:S0.E.length+t.length<=S0.most) (at_:Option Addr) (ct:Nat) (f1 f2 fp:List Nat) (w:World)
 (hR:R w fp (fP bp bt bs S0 f1 f2) w) (hG:qq w fp) (hin:In w fp at_ (xd t)) :
 Calls Tryz.prog xD #[pS bp,.slice at_ t.length ct] w fun e w'=>∃ v L1,e=.returned v/\R w fp L1 w'/\zvj bp bt bs S0 (S0.E.length+2*t.length) (t.map .lt) v L1:=by
 refine zf [.ptr 3000 bp 0,.v (.slice at_ t.length ct)] zbG (by simp) hR ?_
 have hI0:∀ a a' c c' b6,LtI S0 t ⟨0,S0,[],a,a',c,c',f1,f2,b6⟩:=fun a a' c c' b6=>⟨Nat.zero_le _,⟨hw,Grow.refl _,fun x hx=>by simp at hx,rfl,News.refl _ _⟩,rfl,Nat.le_refl _⟩
 (repeat' ((conv=>whnf);first|((first|apply zb|apply za|apply zc)<;>intro h<;>try (exfalso;omega))|refine pay ?_|intro _));(all_goals (conv=>whnf))
 rename_i b4
 refine zcw LtG (fun x=>[(0,.ptr 3000 bp 0),(1,.v (.slice at_ t.length ct)),(4,.ptr 4 b4 0),(6,.ptr 861 x.b6 0)]) (ltH bp bt bs b4) (fun x=>LtI S0 t x/\x.i=0) ?_ ?_
 ·(repeat' ((conv=>whnf);first|refine xJ ?_ ?_|((first|apply zb|apply za|apply zc)<;>intro h<;>try (exfalso;omega))|refine pay ?_|refine And.intro (by first|exact ⟨by omega,by omega,by omega,by unfold maxLen;omega⟩|exact fun _=>Ref.refl _|exact fun _=>Thin.ref (by (repeat (first|exact Thin.nil _|exact Thin.refl _|refine Thin.keep rfl (fun _ h=>h) ?_|refine Thin.skip ?_)))|exact Thin.ref (by (repeat (first|exact Thin.nil _|exact Thin.refl _|refine Thin.keep rfl (fun _ h=>h) ?_|refine Thin.skip ?_)))) ?_|intro _));(all_goals (conv=>whnf))
  all_goals
   rename_i p q r
   first
   | (refine qh ⟨0,S0,[],some ⟨p,0,none⟩,some ⟨q,0,none⟩,t.length,t.length,f1,f2,r⟩ ⟨hI0 _ _ _ _ _,rfl⟩ ?_ (Ref.takes [78,77,3000,6,14,17,4] rfl ?_);((repeat ((conv=>whnf);refine vS ?_));exact trivial);(refine .keep rfl (fun _ h=>h) ?_;refine .keep rfl (fun _ h=>h) ?_;refine .keep rfl (fun _ h=>h) ?_;refine .keep rfl (fun _ h=>h) ?_;refine .keep rfl (fun _ h=>h) ?_;refine .keep rfl (fun _ h=>h) ?_;refine .keep rfl (fun _ h=>h) ?_;exact .nil _))
   | (refine qh ⟨0,S0,[],some ⟨p,0,none⟩,some ⟨r,0,none⟩,t.length,t.length,f1,f2,q⟩ ⟨hI0 _ _ _ _ _,rfl⟩ ?_ (Ref.takes [78,77,3000,6,14,17,4] rfl ?_);((repeat ((conv=>whnf);refine vS ?_));exact trivial);(refine .keep rfl (fun _ h=>h) ?_;refine .keep rfl (fun _ h=>h) ?_;refine .keep rfl (fun _ h=>h) ?_;refine .keep rfl (fun _ h=>h) ?_;refine .keep rfl (fun _ h=>h) ?_;refine .keep rfl (fun _ h=>h) ?_;refine .keep rfl (fun _ h=>h) ?_;exact .nil _))
   | (refine qh ⟨0,S0,[],some ⟨q,0,none⟩,some ⟨p,0,none⟩,t.length,t.length,f1,f2,r⟩ ⟨hI0 _ _ _ _ _,rfl⟩ ?_ (Ref.takes [78,77,3000,6,14,17,4] rfl ?_);((repeat ((conv=>whnf);refine vS ?_));exact trivial);(refine .keep rfl (fun _ h=>h) ?_;refine .keep rfl (fun _ h=>h) ?_;refine .keep rfl (fun _ h=>h) ?_;refine .keep rfl (fun _ h=>h) ?_;refine .keep rfl (fun _ h=>h) ?_;refine .keep rfl (fun _ h=>h) ?_;refine .keep rfl (fun _ h=>h) ?_;exact .nil _))
   | (refine qh ⟨0,S0,[],some ⟨q,0,none⟩,some ⟨r,0,none⟩,t.length,t.length,f1,f2,p⟩ ⟨hI0 _ _ _ _ _,rfl⟩ ?_ (Ref.takes [78,77,3000,6,14,17,4] rfl ?_);((repeat ((conv=>whnf);refine vS ?_));exact trivial);(refine .keep rfl (fun _ h=>h) ?_;refine .keep rfl (fun _ h=>h) ?_;refine .keep rfl (fun _ h=>h) ?_;refine .keep rfl (fun _ h=>h) ?_;refine .keep rfl (fun _ h=>h) ?_;refine .keep rfl (fun _ h=>h) ?_;refine .keep rfl (fun _ h=>h) ?_;exact .nil _))
   | (refine qh ⟨0,S0,[],some ⟨r,0,none⟩,some ⟨p,0,none⟩,t.length,t.length,f1,f2,q⟩ ⟨hI0 _ _ _ _ _,rfl⟩ ?_ (Ref.takes [78,77,3000,6,14,17,4] rfl ?_);((repeat ((conv=>whnf);refine vS ?_));exact trivial);(refine .keep rfl (fun _ h=>h) ?_;refine .keep rfl (fun _ h=>h) ?_;refine .keep rfl (fun _ h=>h) ?_;refine .keep rfl (fun _ h=>h) ?_;refine .keep rfl (fun _ h=>h) ?_;refine .keep rfl (fun _ h=>h) ?_;refine .keep rfl (fun _ h=>h) ?_;exact .nil _))
   | (refine qh ⟨0,S0,[],some ⟨r,0,none⟩,some ⟨q,0,none⟩,t.length,t.length,f1,f2,p⟩ ⟨hI0 _ _ _ _ _,rfl⟩ ?_ (Ref.takes [78,77,3000,6,14,17,4] rfl ?_);((repeat ((conv=>whnf);refine vS ?_));exact trivial);(refine .keep rfl (fun _ h=>h) ?_;refine .keep rfl (fun _ h=>h) ?_;refine .keep rfl (fun _ h=>h) ?_;refine .keep rfl (fun _ h=>h) ?_;refine .keep rfl (fun _ h=>h) ?_;refine .keep rfl (fun _ h=>h) ?_;refine .keep rfl (fun _ h=>h) ?_;exact .nil _))
 ·rintro ⟨i,S,ids,a,a',c,c',f1,f2,b6⟩ ⟨hI,hi0⟩
  dsimp only at hi0 ⊢
  subst hi0
  (repeat' ((conv=>whnf);first|((first|apply zb|apply za|apply zc)<;>intro h<;>try (exfalso;omega))|refine pay ?_|intro _));(all_goals (conv=>whnf))
  refine zP LtG (fun x=>[(0,.ptr 3000 bp 0),(4,.ptr 4 b4 0),(6,.ptr 861 x.b6 0),(19,.v (.slice at_ t.length ct)),(20,.v (.int .i64 t.length)),(21,.v (.int .i64 x.i))]) (ltH bp bt bs b4) (LtI S0 t) (fun x=>t.length - x.i) ⟨0,S,ids,a,a',c,c',f1,f2,b6⟩ hI (by (repeat ((conv=>whnf);refine vS ?_));exact trivial) (Thin.ref (.refl _)) ?_
  rintro ⟨i,S,ids,a,a',c,c',f1,f2,b6⟩ ⟨h1,h2,h3,h4⟩
  dsimp only [ltH] at h1 h2 h3 h4 ⊢
  by_cases hlt:i<t.length
  ·have hne:at_≠none:=hin.ne' (k:=i) (by simp [xd];omega)
   have rd:=fun {L:List Ent}=>hin.rd (L:=L) (zwD hlt)
   have hx:t.getD i 0<256:=hb _ (by rw [g1q,g2q hlt];exact List.getElem_mem hlt)
   have htk:=zk9 (d:=0) hlt
   have hm:=h2.grow.most
   obtain ⟨S',x,e,hM⟩:=zv4 h2.wf hx (by omega)
   have c1:=zid bs S (t.getD i 0) hx h2.wf.small
   rw [e] at c1
   have hg:=hM.grow
   have hs:=h2.wf.small
   generalize t.getD i 0=l at *
   have hky:zt .u64 (kys S ids)=zt .u64 (kys S' ids):=by rw [zeg h2.seq hg]
   have hln:(ids++[x]).length=i+1:=by simp [h3]
   (repeat' ((conv=>whnf);first|refine SC.go 77 c1 rfl fun fp'=>?_|rw [g7q]|rw [Nat.mul_one]|refine ⟨_,rd,?_⟩|refine zg ?_ |((first|apply zb|apply za|apply zc)<;>intro h<;>try (exfalso;omega))|refine pay ?_|refine And.intro (by first|exact hne) ?_|intro _));(all_goals (conv=>whnf))
   refine zeL (L':=ltL bp bt bs b4 S' ids a a' c c' f1 fp' b6) (Ref.takes [78,77,3000,861,851,852,4] rfl (zk8 hg (.keep rfl (fun _ h=>h) (.keep rfl (fun _ h=>h) (.keep rfl (fun _ h=>h) (.keep rfl (fun _ h=>h) (.own rfl hky (.refl _)))))))) ?_
   refine zh [78,77,3000,861,851,852] rfl (fun w hR h0=>zsj bp bt bs b6 S' hM.wf ids (by omega) x ⟨hM.pos,hM.le⟩ a a' c c' _ _ _ w h0 (hG.castL hR)) ?_
   rintro _ _ ⟨a1,a2,d1,d2,g1,g2,rfl,rfl⟩
   refine ⟨.v _,rfl,?_⟩
   (repeat' ((conv=>whnf);first|refine zg ?_ |((first|apply zb|apply za|apply zc)<;>intro h<;>try (exfalso;omega))|refine pay ?_|intro _));(all_goals (conv=>whnf))
   refine zm ⟨i+1,S',ids++[x],a1,a2,d1,d2,g1,g2,b6⟩ ⟨hlt,⟨hM.wf,h2.grow.trans hg,(h2.seq.grow hg).snoc ⟨hM.pos,hM.le⟩,?_,h2.news.made hM⟩,hln,?_⟩ ?_ (by (repeat ((conv=>whnf);refine vS ?_));exact trivial) (Thin.ref (.refl _))
   ·rw [zad,zef h2.seq hg,h2.tms,htk,List.map_append]
    simp [tms,hM.tm]
   ·have:=hM.len
    dsimp only;omega
   ·dsimp only;omega
  ·have hil:i=t.length:=by omega
   subst hil
   (repeat' ((conv=>whnf);first|refine zg ?_|((first|apply zb|apply za|apply zc)<;>intro h<;>try (exfalso;omega))|refine pay ?_|intro _));(all_goals (conv=>whnf))
   rw [List.take_length] at h2
   refine ⟨⟨_,Ref.takes [78,77,3000,851,852] rfl (.refl _),S,ids,a,a',c,c',f1,f2,h2,by omega,rfl,rfl⟩⟩
theorem zsl (w:World) (a:Option Addr) (c:Nat) (xs:List Int) (hx:In w [] a (zt .i64 xs)) (hl:xs.length<=1000) :
 Calls Tryz.prog zbP #[.slice a xs.length c] w (zlG vh 2 (runs xs).length (prs .i64 (runs xs)) w) :=
 zdm [.v (.slice a xs.length c)] w zl5 (by simp) (zwx w a c xs hx hl)
theorem zqv (w:World) (a:Option Addr) (c:Nat) (xs:List Int) (l:Int) (hx:In w [] a (zt .u64 xs)) (hl:xs.length<=1000) (hu:zu4 xs) (hl1:l<=9223372036854775807) :
 Calls Tryz.prog zbf #[.slice a xs.length c,.int .i64 l] w (zlG zar 1 (zQ xs l).length (zt .i64 (zQ xs l)) w) :=
 zdm [.v (.slice a xs.length c),.v (.int .i64 l)] w zkT (by simp) (zu5 w a c xs l hx hl hu hl1)
structure RnG where
 i:Nat
 S:Sto
 out:List Int
 f1:List Nat
 f2:List Nat
structure RnI (S:Sto) (ids:List Int) (B:Nat) (x:RnG):Prop where
 le:x.i<=(runs ids).length
 row:Row S x.S x.out (((zI (tms S ids)).take x.i).map jO)
 len:x.out.length=x.i
 most:x.S.E.length+x.i+(ids.length - atR ids x.i)<=B
abbrev rnL (bp bt bs b3 b4 b6:Nat) (S0:Sto) (ids:List Int) (a a':Option Addr) (c c':Nat) (ar:Option Addr) (cr:Nat) (i:Nat) (S:Sto) (out:List Int) (f1 f2:List Nat):List Ent:=fP bp bt bs S f1 f2++[.box 861 b6 [.slice a i c,.slice a' i c'] zC,.own 851 a ids.length c zr 1 (zt .i64 (out++ids.drop i)),.own 852 a' ids.length c' qI 1 (zt .u64 (kys S out++(kys S0 ids).drop i)),.box 3 b3 [.slice a ids.length c,.slice a' ids.length c'] zC,.box 4 b4 [.slice none 0 0,.slice none 0 0] zC,.own 900 ar (runs ids).length cr vh 2 (prs .i64 (runs ids))]
theorem zsm (bp bt bs:Nat) (S:Sto) (hw:WF S) (ids:List Int) (hs:Seq S ids) (hpos:0<ids.length) (hl:ids.length<=1000) (htx:(zF (tms S ids)).length<=65536) (B:Nat) (hB:S.E.length+ids.length<=B) (hBm:B<=S.most) (a a':Option Addr) (c c':Nat) (f1 f2 fp:List Nat) (w:World)
 (hR:R w fp (fP bp bt bs S f1 f2++[.own 851 a ids.length c zr 1 (zt .i64 ids),.own 852 a' ids.length c' qI 1 (zt .u64 (kys S ids))]) w) (hG:qq w fp) :
 Calls Tryz.prog kA #[pS bp,sqV a a' ids.length c c'] w fun e w'=>∃ v L1,e=.returned v/\R w fp L1 w'/\zvj bp bt bs S B (vk (tms S ids)) v L1:=by
 have hc1:=zbW (key:=851) hR rfl
 have hc2:=zbW (key:=852) hR rfl
 refine zf [.ptr 3000 bp 0,.v (sqV a a' ids.length c c')] zc0 (by simp) hR ?_
 have cR:=fun w h=>zsl w a c ids h hl
 have hof:=uy a c 1
 have hof':=uy a' c' 1
 have hne:=xZ (key:=851) hR rfl hpos
 have hne':=xZ (key:=852) hR rfl hpos
 (repeat' ((conv=>whnf);first|refine xJ ?_ ?_|refine ⟨.sl 851 _ _ _,⟨rfl,rfl,rfl,rfl⟩,?_⟩|refine ⟨.sl 852 _ _ _,⟨rfl,rfl,rfl,rfl⟩,?_⟩|refine zg ?_|refine zcg 900 (fun w' hR=>cR w' (In.ownR (key:=851) hR rfl)) ?_|((first|apply zb|apply za|apply zc)<;>intro h<;>try (exfalso;omega))|refine pay ?_|refine And.intro (by first|exact fun _=>Ref.refl _|exact fun _=>Thin.ref (by (repeat (first|exact Thin.nil _|exact Thin.refl _|refine Thin.keep rfl (fun _ h=>h) ?_|refine Thin.skip ?_)))|exact Thin.ref (by (repeat (first|exact Thin.nil _|exact Thin.refl _|refine Thin.keep rfl (fun _ h=>h) ?_|refine Thin.skip ?_)))) ?_|intro _));(all_goals (conv=>whnf))
 rename_i b3 b4 b6 ar cr
 refine zP RnG (fun x=>[(0,.ptr 3000 bp 0),(3,.ptr 3 b3 0),(4,.ptr 4 b4 0),(6,.ptr 861 b6 0),(7,.v (.int .i64 (atR ids x.i))),(22,.sl 900 ar (runs ids).length cr),(23,.v (.int .i64 (runs ids).length)),(24,.v (.int .i64 x.i))])
  (fun x=>rnL bp bt bs b3 b4 b6 S ids a a' c c' ar cr x.i x.S x.out x.f1 x.f2) (RnI S ids B) (fun x=>(runs ids).length - x.i) ⟨0,S,[],f1,f2⟩ ⟨Nat.zero_le _,⟨hw,Grow.refl _,fun x hx=>by simp at hx,rfl,News.refl _ _⟩,rfl,by rw [zpb];dsimp only;omega⟩ (by rw [zpb];(repeat ((conv=>whnf);refine vS ?_));exact trivial) (Ref.takes [78,77,3000,6,851,852,3,4,900] rfl ?_) ?_
 ·refine .keep rfl (fun _ h=>h) (.keep rfl (fun _ h=>h) (.keep rfl (fun _ h=>h) (.box ?_ (.refl _))))
  show [Value.slice (xc a c 0 1) _ _,Value.slice (xc a' c' 0 1) _ _]=_
  rw [hof,hof'];rfl
 rintro ⟨i,S1,out,g1,g2⟩ ⟨h1,h2,h3,h4⟩
 dsimp only at h1 h2 h3 h4 ⊢
 have hgm:=h2.grow.most
 by_cases hlt:i<(runs ids).length
 ·obtain ⟨q1,q2,q3,q4⟩:=zpc hlt
  have q5:=ztG (xs:=ids) (i:=i) h1
  have hrt:=zjY hw hs
  have htk:((zI (tms S ids)).take (i+1)).map jO=((zI (tms S ids)).take i).map jO++[jO (tm S.E ((runs ids).getD i (0,0)).1,((runs ids).getD i (0,0)).2.toNat)]:=by
   rw [hrt,←List.map_take,←List.map_take,zk9 (d:=(0,0)) hlt,List.map_append,List.map_append];rfl
  have hmem:(tm S.E ((runs ids).getD i (0,0)).1,((runs ids).getD i (0,0)).2.toNat)∈zI (tms S ids):=by
   rw [hrt]
   refine List.mem_map.2 ⟨(runs ids).getD i (0,0),?_,rfl⟩
   rw [g1q,g2q hlt]
   exact List.getElem_mem hlt
  have hlr:=zrs hmem
  have e1:=zkH (k:=.i64) hlt
  have e2:=zgO (k:=.i64) hlt
  have hat:atR ids i<ids.length:=by omega
  have hid:=hs.get hat
  rw [q4] at hid
  have hkey:=zrr S hat
  rw [q4] at hkey
  have hKl:(kys S1 out).length=i:=by rw [xO,h3]
  have r1:(zt .u64 (kys S1 out++(kys S ids).drop i))[atR ids i]?=some (.int .u64 ((tm S.E ((runs ids).getD i (0,0)).1).key:Int)):=by
   rw [xY (by rw [uo hKl (by rw [xO];omega),xO];exact hat),zmb hKl q5 (by rw [xO];exact hat),hkey]
  have s1:=fun (v:Int)=>zci (k:=.i64) (xs:=out++ids.drop i) (j:=i) (z:=v) (by rw [uo h3 (by omega)];omega)
  have s2:=fun (v:Int)=>zci (k:=.u64) (xs:=kys S1 out++(kys S ids).drop i) (j:=i) (z:=v) (by rw [uo hKl (by rw [xO];omega),xO];omega)
  have hidS1:=(hs.grow h2.grow).get hat
  rw [q4] at hidS1
  have htm1:tm S1.E ((runs ids).getD i (0,0)).1=tm S.E ((runs ids).getD i (0,0)).1:=h2.grow.tm hid.2
  generalize hgg:(runs ids).getD i (0,0)=g at *
  by_cases hg1:g.2=1
  ·have hpw:jO (tm S.E g.1,g.2.toNat)=tm S.E g.1:=by rw [hg1];rfl
   rw [hpw] at htk
   (repeat' ((conv=>whnf);first|rw [g7q]|rw [Nat.mul_one]|rw [e1]|rw [e2]|refine zB r1 ?_|refine ⟨.sl 851 _ _ _,⟨rfl,rfl,rfl,rfl⟩,?_⟩|refine ⟨.sl 852 _ _ _,⟨rfl,rfl,rfl,rfl⟩,?_⟩|refine ⟨.vie 851 a i c,⟨rfl,trivial⟩,?_⟩|refine ⟨.vie 852 a' i c',⟨rfl,trivial⟩,?_⟩|refine zg ?_|((first|apply zb|apply za|apply zc)<;>intro h<;>try (exfalso;omega))|refine pay ?_|refine And.intro (by first|exact hne|exact hne'|exact ⟨zbN (by omega),jG (by omega),trivial⟩|(simp only [g7q];exact ⟨zbN (by omega),jG (by omega),trivial⟩)|exact ⟨rfl,rfl,rfl,rfl,by omega,by omega⟩) ?_|intro _));(all_goals (conv=>whnf))
   all_goals try (exfalso;omega)
   have hky:kys S1 (out++[g.1])=kys S1 out++[((tm S.E g.1).key:Int)]:=by rw [zae];simp [kys,htm1]
   refine zm ⟨i+1,S1,out++[g.1],g1,g2⟩ ⟨hlt,⟨h2.wf,h2.grow,h2.seq.snoc hidS1,?_,h2.news.more _⟩,by simp [h3],?_⟩ ?_ ?_ (Thin.ref (.skip (.skip (.skip (.keep rfl (fun _ h=>h) (.keep rfl (fun _ h=>h) (.keep rfl (fun _ h=>h) (.keep rfl (fun _ h=>h) (.own rfl ?_ (.own rfl ?_ (.refl _)))))))))))
   ·rw [zad,h2.tms,htk];simp [tms,htm1]
   ·dsimp only;omega
   ·dsimp only;omega
   ·dsimp only
    rw [q1]
    (repeat ((conv=>whnf);refine vS ?_));exact trivial
   ·rw [s1,zdH h3 (by omega)]
   ·rw [s2,zdH hKl (by rw [xO];omega),hky]
  ·have hpw:jO (tm S.E g.1,g.2.toNat)=.pw (tm S.E g.1) g.2.toNat:=if_neg (by dsimp only;omega)
   rw [hpw] at htk
   obtain ⟨S2,x,e,hM⟩:=zv5 h2.wf hidS1.1 hidS1.2 (k:=g.2) (by omega) (by rw [htm1];dsimp only at hlr;have:LM=1152921504606846976:=rfl;omega) (by omega)
   have c1:=zfj bs S1 h2.wf g.1 g.2 (by omega)
   rw [e] at c1
   have hg:=hM.grow
   have c2:=x6 bt bs S2 hM.wf x
   rw [x8 ⟨hM.pos,hM.le⟩] at c2
   (repeat' ((conv=>whnf);first|refine SC.go 77 c1 rfl fun fp'=>?_|(refine zcn rfl hg ?_;(refine zZ (key1:=78) (key2:=77) rfl rfl (fun w hR h0=>c2 _ _ _ _ _ h0 (hG.cast2 hR)) ?_;rintro _ _ ⟨rfl,fp1',fp2',rfl⟩;refine ⟨.v _,rfl,?_⟩))|rw [g7q]|rw [Nat.mul_one]|rw [e1]|rw [e2]|refine zB r1 ?_|refine ⟨.sl 851 _ _ _,⟨rfl,rfl,rfl,rfl⟩,?_⟩|refine ⟨.sl 852 _ _ _,⟨rfl,rfl,rfl,rfl⟩,?_⟩|refine ⟨.vie 851 a i c,⟨rfl,trivial⟩,?_⟩|refine ⟨.vie 852 a' i c',⟨rfl,trivial⟩,?_⟩|refine zg ?_|refine xJ ?_ ?_|((first|apply zb|apply za|apply zc)<;>intro h<;>try (exfalso;omega))|refine pay ?_|refine And.intro (by first|exact hne|exact hne'|exact ⟨zbN (by omega),jG (by omega),trivial⟩|(simp only [g7q];exact ⟨zbN (by omega),jG (by omega),trivial⟩)|exact ⟨rfl,rfl,rfl,rfl,by omega,by omega⟩|exact fun _=>Ref.refl _|exact fun _=>Thin.ref (by (repeat (first|exact Thin.nil _|exact Thin.refl _|refine Thin.keep rfl (fun _ h=>h) ?_|refine Thin.skip ?_)))|exact Thin.ref (by (repeat (first|exact Thin.nil _|exact Thin.refl _|refine Thin.keep rfl (fun _ h=>h) ?_|refine Thin.skip ?_)))) ?_|intro _));(all_goals (conv=>whnf))
   all_goals try (exfalso;omega)
   have hky:kys S2 (out++[x])=kys S1 out++[((tm S2.E x).key:Int)]:=by rw [zae,zeg h2.seq hg];simp [kys]
   have hM2:=hM.len
   refine zm ⟨i+1,S2,out++[x],_,_⟩ ⟨hlt,⟨hM.wf,h2.grow.trans hg,(h2.seq.grow hg).snoc ⟨hM.pos,hM.le⟩,?_,h2.news.made hM⟩,by simp [h3],?_⟩ ?_ ?_ (Ref.takes [78,77,3000,861,851,852,3,4,900] rfl (.keep rfl (fun _ h=>h) (.keep rfl (fun _ h=>h) (.keep rfl (fun _ h=>h) (.keep rfl (fun _ h=>h) (.own rfl ?_ (.own rfl ?_ (.refl _))))))))
   ·rw [zad,zef h2.seq hg,h2.tms,htk];simp [tms,hM.tm,htm1]
   ·dsimp only;omega
   ·dsimp only;omega
   ·dsimp only
    rw [q1]
    (repeat ((conv=>whnf);refine vS ?_));exact trivial
   ·rw [s1,zdH h3 (by omega)]
   ·rw [s2,zdH hKl (by rw [xO];omega),hky]
 ·have hin:i=(runs ids).length:=by omega
  have hnl:(runs ids).length<=ids.length:=zfk ids
  (repeat' ((conv=>whnf);first|refine zg ?_|((first|apply zb|apply za|apply zc)<;>intro h<;>try (exfalso;omega))|refine pay ?_|intro _));(all_goals (conv=>whnf))
  all_goals try (exfalso;omega)
  have hrt:=zjY hw hs
  have hall:((zI (tms S ids)).take i).map jO=vk (tms S ids):=by
   unfold vk
   rw [hin,List.take_of_length_le (by rw [hrt,g8q];omega)]
  rw [hall] at h2
  refine ⟨⟨_,Ref.takes [78,77,3000,851,852] rfl (.keep rfl (fun _ h=>h) (.keep rfl (fun _ h=>h) (.keep rfl (fun _ h=>h) (.cut (m:=out.length) (by omega) ?_ (.cut (m:=out.length) (by omega) ?_ (.nil _)))))),S1,out,a,a',c,c',g1,g2,h2,by omega,by rw [h3];rfl,rfl⟩⟩
  ·rw [Nat.mul_one,zt,←List.map_take,List.take_left];rfl
  ·rw [Nat.mul_one,zt,←List.map_take,show out.length=(kys S1 out).length from (xO _ _).symm,List.take_left];rfl
theorem zvk (S:Sto) (ids:List Int):zu4 (kys S ids):=fun i=>by
 by_cases h:i<ids.length
 ·rw [zrr S h]
  have:=(tm S.E (ids.getD i 0)).key_lt'
  omega
 ·rw [g1q,List.getElem?_eq_none (by rw [xO];omega)]
  simp
structure PrG where
 i:Nat
 at_:Nat
 S:Sto
 out:List Int
 f1:List Nat
 f2:List Nat
structure PrI (S:Sto) (ids:List Int) (l B:Nat) (x:PrG):Prop where
 le:x.i<=(zQ (kys S ids) l).length
 wf:WF x.S
 grow:Grow S x.S
 seq:Seq x.S x.out
 news:News S x.S x.out
 gap:Gap (x.at_:Nat) ((zQ (kys S ids) l).drop x.i)
 tms:tms x.S x.out++asm (tms S ids) x.at_ ((zQ (kys S ids) l).drop x.i)=ql (tms S ids) l
 len:x.out.length<=x.at_/\x.at_<=ids.length
 most:x.S.E.length+x.out.length+(ids.length - x.at_)<=B
abbrev prL (bp bt bs b4 b6 b8:Nat) (S0:Sto) (ids:List Int) (a a':Option Addr) (c c':Nat) (ar:Option Addr) (cr:Nat) (ps:List Int) (S:Sto) (m:Nat) (out:List Int) (ko:List Int) (f1 f2:List Nat):List Ent:=fP bp bt bs S f1 f2++[.box 861 b8 [.slice a m c,.slice a' m c'] zC,.own 851 a ids.length c zr 1 (zt .i64 (out++ids.drop m)),.own 852 a' ids.length c' qI 1 (zt .u64 (ko++(kys S0 ids).drop m)),.box 4 b4 [.slice a ids.length c,.slice a' ids.length c'] zC,.box 6 b6 [.slice none 0 0,.slice none 0 0] zC,.own 900 ar ps.length cr zar 1 (zt .i64 ps)]
theorem zqw (bp bt bs:Nat) (S:Sto) (hw:WF S) (ids:List Int) (hs:Seq S ids) (hpos:0<ids.length) (hl:ids.length<=1000) (htx:(zF (tms S ids)).length<=65536) (l:Nat) (hlv:l<=9223372036854775807) (B:Nat) (hB:S.E.length+ids.length<=B) (hBm:B<=S.most) (a a':Option Addr) (c c':Nat) (f1 f2 fp:List Nat) (w:World)
 (hR:R w fp (fP bp bt bs S f1 f2++[.own 851 a ids.length c zr 1 (zt .i64 ids),.own 852 a' ids.length c' qI 1 (zt .u64 (kys S ids))]) w) (hG:qq w fp) :
 Calls Tryz.prog x4 #[pS bp,sqV a a' ids.length c c',.int .i64 l] w fun e w'=>∃ v L1,e=.returned v/\R w fp L1 w'/\zvj bp bt bs S B (ql (tms S ids) l) v L1:=by
 have hc1:=zbW (key:=851) hR rfl
 have hc2:=zbW (key:=852) hR rfl
 refine zf [.ptr 3000 bp 0,.v (sqV a a' ids.length c c'),.v (.int .i64 l)] zcz (by simp) hR ?_
 have hkl:=xO S ids
 have cR:=fun w h=>zqv w a' c' (kys S ids) l h (by omega) (zvk S ids) (by omega)
 rw [hkl] at cR
 have hof:=uy a c 1
 have hof':=uy a' c' 1
 have hne:=xZ (key:=851) hR rfl hpos
 have hne':=xZ (key:=852) hR rfl hpos
 have hpk:=zhc (tms S ids) l
 rw [zpa,ziU] at hpk
 have hpl:=zc3 (kys S ids) l
 have hps:ql (tms S ids) l=asm (tms S ids) 0 (zQ (kys S ids) l):=by rw [ql,zpa]
 (repeat' ((conv=>whnf);first|refine xJ ?_ ?_|refine ⟨.sl 851 _ _ _,⟨rfl,rfl,rfl,rfl⟩,?_⟩|refine ⟨.sl 852 _ _ _,⟨rfl,rfl,rfl,rfl⟩,?_⟩|refine zg ?_|refine zcg 900 (fun w' hR=>cR w' (In.ownR (key:=852) hR rfl)) ?_|((first|apply zb|apply za|apply zc)<;>intro h<;>try (exfalso;omega))|refine pay ?_|refine And.intro (by first|exact fun _=>Ref.refl _|exact fun _=>Thin.ref (by (repeat (first|exact Thin.nil _|exact Thin.refl _|refine Thin.keep rfl (fun _ h=>h) ?_|refine Thin.skip ?_)))|exact Thin.ref (by (repeat (first|exact Thin.nil _|exact Thin.refl _|refine Thin.keep rfl (fun _ h=>h) ?_|refine Thin.skip ?_)))) ?_|intro _));(all_goals (conv=>whnf))
 rename_i b4 b6 b8 ar cr
 refine zP PrG (fun x=>[(0,.ptr 3000 bp 0),(4,.ptr 4 b4 0),(6,.ptr 6 b6 0),(8,.ptr 861 b8 0),(9,.v (.int .i64 x.at_)),(25,.sl 900 ar (zQ (kys S ids) l).length cr),(26,.v (.int .i64 (zQ (kys S ids) l).length)),(27,.v (.int .i64 x.i))])
  (fun x=>prL bp bt bs b4 b6 b8 S ids a a' c c' ar cr (zQ (kys S ids) l) x.S x.out.length x.out (kys x.S x.out) x.f1 x.f2) (PrI S ids l B) (fun x=>(zQ (kys S ids) l).length - x.i) ⟨0,0,S,[],f1,f2⟩ ⟨Nat.zero_le _,hw,Grow.refl _,fun x hx=>by simp at hx,News.refl _ _,hpk.1,hps.symm,⟨Nat.le_refl _,Nat.zero_le _⟩,by dsimp only [List.length_nil];omega⟩ (by (repeat ((conv=>whnf);refine vS ?_));exact trivial) (Ref.takes [78,77,3000,8,851,852,4,6,900] rfl ?_) ?_
 ·refine .keep rfl (fun _ h=>h) (.keep rfl (fun _ h=>h) (.keep rfl (fun _ h=>h) (.box ?_ (.refl _))))
  show [Value.slice (xc a c 0 1) _ _,Value.slice (xc a' c' 0 1) _ _]=_
  rw [hof,hof'];rfl
 generalize hPP:zQ (kys S ids) l=ps at *
 rintro ⟨i,at_,S1,out,g1,g2⟩ ⟨h1,h2,h3,h4,h5,h6,h7,⟨h8,h9⟩,h10⟩
 rw [hPP] at h1 h6 h7
 dsimp only at h1 h2 h3 h4 h5 h6 h7 h8 h9 h10 ⊢
 have hgm:=h3.most
 have hm0:out.length<=ids.length:=by omega
 have hKl:(kys S1 out).length=out.length:=xO S1 out
 by_cases hlt:i<ps.length
 ·have hpi:=hpk.2 (ps.getD i 0) (by rw [g1q,g2q hlt];exact List.getElem_mem hlt)
  have hdr:ps.drop i=ps.getD i 0::ps.drop (i+1):=by
   rw [List.drop_eq_getElem_cons hlt,g1q,g2q hlt];rfl
  have r0:(zt .i64 ps)[i]?=some (.int .i64 (ps.getD i 0)):=xY hlt
  rw [hdr] at h6 h7
  obtain ⟨q,hq⟩:=Int.eq_ofNat_of_zero_le hpi.1
  rw [hq] at h6 h7 hpi r0
  have hqa:at_<=q:=by have:=h6.1;omega
  have hq1:q+1<ids.length:=by omega
  have hgp:=h6.2
  have x1:=hs.get (show q<ids.length by omega)
  have x2:=hs.get hq1
  have y1:=(hs.grow h3).get (show q<ids.length by omega)
  have y2:=(hs.grow h3).get hq1
  have t1:=zrq S (show q<ids.length by omega)
  have t2:=zrq S hq1
  have z1:=h3.tm x1.2
  have z2:=h3.tm x2.2
  have hl2:=zwC (ts:=tms S ids) (i:=q) (by rw [ziU];exact hq1)
  rw [t1,t2] at hl2
  have hsl:((ids.drop at_).take (q - at_)).length=q - at_:=by simp;omega
  have hslk:(((kys S ids).drop at_).take (q - at_)).length=q - at_:=by simp [hkl];omega
  have hsq:Seq S ((ids.drop at_).take (q - at_)):=(hs.drop _).take _
  have hkk:kys S1 ((ids.drop at_).take (q - at_))=((kys S ids).drop at_).take (q - at_):=by
   rw [zeg hsq h3];simp [kys,List.map_drop,List.map_take]
  have htt:tms S1 ((ids.drop at_).take (q - at_))=((tms S ids).drop at_).take (q - at_):=by
   rw [zef hsq h3];simp [tms,List.map_drop,List.map_take]
  obtain ⟨out',hout⟩:∃ o,o=out++(ids.drop at_).take (q - at_):=⟨_,rfl⟩
  have ho1:out'.length=out.length+(q - at_):=by rw [hout,g6q,hsl]
  have hsq':Seq S1 out':=by rw [hout];exact h4.append (hsq.grow h3)
  obtain ⟨S2,x,e,hM⟩:=jQ h2 y1.1 y1.2 y2.1 y2.2 (by rw [z1,z2];have:LM=1152921504606846976:=rfl;omega) (by omega)
  have c1:=xk bs S1 h2 (ids.getD q 0) (ids.getD (q+1) 0)
  rw [e] at c1
  have hg:=hM.grow
  have sA:=zdt (k:=.i64) (X:=out) (Z:=ids) (Y:=(ids.drop at_).take (q - at_)) (m:=out.length) rfl
  have sB:=zdt (k:=.u64) (X:=kys S1 out) (Z:=kys S ids) (Y:=((kys S ids).drop at_).take (q - at_)) (m:=out.length) hKl
  rw [hsl,←hout,←ho1] at sA
  have hk':kys S1 out'=kys S1 out++((kys S ids).drop at_).take (q - at_):=by rw [hout,zae,hkk]
  rw [hslk,←hk',←ho1] at sB
  have pA:=zeR (k:=.i64) (X:=out) (Z:=ids) (m:=out.length) (l:=at_) (q:=q - at_) rfl h8
  have pB:=zeR (k:=.u64) (X:=kys S1 out) (Z:=kys S ids) (m:=out.length) (l:=at_) (q:=q - at_) hKl h8
  have lA:(zt .i64 (out++ids.drop out.length)).length=ids.length:=by rw [y7,uo rfl hm0]
  have lB:(zt .u64 (kys S1 out++(kys S ids).drop out.length)).length=ids.length:=by rw [y7,uo hKl (by omega),hkl]
  have rA:=fun {L:List Ent} {T:Nat} (h:zL 851 L=some ⟨a,ids.length,c,T,1,zt .i64 (out++ids.drop out.length)⟩)=>zk5 (w0:=w) (fp0:=fp) 851 h (l:=at_) (m:=q - at_) (by rw [lA];omega)
  have rB:=fun {L:List Ent} {T:Nat} (h:zL 852 L=some ⟨a',ids.length,c',T,1,zt .u64 (kys S1 out++(kys S ids).drop out.length)⟩)=>zk5 (w0:=w) (fp0:=fp) 852 h (l:=at_) (m:=q - at_) (by rw [lB];omega)
  rw [pA,Nat.mul_one] at rA
  rw [pB,Nat.mul_one] at rB
  have oA:=zf7 (k:=.i64) ((ids.drop at_).take (q - at_))
  have oB:=zf7 (k:=.u64) (((kys S ids).drop at_).take (q - at_))
  have k1:(zt .i64 (out'++ids.drop out'.length))[q]?=some (.int .i64 (ids.getD q 0)):=by
   rw [xY (by rw [uo rfl (by omega)];omega),zmb rfl (by omega) (by omega)]
  have k2:(zt .i64 (out'++ids.drop out'.length))[q+1]?=some (.int .i64 (ids.getD (q+1) 0)):=by
   rw [xY (by rw [uo rfl (by omega)];omega),zmb rfl (by omega) hq1]
  have eq1:((q:Int)+1).toNat=q+1:=by omega
  have hml:out.length+(q - at_)=out'.length:=ho1.symm
  (repeat' ((conv=>whnf);first|rw [g7q]|rw [eq1]|rw [Nat.mul_one]|refine zB r0 ?_|refine zB k1 ?_|refine zB k2 ?_|refine ⟨_,rA rfl,oA,?_⟩|refine ⟨_,rB rfl,oB,?_⟩|rw [sA]|rw [sB]|rw [hml]|refine SC.go 77 c1 rfl fun fp'=>?_|refine ⟨.sl 851 _ _ _,⟨rfl,rfl,rfl,rfl⟩,?_⟩|refine ⟨.sl 852 _ _ _,⟨rfl,rfl,rfl,rfl⟩,?_⟩|refine ⟨.vie 851 a _ c,⟨rfl,trivial⟩,?_⟩|refine ⟨.vie 852 a' _ c',⟨rfl,trivial⟩,?_⟩|refine zg ?_|refine xJ ?_ ?_|((first|apply zb|apply za|apply zc)<;>intro h<;>try (exfalso;omega))|refine pay ?_|refine And.intro (by first|exact hne|exact hne'|exact ⟨rfl,rfl,rfl,rfl,by omega,by omega⟩|exact fun _=>Ref.refl _|exact fun _=>Thin.ref (by (repeat (first|exact Thin.nil _|exact Thin.refl _|refine Thin.keep rfl (fun _ h=>h) ?_|refine Thin.skip ?_)))|exact Thin.ref (by (repeat (first|exact Thin.nil _|exact Thin.refl _|refine Thin.keep rfl (fun _ h=>h) ?_|refine Thin.skip ?_)))) ?_|intro _));(all_goals (conv=>whnf))
  have hXl:(out'++ids.drop out'.length).length=ids.length:=uo rfl (by omega)
  have hYl:(kys S1 out'++(kys S ids).drop out'.length).length=ids.length:=by rw [uo (xO _ _) (by omega),hkl]
  have hn':(out'++[x]).length=out'.length+1:=by simp
  have eX:=zdH (X:=out') (Y:=ids) (v:=x) rfl (by omega)
  have eY:=zdH (X:=kys S1 out') (Y:=kys S ids) (i:=out'.length) (v:=((tm S2.E x).key:Int)) (xO _ _) (by omega)
  have hkf:kys S2 (out'++[x])=kys S1 out'++[((tm S2.E x).key:Int)]:=by rw [zae,zeg hsq' hg];simp [kys]
  refine zcn rfl hg ?_
  refine zh [78,77,3000,861,851,852] rfl (fun w hR h0=>zsk bp bt bs b8 S2 hM.wf (out'++ids.drop out'.length) (kys S1 out'++(kys S ids).drop out'.length) ids.length hXl hYl (by omega) out'.length (by omega) x ⟨hM.pos,hM.le⟩ a a' c c' _ _ _ w h0 (hG.castL hR)) ?_
  rintro _ _ ⟨e1,e2,rfl,rfl⟩
  refine ⟨.v _,rfl,?_⟩
  (repeat' ((conv=>whnf);first|refine zg ?_ |((first|apply zb|apply za|apply zc)<;>intro h<;>try (exfalso;omega))|refine pay ?_|intro _));(all_goals (conv=>whnf))
  refine zm ⟨i+1,q+2,S2,out'++[x],e1,e2⟩ ⟨by rw [hPP];exact hlt,hM.wf,h3.trans hg,(hsq'.grow hg).snoc ⟨hM.pos,hM.le⟩,?_,?_,?_,?_,?_⟩ ?_ (by (repeat ((conv=>whnf);refine vS ?_));exact trivial) (Ref.takes [78,77,3000,861,851,852,4,6,900] rfl (.keep rfl (fun _ h=>h) (.keep rfl (fun _ h=>h) (.keep rfl (fun _ h=>h) (.box ?_ (.own rfl ?_ (.own rfl ?_ (.refl _))))))))
  ·rw [hout];exact (h5.more _).made hM
  ·rw [hPP]
   have e:((q+2:Nat):Int)=(q:Int)+2:=by omega
   dsimp only
   rw [e];exact hgp
  ·rw [hPP]
   dsimp only
   rw [←h7,zad,zef hsq' hg,hout,zad,htt,asm,g7q,t1,t2,←z1,←z2]
   simp [tms,hM.tm]
  ·dsimp only
   omega
  ·have:=hM.len
   dsimp only
   omega
  ·dsimp only;omega
  ·rw [hn']
  ·dsimp only
   rw [eX,hn']
  ·dsimp only
   rw [eY,hkf,hn']
 ·have hdr:ps.drop i=[]:=List.drop_eq_nil_of_le (by omega)
  rw [hdr,asm] at h7
  have hsl:((ids.drop at_).take (ids.length - at_)).length=ids.length - at_:=by simp
  have hslk:(((kys S ids).drop at_).take (ids.length - at_)).length=ids.length - at_:=by simp [hkl]
  have hfull:(ids.drop at_).take (ids.length - at_)=ids.drop at_:=List.take_of_length_le (by simp)
  have hsq:Seq S (ids.drop at_):=hs.drop _
  have hkk:kys S1 ((ids.drop at_).take (ids.length - at_))=((kys S ids).drop at_).take (ids.length - at_):=by
   rw [hfull,zeg hsq h3,List.take_of_length_le (by simp [hkl])];simp [kys,List.map_drop]
  have htt:tms S1 ((ids.drop at_).take (ids.length - at_))=(tms S ids).drop at_:=by
   rw [hfull,zef hsq h3];simp [tms,List.map_drop]
  obtain ⟨out',hout⟩:∃ o,o=out++(ids.drop at_).take (ids.length - at_):=⟨_,rfl⟩
  have ho1:out'.length=out.length+(ids.length - at_):=by rw [hout,g6q,hsl]
  have hsq':Seq S1 out':=by rw [hout,hfull];exact h4.append (hsq.grow h3)
  have sA:=zdt (k:=.i64) (X:=out) (Z:=ids) (Y:=(ids.drop at_).take (ids.length - at_)) (m:=out.length) rfl
  have sB:=zdt (k:=.u64) (X:=kys S1 out) (Z:=kys S ids) (Y:=((kys S ids).drop at_).take (ids.length - at_)) (m:=out.length) hKl
  rw [hsl,←hout,←ho1] at sA
  have hk':kys S1 out'=kys S1 out++((kys S ids).drop at_).take (ids.length - at_):=by rw [hout,zae,hkk]
  rw [hslk,←hk',←ho1] at sB
  have pA:=zeR (k:=.i64) (X:=out) (Z:=ids) (m:=out.length) (l:=at_) (q:=ids.length - at_) rfl h8
  have pB:=zeR (k:=.u64) (X:=kys S1 out) (Z:=kys S ids) (m:=out.length) (l:=at_) (q:=ids.length - at_) hKl h8
  have lA:(zt .i64 (out++ids.drop out.length)).length=ids.length:=by rw [y7,uo rfl hm0]
  have lB:(zt .u64 (kys S1 out++(kys S ids).drop out.length)).length=ids.length:=by rw [y7,uo hKl (by omega),hkl]
  have rA:=fun {L:List Ent} {T:Nat} (h:zL 851 L=some ⟨a,ids.length,c,T,1,zt .i64 (out++ids.drop out.length)⟩)=>zk5 (w0:=w) (fp0:=fp) 851 h (l:=at_) (m:=ids.length - at_) (by rw [lA];omega)
  have rB:=fun {L:List Ent} {T:Nat} (h:zL 852 L=some ⟨a',ids.length,c',T,1,zt .u64 (kys S1 out++(kys S ids).drop out.length)⟩)=>zk5 (w0:=w) (fp0:=fp) 852 h (l:=at_) (m:=ids.length - at_) (by rw [lB];omega)
  rw [pA,Nat.mul_one] at rA
  rw [pB,Nat.mul_one] at rB
  have oA:=zf7 (k:=.i64) ((ids.drop at_).take (ids.length - at_))
  have oB:=zf7 (k:=.u64) (((kys S ids).drop at_).take (ids.length - at_))
  have hml:out.length+(ids.length - at_)=out'.length:=ho1.symm
  (repeat' ((conv=>whnf);first|rw [g7q]|rw [Nat.mul_one]|refine ⟨_,rA rfl,oA,?_⟩|refine ⟨_,rB rfl,oB,?_⟩|rw [sA]|rw [sB]|rw [hml]|refine ⟨.sl 851 _ _ _,⟨rfl,rfl,rfl,rfl⟩,?_⟩|refine ⟨.sl 852 _ _ _,⟨rfl,rfl,rfl,rfl⟩,?_⟩|refine ⟨.vie 851 a _ c,⟨rfl,trivial⟩,?_⟩|refine ⟨.vie 852 a' _ c',⟨rfl,trivial⟩,?_⟩|refine zg ?_|refine xJ ?_ ?_|((first|apply zb|apply za|apply zc)<;>intro h<;>try (exfalso;omega))|refine pay ?_|refine And.intro (by first|exact hne|exact hne'|exact ⟨rfl,rfl,rfl,rfl,by omega,by omega⟩|exact fun _=>Ref.refl _|exact fun _=>Thin.ref (by (repeat (first|exact Thin.nil _|exact Thin.refl _|refine Thin.keep rfl (fun _ h=>h) ?_|refine Thin.skip ?_)))|exact Thin.ref (by (repeat (first|exact Thin.nil _|exact Thin.refl _|refine Thin.keep rfl (fun _ h=>h) ?_|refine Thin.skip ?_)))) ?_|intro _));(all_goals (conv=>whnf))
  all_goals try (exfalso;omega)
  have hrow:Row S S1 out' (ql (tms S ids) l):=⟨h2,h3,hsq',by rw [hout,zad,htt];exact h7,by rw [hout];exact h5.more _⟩
  refine ⟨⟨_,Ref.takes [78,77,3000,851,852] rfl (.keep rfl (fun _ h=>h) (.keep rfl (fun _ h=>h) (.keep rfl (fun _ h=>h) (.cut (m:=out'.length) (by omega) ?_ (.cut (m:=out'.length) (by omega) ?_ (.nil _)))))),S1,out',a,a',c,c',g1,g2,hrow,by omega,rfl,rfl⟩⟩
  ·rw [Nat.mul_one,zt,←List.map_take,List.take_left];rfl
  ·rw [Nat.mul_one,zt,←List.map_take,show out'.length=(kys S1 out').length from (xO _ _).symm,List.take_left];rfl
structure OfG where
 lev:Nat
 S:Sto
 ids:List Int
 a:Option Addr
 a':Option Addr
 c:Nat
 c':Nat
 f1:List Nat
 f2:List Nat
 to:Nat
structure OfI (S0:Sto) (t:List Nat) (B:Nat) (x:OfG):Prop where
 wf:WF x.S
 grow:Grow S0 x.S
 seq:Seq x.S x.ids
 tms:tms x.S x.ids=zx t (x.lev - 1)
 pos:1<=x.lev/\x.lev<=x.to
 most:x.S.E.length+x.ids.length<=B
 past:∀ j,j<x.lev - 1->1<(zx t j).length
 to_:x.to+300*x.ids.length<=300*t.length+300
 near:x.to<=x.lev+246
 soon:2<=x.ids.length->(zG x.to (zx t (x.lev - 1))).length<(zx t (x.lev - 1)).length
 out:Out S0 x.S t
theorem OfI.len {S0:Sto} {t:List Nat} {B:Nat} {x:OfG} (h:OfI S0 t B x):x.ids.length=(zx t (x.lev - 1)).length:=by rw [←h.tms,ziU]
theorem OfI.next {S0:Sto} {t:List Nat} {B:Nat} {x:OfG} (h:OfI S0 t B x) (h2:2<=x.ids.length) {S2:Sto} {ids2:List Int} (hr:Row x.S S2 ids2 (zG x.lev (zx t (x.lev - 1)))) (hm:S2.E.length+ids2.length<=B) :
 ∃ to,∀ a a' c c' f1 f2,OfI S0 t B ⟨x.lev+1,S2,ids2,a,a',c,c',f1,f2,to⟩/\ids2.length*1000+(to - (x.lev+1))<x.ids.length*1000+(x.to - x.lev):=by
 have hl:=h.len
 have hp:=h.pos
 have hlv:x.lev=(x.lev - 1)+1:=by omega
 have hseq:zx t x.lev=zG x.lev (zx t (x.lev - 1)):=by
  conv=>lhs;rw [hlv,zx]
  rw [←hlv]
 have hl2:ids2.length=(zG x.lev (zx t (x.lev - 1))).length:=by rw [←hr.tms,ziU]
 have hpast:∀ j,j<x.lev+1 - 1->1<(zx t j).length:=fun j hj=>by
  by_cases h':j<x.lev - 1
  ·exact h.past j h'
  ·have:j=x.lev - 1:=by omega
   rw [this,←hl];omega
 have hout:Out S0 S2 t:=h.out.next hr.grow hr.news (k:=x.lev) (by rw [hr.tms,hseq])
 have hle:=zcH x.lev (zx t (x.lev - 1))
 have ht:=h.to_
 have hn:=h.near
 by_cases hs:(zG x.lev (zx t (x.lev - 1))).length<(zx t (x.lev - 1)).length
 ·by_cases h3:2<=ids2.length
  ·obtain ⟨T,k1,k2,k3⟩:=zv3 (ts:=zx t x.lev) (by rw [hseq,←hl2];exact h3) (x.lev+1) (by omega)
   refine ⟨T,fun a a' c c' f1 f2=>⟨⟨hr.wf,h.grow.trans hr.grow,hr.seq,?_,⟨by dsimp only;omega,k1⟩,hm,hpast,?_,k2,fun _=>?_,hout⟩,by omega⟩⟩
   ·dsimp only;rw [Nat.add_sub_cancel,hseq];exact hr.tms
   ·dsimp only;omega
   ·dsimp only;rw [Nat.add_sub_cancel];exact k3
  ·refine ⟨x.lev+1,fun a a' c c' f1 f2=>⟨⟨hr.wf,h.grow.trans hr.grow,hr.seq,?_,⟨by dsimp only;omega,Nat.le_refl _⟩,hm,hpast,?_,by dsimp only;omega,fun h'=>absurd h' h3,hout⟩,by omega⟩⟩
   ·dsimp only;rw [Nat.add_sub_cancel,hseq];exact hr.tms
   ·dsimp only;omega
 ·have he:=zsh hs
  have hto:x.lev<x.to:=by
   refine Nat.lt_of_le_of_ne hp.2 fun e=>?_
   have:=h.soon h2
   rw [←e] at this
   exact hs this
  refine ⟨x.to,fun a a' c c' f1 f2=>⟨⟨hr.wf,h.grow.trans hr.grow,hr.seq,?_,⟨by dsimp only;omega,hto⟩,hm,hpast,?_,by dsimp only;omega,fun _=>?_,hout⟩,by omega⟩⟩
  ·dsimp only;rw [Nat.add_sub_cancel,hseq];exact hr.tms
  ·dsimp only;omega
  ·dsimp only
   rw [Nat.add_sub_cancel,hseq,he]
   exact h.soon h2
def ofQ (bp bt bs:Nat) (S0:Sto) (t:List Nat) (v:Value) (L1:List Ent):Prop :=
 ∃ (S:Sto) (x:Int) (f1 f2:List Nat),WF S/\Grow S0 S/\(1<=x/\x<=S.E.length)/\Sig t (tm S.E x)/\S.E.length+1<=S0.E.length+2*t.length/\Out S0 S t/\v=.tuple #[.int .i64 x,.nilIface]/\L1=fP bp bt bs S f1 f2
abbrev ofL (bp bt bs b6:Nat) (S:Sto) (ids:List Int) (a a':Option Addr) (c c':Nat) (f1 f2:List Nat):List Ent:=fP bp bt bs S f1 f2++[.box 6 b6 [.slice a ids.length c,.slice a' ids.length c'] zC,.own 851 a ids.length c zr 1 (zt .i64 ids),.own 852 a' ids.length c' qI 1 (zt .u64 (kys S ids))]
theorem zpf (bp bt bs:Nat) (S0:Sto) (hw:WF S0) (t:List Nat) (hb:∀ x∈t,x<256) (hpos:0<t.length) (hl:t.length<=1000) (hroom:S0.E.length+2*t.length<=S0.most) (at_:Option Addr) (ct:Nat) (f1 f2 fp:List Nat) (w:World)
 (hR:R w fp (fP bp bt bs S0 f1 f2) w) (hG:qq w fp) (hin:In w fp at_ (xd t)) :
 Calls Tryz.prog qu #[pS bp,.slice at_ t.length ct] w fun e w'=>∃ v L1,e=.returned v/\R w fp L1 w'/\ofQ bp bt bs S0 t v L1:=by
 refine zf [.ptr 3000 bp 0,.v (.slice at_ t.length ct)] jJ (by simp) hR ?_
 have c1:=fun f1 f2 fp w hR hG hin=>znv bp bt bs S0 hw t hb (by omega) (by omega) at_ ct f1 f2 fp w hR hG hin
 (repeat' ((conv=>whnf);first|refine zg ?_|(refine zh [78,77,3000] rfl (fun w hR h0=>c1 _ _ _ w h0 (hG.castL hR) (hin.castL hR)) ?_;rintro _ _ ⟨S,ids,a,a',c,c',g1,g2,hrow,hlen,rfl,rfl⟩;refine ⟨.v _,rfl,?_⟩)|((first|apply zb|apply za|apply zc)<;>intro h<;>try (exfalso;omega))|refine pay ?_|intro _));(all_goals (conv=>whnf))
 all_goals try (exfalso;omega)
 rename_i b6
 have hids:ids.length=t.length:=by
  have:=congrArg List.length hrow.tms
  simpa [tms] using this
 have hout0:Out S0 S t:=(Out.refl S0 t).next hrow.grow hrow.news (k:=0) hrow.tms
 have h0:∃ to,OfI S0 t (S0.E.length+2*t.length) ⟨1,S,ids,a,a',c,c',g1,g2,to⟩:=by
  by_cases h2:2<=ids.length
  ·obtain ⟨T,k1,k2,k3⟩:=zv3 (ts:=zx t 0) (by rw [zx,g8q];omega) 1 (Nat.le_refl _)
   exact ⟨T,hrow.wf,hrow.grow,hrow.seq,hrow.tms,⟨Nat.le_refl _,k1⟩,hlen,fun j hj=>absurd hj (by simp),by dsimp only;omega,k2,fun _=>k3,hout0⟩
  ·exact ⟨1,hrow.wf,hrow.grow,hrow.seq,hrow.tms,⟨Nat.le_refl _,Nat.le_refl _⟩,hlen,fun j hj=>absurd hj (by simp),by dsimp only;omega,by dsimp only;omega,fun h=>absurd h h2,hout0⟩
 obtain ⟨to,h0⟩:=h0
 refine zP OfG (fun x=>[(0,.ptr 3000 bp 0),(6,.ptr 6 b6 0),(8,.v (.int .i64 x.lev))]) (fun x=>ofL bp bt bs b6 x.S x.ids x.a x.a' x.c x.c' x.f1 x.f2) (OfI S0 t (S0.E.length+2*t.length)) (fun x=>x.ids.length*1000+(x.to - x.lev)) ⟨1,S,ids,a,a',c,c',g1,g2,to⟩ h0 (by (repeat ((conv=>whnf);refine vS ?_));exact trivial) (Ref.takes [78,77,3000,6,851,852] rfl (.refl _)) ?_
 clear h0 hrow hlen hids
 rintro ⟨lev,S,ids,a,a',c,c',g1,g2,to⟩ hI
 have hnx:=fun (S2:Sto) (ids2:List Int) h=>OfI.next (S2:=S2) (ids2:=ids2) hI h
 have htt:=hI.tms
 have hll:=hI.len
 have hps:=zee hpos (lev - 1)
 have hsl:=hI.pos
 have hto:=hI.to_
 have hmm:=hI.most
 have hgr:=hI.grow.most
 have htx:(zF (tms S ids)).length<=65536:=by rw [htt,vm];omega
 dsimp only at hnx htt hll hps hsl hto hmm hgr ⊢
 by_cases h2:2<=ids.length
 ·by_cases hodd:lev%2=1
  ·have hst:zG lev (zx t (lev - 1))=vk (tms S ids):=by rw [zG,if_pos hodd,htt]
   rw [hst] at hnx
   (repeat' ((conv=>whnf);first|refine zg ?_|(refine zh [78,77,3000,851,852] rfl (fun w hR h0=>zsm bp bt bs S hI.wf ids hI.seq (by omega) (by omega) htx (S0.E.length+2*t.length) hmm (by omega) a a' c c' _ _ _ w h0 (hG.castL hR)) ?_;rintro _ _ ⟨S2,ids2,b1,b2,d1,d2,k1,k2,hrow,hlen,rfl,rfl⟩;refine ⟨.v _,rfl,?_⟩)|((first|apply zb|apply za|apply zc)<;>intro h<;>try (exfalso;omega))|refine pay ?_|intro _));(all_goals (conv=>whnf))
   all_goals try (exfalso;omega)
   obtain ⟨to2,hn⟩:=hnx S2 ids2 h2 hrow hlen
   exact zm ⟨lev+1,S2,ids2,b1,b2,d1,d2,k1,k2,to2⟩ (hn _ _ _ _ _ _).1 (hn b1 b2 d1 d2 k1 k2).2 (by (repeat ((conv=>whnf);refine vS ?_));exact trivial) (Ref.takes [78,77,3000,6,851,852] rfl (.refl _))
  ·have hst:zG lev (zx t (lev - 1))=ql (tms S ids) lev:=by rw [zG,if_neg hodd,htt]
   rw [hst] at hnx
   (repeat' ((conv=>whnf);first|refine zg ?_|(refine zh [78,77,3000,851,852] rfl (fun w hR h0=>zqw bp bt bs S hI.wf ids hI.seq (by omega) (by omega) htx lev (by omega) (S0.E.length+2*t.length) hmm (by omega) a a' c c' _ _ _ w h0 (hG.castL hR)) ?_;rintro _ _ ⟨S2,ids2,b1,b2,d1,d2,k1,k2,hrow,hlen,rfl,rfl⟩;refine ⟨.v _,rfl,?_⟩)|((first|apply zb|apply za|apply zc)<;>intro h<;>try (exfalso;omega))|refine pay ?_|intro _));(all_goals (conv=>whnf))
   all_goals try (exfalso;omega)
   obtain ⟨to2,hn⟩:=hnx S2 ids2 h2 hrow hlen
   exact zm ⟨lev+1,S2,ids2,b1,b2,d1,d2,k1,k2,to2⟩ (hn _ _ _ _ _ _).1 (hn b1 b2 d1 d2 k1 k2).2 (by (repeat ((conv=>whnf);refine vS ?_));exact trivial) (Ref.takes [78,77,3000,6,851,852] rfl (.refl _))
 ·have h1:ids.length=1:=by omega
  obtain ⟨x,rfl⟩:=List.length_eq_one_iff.1 h1
  have r1:(zt .i64 [x])[0]?=some (.int .i64 x):=rfl
  (repeat' ((conv=>whnf);first|refine zB r1 ?_|refine ⟨.sl 851 _ _ _,⟨rfl,rfl,rfl,rfl⟩,?_⟩|refine zg ?_|((first|apply zb|apply za|apply zc)<;>intro h<;>try (exfalso;omega))|refine pay ?_|intro _));(all_goals (conv=>whnf))
  all_goals try (exfalso;omega)
  exact ⟨⟨_,Ref.takes [78,77,3000] rfl (.refl _),S,x,g1,g2,hI.wf,hI.grow,hI.seq x (by simp),⟨lev - 1,htt.symm,hI.past⟩,by simp only [List.length_cons,List.length_nil] at hmm;omega,hI.out,rfl,rfl⟩⟩
theorem ztJ (bp bt bs:Nat) (S0:Sto) (at_:Option Addr) (ct:Nat) (f1 f2 fp:List Nat) (w:World) (hR:R w fp (fP bp bt bs S0 f1 f2) w) :
 Calls Tryz.prog qu #[pS bp,.slice at_ 0 ct] w fun e w'=>∃ v L1,e=.returned v/\R w fp L1 w'/\(v=.tuple #[.int .i64 0,.nilIface]/\∃ f1 f2,L1=fP bp bt bs S0 f1 f2):=by
 refine zf [.ptr 3000 bp 0,.v (.slice at_ 0 ct)] jJ (by simp) hR ?_
 (repeat' ((conv=>whnf);first|refine zg ?_|((first|apply zb|apply za|apply zc)<;>intro h<;>try (exfalso;omega))|refine pay ?_|intro _));(all_goals (conv=>whnf))
 all_goals try (exfalso;omega)
 exact ⟨⟨_,Ref.refl _,rfl,f1,f2,rfl⟩⟩
def nwP (bs:Nat) (S:Sto) (v:Value) (L1:List Ent):Prop:=∃ bp bt f1,v=pS bp/\L1=[packE 78 f1 (fT bt bs S.E),.box 3000 bp [pS bs,pS bt] yD]
theorem zla (bs:Nat) (S:Sto) (w:World):Calls Tryz.prog uI #[pS bs] w fun e w'=>∃ v L1,e=.returned v/\R w [] L1 w'/\nwP bs S v L1:=by
 refine zbO [.v (pS bs)] zjT (by simp) ?_
 have c1:=zsc bs S.E 78
 (repeat' ((conv=>whnf);first|(refine vD (fun w hR=>c1 w) ?_;rintro _ _ ⟨bn,fpn,rfl,rfl⟩;refine ⟨.v _,rfl,?_⟩)|((first|apply zb|apply za|apply zc)<;>intro h<;>try (exfalso;omega))|refine pay ?_|intro _));(all_goals (conv=>whnf))
 rename_i b
 exact ⟨⟨[packE 78 fpn (fT bn bs S.E),.box 3000 b [pS bs,pS bn] yD],Ref.takes [78,9] rfl (.keep rfl (fun _ h=>h) (.keep rfl (fun _ h=>h) (.nil _))),b,bn,fpn,rfl,rfl⟩⟩
end
section
open Go.EG
def zsn (n:Int):Tm->Tm
 | .nil=>.nil
 | .lt x=>.lt x
 | .pr a b=>if (Tm.pr a b).level<=n then .pr a b else if zsn n a=zsn n b then zsn n a else .nil
 | .pw a k=>if (Tm.pw a k).level<=n then .pw a k else zsn n a
theorem zbZ {n:Int} {m:Tm} (h:m.level<=n):qU n m=[m]:=by
 cases m with
 | nil=>rfl
 | lt x=>rfl
 | pr a b=>rw [qU,if_pos h]
 | pw a k=>rw [qU,if_pos h]
theorem zwE (a b:Tm):(Tm.pr a b).len=a.len+b.len:=by unfold Tm.len;rw [Tm.txt,g6q]
theorem zwF (a:Tm) (k:Nat):(Tm.pw a k).len=k*a.len:=by unfold Tm.len;rw [Tm.txt,qL]
def Pos:Tm->Prop
 | .nil=>False
 | .lt _=>True
 | .pr a b=>Pos a/\Pos b
 | .pw a k=>1<=k/\Pos a
theorem Pos.len:∀ {m:Tm},Pos m->1<=m.len
 | .nil,h=>h.elim
 | .lt x,_=>Nat.le_refl _
 | .pr a b,h=>by rw [zwE];have:=h.1.len;omega
 | .pw a k,h=>by rw [zwF];exact Nat.mul_pos h.1 h.2.len
theorem zvl (k:Nat) (ts:List Tm):zF (List.replicate k ts).flatten=rep k (zF ts):=by
 induction k with
 | zero=>rfl
 | succ k ih=>rw [List.replicate_succ,List.flatten_cons,qv,ih,vN]
theorem zb0 (n:Int):∀ m:Tm,zF (qU n m)=m.txt
 | .nil=>rfl
 | .lt x=>rfl
 | .pr a b => by
   rw [qU]
   split
   ·exact qJ _
   ·rw [qv,zb0 n a,zb0 n b,Tm.txt]
 | .pw a k => by
   rw [qU]
   split
   ·exact qJ _
   ·rw [zvl,zb0 n a,Tm.txt]
theorem zhf (n:Int):∀ {m:Tm},Pos m->∀ x∈qU n m,Pos x
 | .nil,h=>h.elim
 | .lt y,h=>fun x hx=>by rw [qU,List.mem_singleton] at hx;rw [hx];exact h
 | .pr a b,h => fun x hx => by
   rw [qU] at hx
   split at hx
   ·rw [List.mem_singleton] at hx;rw [hx];exact h
   ·rcases List.mem_append.1 hx with hx|hx
    ·exact zhf n h.1 x hx
    ·exact zhf n h.2 x hx
 | .pw a k,h => fun x hx => by
   rw [qU] at hx
   split at hx
   ·rw [List.mem_singleton] at hx;rw [hx];exact h
   ·obtain ⟨l,hl,hx⟩:=List.mem_flatten.1 hx
    rw [(List.mem_replicate.1 hl).2] at hx
    exact zhf n h.2 x hx
theorem zlb:∀ {ts:List Tm} {t:List Nat} {k:Nat},zx t k=ts->∀ j,j<=k->zx t j=ts.flatMap fun m=>zx m.txt j
 | [],t,k,h,j,hj => by
   have:=vm t k
   rw [h] at this
   have ht:t=[]:=this.symm
   subst ht
   rw [zbY];rfl
 | m :: ts,t,k,h,j,hj => by
   have h1:=zaf (u:=[m]) (v:=ts) h j hj
   have h2:=(kO (u:=[m]) (v:=ts) h).2
   rw [h1,qJ,zlb h2 j hj,List.flatMap_cons]
theorem ztK {t:List Nat} {k:Nat} (hk:k%2=1) {u v:List Tm} {a:Tm} (h:zx t k=u++a::a::v):False:=by
 have h1:=zij (t:=t) (k:=k) (u:=u) (v:=[a,a]) (w:=v) (by rw [h];simp)
 have h2:zx a.txt k=[a]:=zaK (t:=t) (by rw [h];simp)
 obtain ⟨L,e1,e2⟩:=kP (x7 h2) h2
 have:=zhd (e:=a) (n:=2) (Nat.le_refl _) (t:=zF [a,a]) (k:=k) h1 e1 e2
 omega
theorem vF {l:Nat} (h:l%2=1) (ts:List Tm):zG l ts=vk ts:=if_pos h
theorem yb {l:Nat} (h:l%2=0) (ts:List Tm):zG l ts=ql ts l:=if_neg (by omega)
theorem zvm {t:List Nat} {x y:Tm} {n:Nat} (hn:n%2=0) (h:∀ j,n+1<=j->j<=n+246->zx t j=[x,y]):False:=by
 by_cases hxy:x=y
 ·subst hxy
  exact ztK (k:=n+1) (by omega) (u:=[]) (v:=[]) (h (n+1) (Nat.le_refl _) (by omega))
 ·have hne:=zck (low:=((n+1:Nat):Int)) (x:=x.key) (y:=y.key) (by omega) (Nat.lt_of_lt_of_le x.key_lt (by decide)) (Nat.lt_of_lt_of_le y.key_lt (by decide))
  have hok:=zec (n+1) x.key y.key
  have hle:=zif ((n+1:Nat):Int) x.key y.key (by omega)
  generalize kH ((n+1:Nat):Int) x.key y.key=A at *
  obtain ⟨f1,f2,f3⟩:((n+1:Nat):Int)<A/\A<=((n+1:Nat):Int)+246/\zA x.key y.key A=true:=by
   have:=hok.some (by omega)
   exact ⟨this.1,this.2.1,this.2.2.1⟩
  have hev:qr A=true:=by
   unfold zA at f3
   exact (Bool.and_eq_true_iff.1 f3).1
  have hev2:2<=A/\A%2=0:=by unfold qr at hev;simpa using hev
  obtain ⟨j,hj⟩:∃ j:Nat,A=((j+1:Nat):Int):=⟨(A - 1).toNat,by omega⟩
  have h1:=h j (by omega) (by omega)
  have h2:=h (j+1) (by omega) (by omega)
  rw [hj] at f3
  rw [zx,h1,yb (by omega),ym f3,kV] at h2
  simp at h2
def zpg (f:Tm->Nat):List Tm->Prop
 | a::b::r=>¬(f a=1/\f b=1)/\zpg f (b::r)
 | _=>True
theorem zjq {f:Tm->Nat}:∀ {ts:List Tm},(∀ m∈ts,1<=f m)->zpg f ts->3*ts.length<=2*(ts.map f).sum+1/\((∀ m,ts.head?=some m->2<=f m)->3*ts.length<=2*(ts.map f).sum)
 | [],_,_=>⟨by simp,fun _=>by simp⟩
 | [a],h,_ => by
   have:=h a g5q
   simp only [List.length_cons,List.length_nil,List.map_cons,List.map_nil,List.sum_cons,List.sum_nil,List.head?_cons,g3q]
   exact ⟨by omega,fun k=>by have:=k a rfl;omega⟩
 | a :: b :: r,h,hA => by
   obtain ⟨i1,i2⟩:=zjq (ts:=b::r) (fun m hm=>h m (g4q _ hm)) hA.2
   have h1:=h a g5q
   have h2:=h b (by simp)
   have h3:=hA.1
   rw [List.map_cons,List.sum_cons,List.length_cons]
   refine ⟨?_,fun k=>?_⟩
   ·by_cases ha:f a=1
    ·have:=i2 fun m hm=>by
      simp only [List.head?_cons,g3q] at hm
      subst hm
      have:f b≠1:=fun hb=>h3 ⟨ha,hb⟩
      omega
     omega
    ·omega
   ·have:=k a rfl
    omega
theorem zph (f:Tm->List Tm):∀ ts:List Tm,(ts.flatMap f).length=(ts.map fun m=>(f m).length).sum
 | []=>rfl
 | m::ts=>by rw [List.flatMap_cons,g6q,zph f ts,List.map_cons,List.sum_cons]
theorem zjr {n k:Nat} (hn:n%2=0) (hk:n+246=k):∀ {ts:List Tm} {t:List Nat},zx t k=ts->zpg (fun m=>(zx m.txt (n+1)).length) ts
 | [],_,_=>trivial
 | [_],_,_=>trivial
 | a :: b :: r,t,h => by
   refine ⟨fun hc=>?_,zjr hn hk (t:=zF (b::r)) (kO (u:=[a]) (v:=b::r) h).2⟩
   obtain ⟨ha,hb⟩:=hc
   have ka:zx a.txt k=[a]:=zaK (t:=t) (by rw [h];simp)
   have kb:zx b.txt k=[b]:=zaK (t:=t) (by rw [h];simp)
   have hab:=zij (t:=t) (k:=k) (u:=[]) (v:=[a,b]) (w:=r) (by rw [h];simp)
   have one:∀ {c:Tm},zx c.txt k=[c]->(zx c.txt (n+1)).length=1->∀ j,n+1<=j->zx c.txt j=[c]:=fun {c} k1 k2 j hj=>by
    obtain ⟨x,hx⟩:=List.length_eq_one_iff.1 k2
    have h1:=xA hx k (by omega)
    rw [k1] at h1
    rw [h1]
    exact xA hx j hj
   refine zvm (t:=zF [a,b]) (x:=a) (y:=b) hn fun j j1 j2=>?_
   have:=zaf (u:=[a]) (v:=[b]) hab j (by omega)
   rw [qJ,qJ,one ka ha j j1,one kb hb j j1] at this
   exact this
theorem zrt (t:List Nat) {n k:Nat} (hn:n%2=0) (hk:n+246=k):3*(zI (zx t k)).length<=2*(zI (zx t n)).length+1:=by
 have h1:=(zbX (zx t k)).1
 have h2:(zI (zx t n)).length=(zx t (n+1)).length:=by rw [zx,vF (by omega),vl]
 have h3:=zlb (t:=t) (k:=k) rfl (n+1) (by omega)
 have h4:=(zjq (fun m hm=>?_) (zjr hn hk (t:=t) rfl)).1
 ·rw [h2,h3,zph]
  omega
 ·have:=zaK hm
  exact zee (x7 this) _
theorem zm2 (x y:Tm) (r:List Tm):zI (x::y::r)=match zI (y::r) with
 | []=>[(x,1)]
 | (z,t)::q=>if x=z then (z,t+1)::q else (x,1)::(z,t)::q:=rfl
theorem zej {x y:Tm} {r:List Tm} (h:x≠y):zI (x::y::r)=(x,1)::zI (y::r):=by
 obtain ⟨t,q,e⟩:=uM y r
 rw [zm2,e];simp only;rw [if_neg h]
theorem zdv {x:Tm} {t:Nat} {r:List Tm} {q:List (Tm × Nat)} (h:zI (x::r)=(x,t)::q):zI (x::x::r)=(x,t+1)::q:=by
 rw [zm2,h];simp
theorem zag (x y:Tm) (r:List Tm):(zI (x::y::r)).length=(zI (y::r)).length+if x=y then 0 else 1:=by
 by_cases h:x=y
 ·subst h
  obtain ⟨t,q,e⟩:=uM x r
  rw [zdv e,e,if_pos rfl];simp
 ·rw [zej h,if_neg h];rfl
theorem zpi:∀ {P:List Tm} {z:Tm} {Q:List Tm},P.getLast?≠some z->zI (P++z::Q)=zI P++zI (z::Q)
 | [],z,Q,h=>rfl
 | [x],z,Q,h => by
   have hx:x≠z:=fun e=>h (by simp [e])
   rw [List.cons_append,List.nil_append,zej hx];rfl
 | x :: y :: P,z,Q,h => by
   have ih:=zpi (P:=y::P) (z:=z) (Q:=Q) (by simpa [List.getLast?_cons_cons] using h)
   obtain ⟨t,q,e⟩:=uM y P
   rw [List.cons_append] at ih
   rw [List.cons_append,List.cons_append]
   by_cases hxy:x=y
   ·subst hxy
    rw [zdv e,zdv (t:=t) (q:=q++zI (z::Q)) (by rw [ih,e];rfl)];rfl
   ·rw [zej hxy,zej hxy,ih];rfl
theorem zlc:∀ (P:List Tm) (z:Tm) (Q:List Tm),(zI (P++z::z::Q)).length<(zI (P++[z])).length+(zI (z::Q)).length
 | [],z,Q => by
   have:(zI [z]).length=1:=rfl
   rw [List.nil_append,zag,if_pos rfl,List.nil_append];omega
 | [x],z,Q => by
   have h1:(zI [z]).length=1:=rfl
   have h2:=zag z z Q
   rw [if_pos rfl] at h2
   simp only [List.cons_append,List.nil_append]
   rw [zag x z,zag x z]
   omega
 | x :: y :: P,z,Q => by
   have ih:=zlc (y::P) z Q
   simp only [List.cons_append] at ih ⊢
   rw [zag x y,zag x y]
   omega
def Cut (l:Nat) (P Q:List Tm):Prop:=zG l (P++Q)=zG l P++zG l Q
theorem Cut.nilL (l:Nat) (Q:List Tm):Cut l [] Q:=by unfold Cut;rw [zeV];rfl
theorem Cut.nilR (l:Nat) (P:List Tm):Cut l P []:=by unfold Cut;rw [zeV,List.append_nil,List.append_nil]
theorem Cut.odd {l:Nat} (hl:l%2=1) {P:List Tm} {z:Tm} {Q:List Tm} (h:P.getLast?≠some z):Cut l P (z::Q):=by
 unfold Cut
 rw [vF hl,vF hl,vF hl,vk,zpi h,List.map_append];rfl
theorem Cut.odd_ne {l:Nat} (hl:l%2=1) {P:List Tm} {z:Tm} {Q:List Tm} (h:Cut l P (z::Q)):P.getLast?≠some z:=fun hz=>by
 obtain ⟨P0,rfl⟩:=List.getLast?_eq_some_iff.1 hz
 have h1:=congrArg List.length h
 rw [vF hl,vF hl,vF hl,g6q,vl,vl,vl] at h1
 have h2:=zlc P0 z Q
 simp only [List.append_assoc,List.cons_append,List.nil_append] at h1
 omega
theorem zxu (x y:Tm):Tm.pr x y≠x:=fun h=>by
 have:=congrArg SizeOf.sizeOf h
 simp only [Tm.pr.sizeOf_spec] at this
 omega
section
variable {l:Nat} (hl:l%2=0)
theorem Cut.take (hl:l%2=0) {x y:Tm} {P Q:List Tm} (hf:zA x.key y.key l=true):Cut l (x::y::P) Q↔Cut l P Q:=by
 unfold Cut
 rw [yb hl,yb hl,yb hl,yb hl,yb hl,List.cons_append,List.cons_append,ym hf,ym hf,List.cons_append,List.cons.injEq]
 exact ⟨fun h=>h.2,fun h=>⟨rfl,h⟩⟩
theorem Cut.skip (hl:l%2=0) {x y:Tm} {P Q:List Tm} (hf:zA x.key y.key l=false):Cut l (x::y::P) Q↔Cut l (y::P) Q:=by
 unfold Cut
 rw [yb hl,yb hl,yb hl,yb hl,yb hl,List.cons_append,List.cons_append,kN hf,kN hf,List.cons_append,List.cons.injEq]
 exact ⟨fun h=>h.2,fun h=>⟨rfl,h⟩⟩
theorem Cut.single (hl:l%2=0) {x z:Tm} {Q:List Tm}:Cut l [x] (z::Q)↔zA x.key z.key l=false:=by
 unfold Cut
 rw [yb hl,yb hl,yb hl,uz,List.cons_append,List.nil_append]
 cases hf:zA x.key z.key l with
 | true =>
   rw [ym hf]
   refine ⟨fun h=>?_,fun h=>by cases h⟩
   rw [List.cons_append,List.cons.injEq] at h
   exact absurd h.1 (zxu x z)
 | false=>rw [kN hf];exact ⟨fun _=>rfl,fun _=>rfl⟩
theorem Cut.even_head (hl:l%2=0) {z:Tm} {Q Q':List Tm}:∀ (n:Nat) {P:List Tm},P.length<=n->Cut l P (z::Q)->Cut l P (z::Q')
 | _,[],_,_=>Cut.nilL _ _
 | _,[x],_,h=>(Cut.single hl).2 ((Cut.single hl).1 h)
 | 0,_::_::_,hn,_=>by simp at hn
 | n + 1,x :: y :: P,hn,h => by
   simp only [List.length_cons] at hn
   cases hf:zA x.key y.key l with
   | true=>exact (Cut.take hl hf).2 (Cut.even_head hl n (by omega) ((Cut.take hl hf).1 h))
   | false=>exact (Cut.skip hl hf).2 (Cut.even_head hl n (by simp only [List.length_cons];omega) ((Cut.skip hl hf).1 h))
theorem Cut.nofit (hl:l%2=0) {z:Tm} {Q:List Tm}:∀ (n:Nat) {P:List Tm},P.length<=n->(∀ x,P.getLast?=some x->zA x.key z.key l=false)->Cut l P (z::Q)
 | _,[],_,_=>Cut.nilL _ _
 | _,[x],_,h=>(Cut.single hl).2 (h x rfl)
 | 0,_::_::_,hn,_=>by simp at hn
 | n + 1,x :: y :: P,hn,h => by
   simp only [List.length_cons] at hn
   have h':∀ a,(y::P).getLast?=some a->zA a.key z.key l=false:=fun a ha=>h a (by rw [List.getLast?_cons_cons];exact ha)
   cases hf:zA x.key y.key l with
   | true =>
     refine (Cut.take hl hf).2 (Cut.nofit hl n (by omega) fun a ha=>h' a ?_)
     cases P with
     | nil=>simp at ha
     | cons b P=>rw [List.getLast?_cons_cons];exact ha
   | false=>exact (Cut.skip hl hf).2 (Cut.nofit hl n (by simp only [List.length_cons];omega) h')
theorem Cut.paired (hl:l%2=0) {Q:List Tm}:∀ (n:Nat) {P P':List Tm} {m:Tm},P.length<=n->ql P l=P'++[m]->P.getLast?≠some m->Cut l P Q
 | _,[],_,_,_,_,_=>Cut.nilL _ _
 | _,[x],P',m,_,h,hm => by
   rw [uz] at h
   cases P' with
   | nil=>simp at h;exact absurd (by rw [←h];rfl) hm
   | cons a P'=>simp at h
 | 0,_::_::_,_,_,hn,_,_=>by simp at hn
 | n + 1,x :: y :: P,P',m,hn,h,hm => by
   simp only [List.length_cons] at hn
   cases hf:zA x.key y.key l with
   | true =>
     rw [ym hf] at h
     cases P with
     | nil=>exact (Cut.take hl hf).2 (Cut.nilL _ _)
     | cons b P =>
       cases P' with
       | nil =>
         simp only [List.nil_append,List.cons.injEq] at h
         have:=zcG (ts:=b::P) (l:=l) (by simp)
         rw [h.2] at this;simp at this
       | cons a P' =>
         rw [List.cons_append,List.cons.injEq] at h
         exact (Cut.take hl hf).2 (Cut.paired hl n (by omega) h.2 (by rw [List.getLast?_cons_cons,List.getLast?_cons_cons] at hm;exact hm))
   | false =>
     rw [kN hf] at h
     cases P' with
     | nil =>
       simp only [List.nil_append,List.cons.injEq] at h
       have:=zcG (ts:=y::P) (l:=l) (by simp)
       rw [h.2] at this;simp at this
     | cons a P' =>
       rw [List.cons_append,List.cons.injEq] at h
       exact (Cut.skip hl hf).2 (Cut.paired hl n (by simp only [List.length_cons];omega) h.2 (by rw [List.getLast?_cons_cons] at hm;exact hm))
end
theorem Cut.head {l:Nat} {P Q Q':List Tm} {z:Tm} (h:Cut l P (z::Q)):Cut l P (z::Q'):=by
 by_cases hl:l%2=1
 ·exact Cut.odd hl (Cut.odd_ne hl h)
 ·exact Cut.even_head (by omega) P.length (Nat.le_refl _) h
theorem zwG {P Q a b:List Tm} (hp:∀ x∈P++Q,0<x.txt.length) (h:P++Q=a++b) (ht:(zF P).length=(zF a).length):P=a/\Q=b:=by
 have none:∀ c:List Tm,(∀ x∈c,0<x.txt.length)->(zF c).length=0->c=[]:=fun c hc h0=>by
  cases c with
  | nil=>rfl
  | cons x c =>
    rw [qM,g6q] at h0
    have:=hc x g5q
    omega
 rcases List.append_eq_append_iff.1 h with ⟨c,h1,h2⟩|⟨c,h1,h2⟩
 ·have:c=[]:=none c (fun x hx=>hp x (by rw [h2];simp [hx])) (by rw [h1,qv,g6q] at ht;omega)
  subst this
  simp only [List.append_nil,List.nil_append] at h1 h2
  exact ⟨h1.symm,h2⟩
 ·have:c=[]:=none c (fun x hx=>hp x (by rw [h1];simp [hx])) (by rw [h1,qv,g6q] at ht;omega)
  subst this
  simp only [List.append_nil,List.nil_append] at h1 h2
  exact ⟨h1,h2.symm⟩
theorem zm3 {l:Nat} {P Q P' Q':List Tm} (hp:∀ x∈P++Q,0<x.txt.length) (h:zG l (P++Q)=P'++Q') (ht:zF P'=zF P):zG l P=P'/\zG l Q=Q'/\Cut l P Q:=by
 obtain ⟨a,b,h1,h2,h3⟩:=zfr h
 have h4:zF a=zF P:=by rw [←ht,←h2,jP]
 obtain ⟨rfl,rfl⟩:=zwG hp h1 (by rw [h4])
 exact ⟨h2,h3,by unfold Cut;rw [h,h2,h3]⟩
def ap (bh:Bool) (A B:List Tm):List Tm:=match bh with
 | false=>A++B
 | true=>B++A
theorem jR (bh:Bool) (A B C:List Tm):ap bh (ap bh A B) C=ap bh A (ap bh B C):=by cases bh<;>simp [ap]
theorem zbn (bh:Bool) (A:List Tm):ap bh A []=A:=by cases bh<;>simp [ap]
theorem zf8 (bh:Bool) (A:List Tm):ap bh [] A=A:=by cases bh<;>simp [ap]
theorem zld (bh:Bool) (m n:Nat) (x:Tm):ap bh (List.replicate m x) (List.replicate n x)=List.replicate (m+n) x:=by
 cases bh<;>simp [ap,List.replicate_append_replicate,Nat.add_comm]
abbrev Fr:=Tm × Nat
def zy:Tm->Nat
 | .pr _ _=>2
 | .pw _ k=>k
 | _=>0
def jx (bh:Bool):Fr->List Tm
 | (.pr a b,h)=>if h=2 then [bif bh then b else a] else []
 | (.pw a _,h)=>List.replicate (h - 1) a
 | _=>[]
def kQ (bh:Bool):Fr->Tm
 | (.pr a b,h)=>bif decide (h=2) == bh then a else b
 | (.pw a _,_)=>a
 | (m,_)=>m
def zeW (bh:Bool):Fr->List Tm
 | (.pr a b,h)=>if h=2 then [] else [bif bh then a else b]
 | (.pw a k,h)=>List.replicate (k - h) a
 | _=>[]
def okF (f:Fr):Prop:=1<=f.2/\f.2<=zy f.1
def ex (j:Nat) (ts:List Tm):List Tm:=ts.flatMap (qU j)
theorem zdw (bh:Bool) (j:Nat) (a b:List Tm):ex j (ap bh a b)=ap bh (ex j a) (ex j b):=by cases bh<;>simp [ap,ex]
theorem zbo (j:Nat) (a:Tm):ex j [a]=qU j a:=by simp [ex]
theorem zpj (j n:Nat) (a:Tm):ex j (List.replicate n a)=(List.replicate n (qU j a)).flatten:=by
 induction n with
 | zero=>rfl
 | succ n ih=>rw [List.replicate_succ,List.replicate_succ,List.flatten_cons,←ih];simp [ex]
theorem zf9 (j:Nat):∀ ts:List Tm,zF (ex j ts)=zF ts
 | []=>rfl
 | x::ts=>by rw [qM,←zf9 j ts,show ex j (x::ts)=qU j x++ex j ts by simp [ex],qv,zb0]
theorem zil {bh:Bool} {j:Nat} {f:Fr} (h:okF f) (hj:j<f.1.level):qU j f.1=ex j (ap bh (ap bh (jx bh f) [kQ bh f]) (zeW bh f)):=by
 obtain ⟨m,c⟩:=f
 obtain ⟨h1,h2⟩:=h
 dsimp only at h1 h2 hj ⊢
 cases m with
 | nil=>simp only [zy] at h2;omega
 | lt x=>simp only [zy] at h2;omega
 | pr a b =>
   simp only [zy] at h2
   rw [qU,if_neg (by omega)]
   by_cases h3:c=2
   ·cases bh<;>simp [jx,kQ,zeW,h3,ap,ex]
   ·cases bh<;>simp [jx,kQ,zeW,h3,ap,ex]
 | pw a k =>
   simp only [zy] at h2
   rw [qU,if_neg (by omega)]
   simp only [jx,kQ,zeW]
   rw [show [a]=List.replicate 1 a from rfl,zld,zld,zpj,show c - 1+1+(k - c)=k by omega]
def vP (bh:Bool):List Fr->List Tm
 | []=>[]
 | f::fs=>ap bh (jx bh f) (vP bh fs)
def uN (bh:Bool):List Fr->List Tm
 | []=>[]
 | f::fs=>ap bh (uN bh fs) (zeW bh f)
def left (bh:Bool) (j:Nat) (fs:List Fr) (x:Tm):List Tm:=ex j (ap bh (vP bh fs) [x])
def chain (bh:Bool):Tm->List Fr->Tm->Prop
 | T,[],x=>T=x
 | T,f::fs,x=>T=f.1/\chain bh (kQ bh f) fs x
theorem zeX {bh:Bool} {j:Nat}:∀ {fs:List Fr} {T x:Tm},chain bh T fs x->(∀ f∈fs,okF f/\j<f.1.level)->qU j T=ap bh (left bh j fs x) (ex j (uN bh fs))
 | [],T,x,h,_ => by
   simp only [chain] at h
   subst h
   simp [left,vP,uN,zf8,zbo,ex,zbn]
 | f :: fs,T,x,h,hf => by
   obtain ⟨rfl,h⟩:=h
   have ih:=zeX (j:=j) h fun g hg=>hf g (g4q _ hg)
   obtain ⟨h1,h2⟩:=hf f g5q
   rw [zil (bh:=bh) h1 h2,zdw,zdw,zbo,ih]
   unfold left
   simp only [vP,uN,zdw,zbo,jR]
theorem chain_snoc {bh:Bool} {f:Fr} {x:Tm}:∀ {fs:List Fr} {T:Tm},chain bh T (fs++[f]) x↔chain bh T fs f.1/\kQ bh f=x
 | [],T=>by simp [chain]
 | g::fs,T=>by simp only [List.cons_append,chain,chain_snoc (fs:=fs),and_assoc]
theorem za1 {bh:Bool} {f:Fr}:∀ {fs:List Fr},vP bh (fs++[f])=ap bh (vP bh fs) (jx bh f)
 | []=>by simp [vP,zbn,zf8]
 | g::fs=>by simp only [List.cons_append,vP,za1 (fs:=fs),jR]
theorem zm4 {bh:Bool} {f:Fr}:∀ {fs:List Fr},uN bh (fs++[f])=ap bh (zeW bh f) (uN bh fs)
 | []=>by simp [uN,zbn,zf8]
 | g::fs=>by simp only [List.cons_append,uN,zm4 (fs:=fs),jR]
theorem zle {a b:Tm} (h:0<=(Tm.pr a b).level):a.level<(Tm.pr a b).level/\b.level<(Tm.pr a b).level/\0<=a.level/\0<=b.level/\a≠b/\zA a.key b.key (Tm.pr a b).level=true:=by
 have e:(Tm.pr a b).level=if a≠b/\0<=a.level/\0<=b.level then kH (max a.level b.level) a.key b.key else -1:=rfl
 rw [e] at h ⊢
 split at h
 ·rename_i hc
  rw [if_pos hc]
  obtain ⟨hn,ha,hb⟩:=hc
  have hm:max a.level b.level=((max a.level b.level).toNat:Int):=by omega
  have hne:=zck (low:=max a.level b.level) (x:=a.key) (y:=b.key) (by omega) (Nat.lt_of_lt_of_le a.key_lt (by decide)) (Nat.lt_of_lt_of_le b.key_lt (by decide))
  have hok:=zec (max a.level b.level).toNat a.key b.key
  rw [←hm] at hok
  obtain ⟨a1,a2,a3,a4⟩:=hok.some hne
  exact ⟨by omega,by omega,ha,hb,hn,a3⟩
 ·omega
theorem ztL {a:Tm} {k:Nat} (h:0<=(Tm.pw a k).level):(Tm.pw a k).level=a.level+1/\0<=a.level/\a.level%2=0:=by
 have e:(Tm.pw a k).level=if 0<=a.level/\a.level%2=0 then a.level+1 else -1:=rfl
 rw [e] at h ⊢
 split at h
 ·rename_i hc
  rw [if_pos hc];exact ⟨rfl,hc⟩
 ·omega
theorem ztM {x y l:Int} (h:zA x y l=true):l%2=0:=by
 unfold zA at h
 have:=(Bool.and_eq_true_iff.1 h).1
 unfold qr at this
 simp at this
 omega
theorem zvn {a b:Tm} (h:0<=(Tm.pr a b).level):(Tm.pr a b).level%2=0:=ztM (zle h).2.2.2.2.2
theorem zwH {a:Tm} {k:Nat} (h:0<=(Tm.pw a k).level):(Tm.pw a k).level%2=1:=by have:=ztL h;omega
theorem zru {bh:Bool} {f:Fr} (h:0<=f.1.level) (ho:okF f):0<=(kQ bh f).level/\(kQ bh f).level<f.1.level:=by
 obtain ⟨m,n⟩:=f
 cases m with
 | nil=>have:=ho.1;have:=ho.2;simp only [zy] at *;omega
 | lt x=>have:=ho.1;have:=ho.2;simp only [zy] at *;omega
 | pr a b =>
   have:=zle h
   simp only [kQ]
   cases hc:(decide (n=2) == bh)<;>simp only [cond_true,cond_false]<;>omega
 | pw a k=>have:=ztL h;simp only [kQ];omega
theorem zrv {bh:Bool} {f:Fr} (h:Pos f.1) (ho:okF f):Pos (kQ bh f):=by
 obtain ⟨m,n⟩:=f
 cases m with
 | nil=>exact h.elim
 | lt x=>exact h
 | pr a b =>
   simp only [kQ]
   cases hc:(decide (n=2) == bh)<;>simp only [cond_true,cond_false]
   ·exact h.2
   ·exact h.1
 | pw a k=>exact h.2
structure Sd (bh:Bool) (T:Tm) (j:Nat) (fs:List Fr) (x:Tm):Prop where
 chain:chain bh T fs x
 ok:∀ f∈fs,okF f/\j<f.1.level
 lvd:0<=x.level
 low:∀ f∈fs,x.level<f.1.level
 down:fs.Pairwise fun f g=>g.1.level<f.1.level
 pos:Pos x
theorem Sd.whole {bh:Bool} {T:Tm} (j:Nat) (h:0<=T.level) (hp:Pos T):Sd bh T j [] T :=
 ⟨rfl,fun f hf=>by simp at hf,h,fun f hf=>by simp at hf,.nil,hp⟩
theorem zm5 {x:Tm} (hp:Pos x) (h:0<x.level):1<=zy x:=by
 cases x with
 | nil=>exact hp.elim
 | lt c=>simp [Tm.level] at h
 | pr a b=>simp [zy]
 | pw a k=>exact hp.1
theorem zhg {bh:Bool} {m:Tm}:zeW bh (m,zy m)=[]:=by cases m<;>simp [zeW,zy]
theorem Sd.open {bh:Bool} {T:Tm} {j:Nat} {fs:List Fr} {x:Tm} (h:Sd bh T j fs x) (hx:j<x.level) :
 Sd bh T j (fs++[(x,zy x)]) (kQ bh (x,zy x))/\left bh j (fs++[(x,zy x)]) (kQ bh (x,zy x))=left bh j fs x:=by
 have ho:okF (x,zy x):=⟨zm5 h.pos (by omega),Nat.le_refl _⟩
 have hk:=zru (bh:=bh) (f:=(x,zy x)) (by simp only;omega) ho
 refine ⟨⟨chain_snoc.2 ⟨h.chain,rfl⟩,fun f hf=>?_,hk.1,fun f hf=>?_,?_,zrv h.pos ho⟩,?_⟩
 ·rw [List.mem_append,List.mem_singleton] at hf
  rcases hf with hf|rfl
  ·exact h.ok f hf
  ·exact ⟨ho,hx⟩
 ·rw [List.mem_append,List.mem_singleton] at hf
  rcases hf with hf|rfl
  ·have:=h.low f hf;have:=hk.2;simp only at this;omega
  ·exact hk.2
 ·rw [List.pairwise_append]
  exact ⟨h.down,List.pairwise_singleton _ _,fun f hf g hg=>by rw [List.mem_singleton] at hg;subst hg;exact h.low f hf⟩
 ·unfold left
  have e:=zil (bh:=bh) (j:=j) ho hx
  rw [zhg,zbn] at e
  rw [za1,jR,zdw,←e,zdw,zbo]
def zco (bh:Bool) (f:Fr) (n:Nat):List Tm:=match f.1 with
 | .pw a _=>List.replicate (f.2 - n) a
 | _=>jx bh f
def okN (f:Fr) (n:Nat):Prop:=1<=n/\n<=f.2/\(zy f.1=2->n=1∨∃ a k,f.1=.pw a k)/\((∃ a b,f.1=.pr a b)->n=1)
theorem ztN {bh:Bool} {f:Fr}:zco bh f 1=jx bh f:=by
 obtain ⟨m,n⟩:=f
 cases m<;>rfl
def zfs (bh:Bool) (j:Nat) (fs:List Fr) (f:Fr) (n:Nat):List Tm:=ex j (ap bh (vP bh fs) (zco bh f n))
theorem Sd.part {bh:Bool} {T:Tm} {j:Nat} {fs:List Fr} {f:Fr} {n:Nat} (hc:Go.Proofs.YtdcbghoalnlcmaaGreatDoor.chain bh T fs f.1) (hok:∀ g∈fs++[f],okF g/\j<g.1.level) (hd:(fs++[f]).Pairwise fun f g=>g.1.level<f.1.level) (hp:Pos f.1) (hn:okN f n) (hlt:n<f.2) :
 Sd bh T j (fs++[(f.1,f.2 - n)]) (kQ bh (f.1,f.2 - n))/\left bh j (fs++[(f.1,f.2 - n)]) (kQ bh (f.1,f.2 - n))=zfs bh j fs f n:=by
 obtain ⟨m,c⟩:=f
 dsimp only at hc hp hlt ⊢
 obtain ⟨n1,n2,n3,n4⟩:=hn
 dsimp only at n1 n2 n4
 obtain ⟨o1,o2⟩:=hok (m,c) (by simp)
 have ho:okF (m,c - n):=⟨by dsimp only;omega,by have:=o1.2;dsimp only at this ⊢;omega⟩
 have hk:=zru (bh:=bh) (f:=(m,c - n)) (by dsimp only at o2 ⊢;omega) ho
 have hdp:=List.pairwise_append.1 hd
 refine ⟨⟨chain_snoc.2 ⟨hc,rfl⟩,fun g hg=>?_,hk.1,fun g hg=>?_,?_,zrv hp ho⟩,?_⟩
 ·rw [List.mem_append,List.mem_singleton] at hg
  rcases hg with hg|rfl
  ·exact hok g (by simp [hg])
  ·exact ⟨ho,o2⟩
 ·rw [List.mem_append,List.mem_singleton] at hg
  rcases hg with hg|rfl
  ·have:=hdp.2.2 g hg (m,c) (by simp)
   have:=hk.2
   dsimp only at *;omega
  ·exact hk.2
 ·rw [List.pairwise_append]
  exact ⟨hdp.1,List.pairwise_singleton _ _,fun g hg f' hf'=>by rw [List.mem_singleton] at hf';subst hf';exact hdp.2.2 g hg (m,c) (by simp)⟩
 ·unfold left zfs
  rw [za1,jR]
  congr 2
  cases m with
  | nil=>simp [Tm.level] at o2;omega
  | lt y=>simp [Tm.level] at o2;omega
  | pr a b =>
    have:=n4 ⟨a,b,rfl⟩
    subst this
    have hc2:c=2:=by have:=o1.2;simp only [zy] at this;omega
    subst hc2
    cases bh<;>simp [zco,jx,kQ,ap]
  | pw a k =>
    simp only [zco,jx,kQ]
    rw [show [a]=List.replicate 1 a from rfl,zld]
    congr 1;omega
theorem zvo {bh:Bool} {j:Nat} {fs:List Fr} {f:Fr} {n:Nat} (hn:okN f n) (ho:okF f) (he:n=f.2):zfs bh j fs f n=ex j (vP bh fs):=by
 obtain ⟨m,c⟩:=f
 obtain ⟨n1,n2,n3,n4⟩:=hn
 dsimp only at *
 unfold zfs
 congr 1
 cases m with
 | nil=>simp [zco,jx,zbn]
 | lt y=>simp [zco,jx,zbn]
 | pr a b =>
   have:=n4 ⟨a,b,rfl⟩
   simp only [zco,jx]
   rw [if_neg (by omega),zbn]
 | pw a k=>simp only [zco];rw [show c - n=0 by omega];simp [zbn]
theorem zso {bh:Bool} {j:Nat} {fs:List Fr} {g:Fr}:ex j (vP bh (fs++[g]))=zfs bh j fs g 1:=by
 unfold zfs
 rw [za1,ztN]
def Closed (l:Nat) (fs:List Fr):Prop:=∀ f∈fs,f.1.level=l->f.2=zy f.1
def Is (T:Tm):Prop:=0<=T.level/\Pos T/\∀ j,zG (j+1) (qU (j:Int) T)=qU ((j+1:Nat):Int) T
theorem Is.sig {t:List Nat} {T:Tm} (h:Sig t T) (hp:Pos T):Is T:=by
 obtain ⟨L,h1,h2⟩:=h
 refine ⟨by have:=za0 T h1 h2;omega,hp,fun j=>?_⟩
 rw [zhe T h1 h2,zhe T h1 h2];rfl
theorem zwI {j:Int} {T:Tm} (h:Pos T):∀ x∈qU j T,0<x.txt.length:=fun x hx=>(zhf j h x hx).len
theorem zm6 {bh:Bool} {T:Tm} (hT:Is T) {j:Nat} {fs fs':List Fr} {x x':Tm} (h:Sd bh T j fs x) (h':Sd bh T (j+1) fs' x') (hg:ex (j+1) (uN bh fs')=ex (j+1) (uN bh fs)) (ht:zF (ap bh (vP bh fs') [x'])=zF (ap bh (vP bh fs) [x])) :
 zG (j+1) (left bh j fs x)=left bh (j+1) fs' x'/\(bh=false->Cut (j+1) (left bh j fs x) (ex j (uN bh fs)))/\(bh=true->Cut (j+1) (ex j (uN bh fs)) (left bh j fs x)):=by
 have h1:=hT.2.2 j
 have h0:=zwI (j:=(j:Int)) hT.2.1
 rw [zeX h'.chain h'.ok,hg] at h1
 rw [zeX h.chain h.ok] at h1 h0
 cases bh with
 | false =>
   simp only [ap] at h1 h0
   obtain ⟨k1,k2,k3⟩:=zm3 h0 h1 (by unfold left;rw [zf9,zf9];exact ht)
   exact ⟨k1,(fun _=>k3),fun h=>by cases h⟩
 | true =>
   simp only [ap] at h1 h0
   obtain ⟨k1,k2,k3⟩:=zm3 h0 h1 (by rw [zf9,zf9])
   exact ⟨k2,(fun h=>by cases h),fun _=>k3⟩
theorem Sd.up {bh:Bool} {T:Tm} (hT:Is T) {j:Nat} {fs:List Fr} {f:Fr} {x:Tm} (h:Sd bh T j (fs++[f]) x) (hf:f.1.level=((j+1:Nat):Int)) (hw:f.2=zy f.1) (hp:Pos f.1) :
 Sd bh T (j+1) fs f.1/\zG (j+1) (left bh j (fs++[f]) x)=left bh (j+1) fs f.1/\(bh=false->Cut (j+1) (left bh j (fs++[f]) x) (ex j (uN bh (fs++[f]))))/\(bh=true->Cut (j+1) (ex j (uN bh (fs++[f]))) (left bh j (fs++[f]) x)):=by
 obtain ⟨m,c⟩:=f
 dsimp only at hf hw hp ⊢
 subst hw
 have hdp:=List.pairwise_append.1 h.down
 have hS:Sd bh T (j+1) fs m:=⟨(chain_snoc.1 h.chain).1,fun g hg=>⟨(h.ok g (by simp [hg])).1,by have:=hdp.2.2 g hg (m,zy m) (by simp);dsimp only at this;omega⟩,by omega,fun g hg=>hdp.2.2 g hg (m,zy m) (by simp),hdp.1,hp⟩
 refine ⟨hS,zm6 hT h hS ?_ ?_⟩
 ·rw [zm4,zhg,zf8]
 ·have e:=zil (bh:=bh) (j:=j) (f:=(m,zy m)) (h.ok (m,zy m) (by simp)).1 (by dsimp only;omega)
  have e2:=(chain_snoc.1 h.chain).2
  rw [zhg,zbn,e2] at e
  have e3:=zb0 (j:Int) m
  dsimp only at e
  rw [e,zf9] at e3
  have key:∀ A B:List Tm,zF A=zF B->zF (ap bh (vP bh fs) A)=zF (ap bh (vP bh fs) B):=fun A B hAB=>by
   cases bh<;>simp only [ap,qv,hAB]
  rw [za1,jR]
  exact key _ _ (by rw [e3,qJ])
theorem Sd.stay {bh:Bool} {T:Tm} (hT:Is T) {j:Nat} {fs:List Fr} {x:Tm} (h:Sd bh T j fs x) (hf:∀ f∈fs,f.1.level≠((j+1:Nat):Int)) :
 Sd bh T (j+1) fs x/\zG (j+1) (left bh j fs x)=left bh (j+1) fs x/\(bh=false->Cut (j+1) (left bh j fs x) (ex j (uN bh fs)))/\(bh=true->Cut (j+1) (ex j (uN bh fs)) (left bh j fs x)):=by
 have hS:Sd bh T (j+1) fs x:=⟨h.chain,fun g hg=>⟨(h.ok g hg).1,by have:=(h.ok g hg).2;have:=hf g hg;omega⟩,h.lvd,h.low,h.down,h.pos⟩
 exact ⟨hS,zm6 hT h hS rfl rfl⟩
structure It where
 i:Int
 n:Int
 t:Nat
def exI (S:Sto) (x:It):List Tm:=if x.n=0 then List.replicate x.t (tm S.E x.i) else (List.replicate x.t [tm S.E x.i,tm S.E x.n]).flatten
def exM (S:Sto) (M:List It):List Tm:=M.flatMap (exI S)
structure ItOk (S:Sto) (x:It):Prop where
 i1:1<=x.i
 i2:x.i<=S.E.length
 n1:0<=x.n
 n2:x.n<=S.E.length
 t1:1<=x.t
 key:x.n≠0->(tm S.E x.n).key=(tm S.E x.i).key
theorem zb1 (S:Sto):exM S []=[]:=rfl
theorem yT (S:Sto) (x:It) (M:List It):exM S (x::M)=exI S x++exM S M:=by simp [exM]
theorem qN (S:Sto) (M N:List It):exM S (M++N)=exM S M++exM S N:=by simp [exM]
theorem xw (S:Sto) (x:It):exM S [x]=exI S x:=by simp [exM]
theorem xm {S:Sto} {x:It} (h:x.n=0):exI S x=List.replicate x.t (tm S.E x.i):=if_pos h
theorem za2 {S:Sto} (x:It):(exI S x).length=if x.n=0 then x.t else 2*x.t:=by
 unfold exI
 split
 ·simp
 ·have:∀ n,((List.replicate n [tm S.E x.i,tm S.E x.n]).flatten).length=2*n:=fun n=>by
   induction n with
   | zero=>rfl
   | succ n ih=>rw [List.replicate_succ,List.flatten_cons,g6q,ih];simp;omega
  exact this _
theorem zpk {S S':Sto} {x:It} (h:ItOk S x) (g:Grow S S'):exI S' x=exI S x:=by
 unfold exI
 rw [g.tm h.i2,g.tm h.n2]
theorem ItOk.grow {S S':Sto} {x:It} (h:ItOk S x) (g:Grow S S'):ItOk S' x:=by
 have:=g.len
 have:=h.i2
 have:=h.n2
 exact ⟨h.i1,by omega,h.n1,by omega,h.t1,by rw [g.tm h.i2,g.tm h.n2];exact h.key⟩
theorem kC {S S':Sto} {M:List It} (h:∀ x∈M,ItOk S x) (g:Grow S S'):exM S' M=exM S M:=by
 induction M with
 | nil=>rfl
 | cons x M ih=>rw [yT,yT,zpk (h x g5q) g,ih fun y hy=>h y (g4q _ hy)]
theorem zek {S:Sto} {x:It} (h:ItOk S x):∃ r,exI S x=tm S.E x.i::r:=by
 obtain ⟨k,hk⟩:∃ k,x.t=k+1:=⟨x.t - 1,by have:=h.t1;omega⟩
 unfold exI
 rw [hk]
 split<;>(rw [List.replicate_succ];exact ⟨_,rfl⟩)
theorem zvp {S:Sto} {x:It} (h:ItOk S x):(exI S x).getLast?=some (tm S.E (if x.n=0 then x.i else x.n)):=by
 obtain ⟨k,hk⟩:∃ k,x.t=k+1:=⟨x.t - 1,by have:=h.t1;omega⟩
 unfold exI
 rw [hk]
 split
 ·rw [List.replicate_succ',List.getLast?_append];rfl
 ·rw [List.replicate_succ',List.flatten_append,List.getLast?_append];rfl
def yO (l:List It) (i:Int) (t:Nat):List It:=match l.getLast? with
 | some y=>if y.i=i then l.dropLast++[⟨y.i,y.n,y.t+t⟩] else l++[⟨i,0,t⟩]
 | none=>l++[⟨i,0,t⟩]
theorem zpl {α:Type} {l:List α} {y:α} (h:l.getLast?=some y):l=l.dropLast++[y]:=by
 obtain ⟨p,rfl⟩:=List.getLast?_eq_some_iff.1 h
 rw [List.dropLast_concat]
def Adj:List It->Prop
 | x::y::l=>x.i≠y.i/\Adj (y::l)
 | _=>True
theorem zpm:∀ {l:List It} {y:It},Adj l->(∀ x,l.getLast?=some x->x.i≠y.i)->Adj (l++[y])
 | [],_,_,_=>trivial
 | [x],y,_,h=>⟨h x rfl,trivial⟩
 | x::z::l,y,h,k=>⟨h.1,zpm (l:=z::l) h.2 fun a ha=>k a (by rw [List.getLast?_cons_cons];exact ha)⟩
theorem zpn:∀ {l:List It} {y y':It},y.i=y'.i->Adj (l++[y])->Adj (l++[y'])
 | [],_,_,_,_=>trivial
 | [x],y,y',e,h=>⟨by rw [←e];exact h.1,trivial⟩
 | x::z::l,y,y',e,h=>⟨h.1,zpn (l:=z::l) e h.2⟩
structure PushOk (S:Sto) (l:List It):Prop where
 ok:∀ x∈l,ItOk S x
 one:∀ x∈l,x.n=0
 adj:Adj l
theorem PushOk.nil (S:Sto):PushOk S []:=⟨fun x h=>by simp at h,fun x h=>by simp at h,trivial⟩
theorem PushOk.grow {S S':Sto} {l:List It} (h:PushOk S l) (g:Grow S S'):PushOk S' l:=⟨fun x hx=>(h.ok x hx).grow g,h.one,h.adj⟩
theorem vQ {S:Sto} {l:List It} (h:PushOk S l) {i:Int} {t:Nat} (h1:1<=i) (h2:i<=S.E.length) (ht:1<=t):PushOk S (yO l i t)/\exM S (yO l i t)=exM S l++List.replicate t (tm S.E i):=by
 have hz:ItOk S ⟨i,0,t⟩:=⟨h1,h2,Int.le_refl _,by dsimp only;omega,ht,fun h=>absurd rfl h⟩
 have hx:exI S ⟨i,0,t⟩=List.replicate t (tm S.E i):=if_pos rfl
 unfold yO
 split
 ·rename_i y hy
  have hl:=zpl hy
  have hym:y∈l:=List.mem_of_getLast? hy
  have hy1:=h.ok y hym
  have hy0:=h.one y hym
  split
  ·rename_i he
   have hn:ItOk S ⟨y.i,y.n,y.t+t⟩:=⟨hy1.i1,hy1.i2,hy1.n1,hy1.n2,by dsimp only;omega,hy1.key⟩
   refine ⟨⟨fun x hx=>?_,fun x hx=>?_,?_⟩,?_⟩
   ·rw [List.mem_append,List.mem_singleton] at hx
    rcases hx with hx|rfl
    ·exact h.ok x (List.dropLast_subset _ hx)
    ·exact hn
   ·rw [List.mem_append,List.mem_singleton] at hx
    rcases hx with hx|rfl
    ·exact h.one x (List.dropLast_subset _ hx)
    ·exact hy0
   ·have:=h.adj
    rw [hl] at this
    exact zpn (y:=y) rfl this
   ·conv=>rhs;rw [hl]
    rw [qN,qN,xw,xw,List.append_assoc]
    congr 1
    rw [xm (x:=⟨y.i,y.n,y.t+t⟩) hy0,xm hy0,←he]
    simp only [List.replicate_append_replicate]
  ·rename_i he
   refine ⟨⟨fun x hx=>?_,fun x hx=>?_,zpm h.adj fun x hx=>?_⟩,by rw [qN,xw,hx]⟩
   ·rw [List.mem_append,List.mem_singleton] at hx
    rcases hx with hx|rfl
    ·exact h.ok x hx
    ·exact hz
   ·rw [List.mem_append,List.mem_singleton] at hx
    rcases hx with hx|rfl
    ·exact h.one x hx
    ·rfl
   ·rw [hy] at hx
    simp only [g3q] at hx
    subst hx
    exact he
 ·rename_i hn
  have:l=[]:=by simpa using hn
  subst this
  exact ⟨⟨fun x hx=>by simp at hx;rw [hx];exact hz,fun x hx=>by simp at hx;rw [hx],trivial⟩,by rw [List.nil_append,xw,hx];rfl⟩
theorem zhh (m:Tm):∀ (n:Nat) {ts:List Tm},(∀ y,ts.head?=some y->y≠m)->zI (List.replicate (n+1) m++ts)=(m,n+1)::zI ts
 | 0,ts,h => by
   cases ts with
   | nil=>rfl
   | cons y ts=>exact zej fun e=>h y rfl e.symm
 | n + 1,ts,h => by
   have ih:=zhh m n h
   rw [List.replicate_succ,List.cons_append] at ih
   rw [List.replicate_succ,List.replicate_succ,List.cons_append,List.cons_append]
   exact zdv ih
theorem zjZ {S:Sto} (hw:WF S):∀ {l:List It},(∀ x∈l,ItOk S x)->(∀ x∈l,x.n=0)->Adj l->zI (exM S l)=l.map fun x=>(tm S.E x.i,x.t)
 | [],_,_,_=>rfl
 | [x],ho,h1,_ => by
   obtain ⟨k,hk⟩:∃ k,x.t=k+1:=⟨x.t - 1,by have:=(ho x g5q).t1;omega⟩
   rw [xw,xm (h1 x g5q),hk]
   have:=zhh (tm S.E x.i) k (ts:=[]) fun y hy=>by cases hy
   rw [List.append_nil] at this
   rw [this]
   simp [hk];rfl
 | x :: y :: l,ho,h1,ha => by
   obtain ⟨k,hk⟩:∃ k,x.t=k+1:=⟨x.t - 1,by have:=(ho x g5q).t1;omega⟩
   have hx:=ho x g5q
   have hy:=ho y (by simp)
   have hne:∀ z,(exM S (y::l)).head?=some z->z≠tm S.E x.i:=by
    intro z hz
    obtain ⟨r,hr⟩:=zek hy
    rw [yT,hr] at hz
    simp only [List.cons_append,List.head?_cons,g3q] at hz
    rw [←hz]
    exact fun he=>ha.1 ((hw.inj_iff hx.i1 hx.i2 hy.i1 hy.i2).1 he.symm)
   rw [yT,xm (h1 x g5q),hk,zhh _ _ hne,zjZ hw (l:=y::l) (fun z hz=>ho z (g4q _ hz)) (fun z hz=>h1 z (g4q _ hz)) ha.2,List.map_cons,List.map_cons,List.map_cons,hk]
end
end Go.Proofs.YtdcbghoalnlcmaaGreatDoor
