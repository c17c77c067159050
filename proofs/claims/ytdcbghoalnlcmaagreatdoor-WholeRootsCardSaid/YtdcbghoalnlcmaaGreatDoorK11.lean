/- How a pair level merges what was moved. The program. -/
import Derived.Test.YtdcbghoalnlcmaaGreatDoorK10
import Derived.Test.YtdcbghoalnlcmaaGreatDoorK5
import Derived.Test.YtdcbghoalnlcmaaGreatDoorK4
import Derived.Test.YtdcbghoalnlcmaaGreatDoorK7
import Derived.Test.YtdcbghoalnlcmaaGreatDoorK9
import Derived.Shelf.SlGeneric
import Derived.Ground.SlgmProg
import Derived.Shelf.SortM.Plain
import Derived.Test.YtdcbghoalnlcmaaGreatDoorProg
import Derived.Shelf.SortM.SortNone
set_option linter.unusedSectionVars false
set_option linter.unusedVariables false
set_option linter.unusedSimpArgs false
namespace Go.Proofs.YtdcbghoalnlcmaaGreatDoor
section
open Go.EG
attribute [local irreducible] z8 yN Go.Calls
set_option maxRecDepth 20000
set_option maxHeartbeats 4000000
structure PaI (S S':Sto) (j:Nat) (M l:List It) (i:Nat):Prop where
 wf:WF S'
 grow:Grow S S'
 le:i<=M.length
 ok:PushOk S' l
 ex:exM S' l++ql (exM S (M.drop i)) j=ql (exM S M) j
 cnt:S'.E.length+(exM S' l).length+(exM S (M.drop i)).length<=S.E.length+(exM S M).length
theorem PaI.start {S:Sto} (hw:WF S) (j:Nat) (M:List It):PaI S S j M [] 0:=⟨hw,Grow.refl S,Nat.zero_le _,PushOk.nil S,rfl,by simp [zb1]⟩
def it1 (S:Sto) (M:List It):Prop:=∀ y∈M,ItOk S y/\y.n=0/\y.t=1
theorem zb9 {S:Sto} {M:List It} (hM:it1 S M) {i:Nat} (hi:i<M.length):exM S (M.drop i)=tm S.E (M.getD i it0).i::exM S (M.drop (i+1)):=by
 obtain ⟨h1,h2,h3⟩:=hM _ (qR hi)
 rw [jY hi,yT,xm h2,h3];rfl
theorem PaI.one {S S':Sto} {j:Nat} {M l:List It} {i:Nat} (h:PaI S S' j M l i) (hM:it1 S M) (hi:i<M.length)
 (hs:i+1=M.length∨zA (tm S.E (M.getD i it0).i).key (tm S.E (M.getD (i+1) it0).i).key j=false):PaI S S' j M (yO l (M.getD i it0).i 1) (i+1):=by
 obtain ⟨h1,h2,h3⟩:=hM _ (qR hi)
 have hg:=h1.grow h.grow
 obtain ⟨p1,p2⟩:=vQ h.ok hg.i1 hg.i2 (Nat.le_refl 1)
 have hd:=zb9 hM hi
 have he:tm S'.E (M.getD i it0).i=tm S.E (M.getD i it0).i:=h.grow.tm h1.i2
 have hp:ql (exM S (M.drop i)) j=tm S.E (M.getD i it0).i::ql (exM S (M.drop (i+1))) j:=by
  by_cases hl:i+1=M.length
  ·rw [hd,hl,List.drop_length,zb1,uz,kV]
  ·rcases hs with hs|hs
   ·exact absurd hs hl
   ·have hd2:=zb9 hM (show i+1<M.length by omega)
    rw [hd,hd2,kN hs]
 refine ⟨h.wf,h.grow,hi,p1,?_,?_⟩
 ·rw [p2,List.append_assoc,←h.ex,hp,he];rfl
 ·have:=h.cnt
  rw [hd,List.length_cons] at this
  rw [p2,g6q,List.length_replicate];omega
theorem PaI.two {S S' S2:Sto} {j:Nat} {M l:List It} {i:Nat} {z:Int} (h:PaI S S' j M l i) (hM:it1 S M) (hi:i+1<M.length) (hf:zA (tm S.E (M.getD i it0).i).key (tm S.E (M.getD (i+1) it0).i).key j=true)
 (hz:Made S' S2 z (.pr (tm S'.E (M.getD i it0).i) (tm S'.E (M.getD (i+1) it0).i))):PaI S S2 j M (yO l z 1) (i+1+1):=by
 obtain ⟨h1,h2,h3⟩:=hM _ (qR (show i<M.length by omega))
 obtain ⟨k1,k2,k3⟩:=hM _ (qR hi)
 have hd:=zb9 hM (show i<M.length by omega)
 have hd2:=zb9 hM hi
 have hok:=h.ok.grow hz.grow
 obtain ⟨p1,p2⟩:=vQ hok hz.pos hz.le (Nat.le_refl 1)
 have hm:=hz.tm
 rw [h.grow.tm h1.i2,h.grow.tm k1.i2] at hm
 refine ⟨hz.wf,h.grow.trans hz.grow,hi,p1,?_,?_⟩
 ·rw [p2,List.append_assoc,kC h.ok.ok hz.grow,←h.ex,hd,hd2,ym hf,hm];rfl
 ·have:=h.cnt
  have:=hz.len
  rw [hd,hd2,List.length_cons,List.length_cons] at *
  rw [p2,g6q,List.length_replicate,kC h.ok.ok hz.grow];omega
theorem PaI.fin {S S':Sto} {j:Nat} (hj:j%2=0) {M l:List It} (h:PaI S S' j M l M.length):MrgQ S S' j M l:=by
 have he:=h.ex
 have hc:=h.cnt
 rw [List.drop_length,zb1] at he hc
 rw [kV,List.append_nil] at he
 refine ⟨h.wf,h.grow,fun y hy=>⟨h.ok.ok y hy,h.ok.one y hy,fun h=>by omega⟩,?_,by simpa using hc⟩
 rw [he,zG,if_neg (by omega)]
theorem PaI.len {S S':Sto} {j:Nat} {M l:List It} {i:Nat} (h:PaI S S' j M l i):l.length<=(exM S M).length/\∀ y∈l,y.t<=(exM S M).length:=by
 have h1:=h.cnt
 have h2:=h.grow.len
 have h3:=vd h.ok.ok
 refine ⟨by omega,fun y hy=>?_⟩
 have:=zeo (S:=S') hy
 omega
theorem zvz {S:Sto} {M:List It} (hM:it1 S M) {i:Nat} (hi:i+1<M.length):(tm S.E (M.getD i it0).i).len+(tm S.E (M.getD (i+1) it0).i).len<=(zF (exM S M)).length:=by
 have hd:=zb9 hM (show i<M.length by omega)
 have hd2:=zb9 hM hi
 conv=>rhs;rw [←List.take_append_drop i M,qN,hd,hd2]
 rw [qv,qM,qM]
 simp only [g6q,Tm.len]
 omega
structure MpG where
 S:Sto
 l:List It
 a:Option Addr
 c:Nat
 i:Nat
 f1:List Nat
 f2:List Nat
theorem zkl (bp bt bs b:Nat) (u1 u2 u3 u4 u5 u6 u7 u8 u9 u10:Value) (S:Sto) (hw:WF S) (j:Nat) (hj:j%2=0) (hjl:j<=1000001) (aM:Option Addr) (M:List It) (cM:Nat) (hM:it1 S M) (hroom:S.E.length+(exM S M).length<=S.most) (hmost:S.most<=1048576) (hLM:(zF (exM S M)).length<=LM) (hn:(exM S M).length<=999999)
 (f1 f2 fp:List Nat) (w:World) (hR:R w fp (fP bp bt bs S f1 f2++[bxM b bp u1 u2 u3 u4 u5 u6 u7 u8 u9 u10 aM M.length cM,.own 5003 aM M.length cM zj 4 (its S M)]) w) (hG:qq w fp) :
 Calls Tryz.prog kg #[pS b,.int .i64 j] w fun e w'=>∃ v L1,e=.returned v/\R w fp L1 w' /\
  ∃ S' l a' c' g1 g2,MrgQ S S' j M l/\v=.tuple #[.slice a' l.length c',.nilIface]/\L1=fP bp bt bs S' g1 g2++[bxM b bp u1 u2 u3 u4 u5 u6 u7 u8 u9 u10 aM M.length cM,.own 5010 a' l.length c' zj 4 (its S' l)]:=by
 refine zf [.ptr 5000 b 0,.v (.int .i64 j)] zcR (by simp) hR ?_
 have hMl:M.length<=999999:=by
  have:=vd (M:=M) fun y hy=>(hM y hy).1
  omega
 (repeat' ((conv=>whnf);first|refine ⟨.sl 5003 _ _ _,⟨rfl,rfl,rfl,rfl⟩,?_⟩|refine zg ?_|((first|apply zb|apply za|apply zc)<;>intro h<;>try (exfalso;omega))|refine pay ?_|intro _));(all_goals (conv=>whnf))
 refine zP MpG (fun y=>[(0,.ptr 5000 b 0),(1,.v (.int .i64 j)),(6,.sl 5010 y.a y.l.length y.c),(8,.v (.int .i64 y.i))])
  (fun y=>fP bp bt bs y.S y.f1 y.f2++[bxM b bp u1 u2 u3 u4 u5 u6 u7 u8 u9 u10 aM M.length cM,.own 5003 aM M.length cM zj 4 (its S M),.own 5010 y.a y.l.length y.c zj 4 (its y.S y.l)])
  (fun y=>PaI S y.S j M y.l y.i) (fun y=>M.length - y.i) ⟨S,[],none,0,0,f1,f2⟩ (PaI.start hw j M) (by (repeat ((conv=>whnf);refine vS ?_));exact trivial) ((Ref.ownNil 5010 zj 4).trans (Ref.takes [78,77,3000,5000,5003,5010] rfl (.refl _))) ?_
 rintro ⟨S',l,a,c,i,g1,g2⟩ hI
 dsimp only at hI ⊢
 have hi1:=hI.le
 obtain ⟨hll,hlt⟩:=hI.len
 have hsm:=hI.wf.small
 by_cases hi:i<M.length
 ·obtain ⟨hx1,hx2,hx3⟩:=hM _ (qR hi)
  have hrow:=zgo S hi
  have e1:((i:Nat):Int).toNat=i:=g7q i
  have e2:((i:Nat):Int)+1=((i+1:Nat):Int):=by omega
  have e3:((i+1:Nat):Int).toNat=i+1:=g7q _
  rw [itC,hx2,hx3] at hrow
  have hkx:(tm S.E (M.getD i it0).i).key=(tm S'.E (M.getD i it0).i).key:=by rw [hI.grow.tm hx1.i2]
  by_cases hs:i+1=M.length∨zA (tm S.E (M.getD i it0).i).key (tm S.E (M.getD (i+1) it0).i).key j=false
  ·have hN:=hI.one hM hi hs
   have c3:=fun fp w hR=>zby S' l a c (M.getD i it0).i 1 (by omega) (fun y hy=>by have:=hlt y hy;omega) (by omega) fp w hR
   rw [←hkx] at c3
   by_cases hl:i+1=M.length
   ·clear hs
    generalize M.getD i it0=x at *
    (repeat' ((conv=>whnf);first|rw [e1]|rw [e2]|rw [e3]|refine ue hrow ?_|(refine zh [5010] rfl (fun w hR h=>c3 _ w h) ?_;rintro _ _ ⟨a',c',rfl,rfl⟩;refine ⟨.sl 5010 a' _ c',rfl,?_⟩)|refine ⟨.sl 5003 _ _ _,⟨rfl,rfl,rfl,rfl⟩,?_⟩|refine zg ?_|((first|apply zb|apply za|apply zc)<;>intro h<;>try (exfalso;omega))|refine pay ?_|refine And.intro (by first|exact ⟨rfl,by omega⟩) ?_|intro _));(all_goals (conv=>whnf))
    all_goals first|(exfalso;((try dsimp only at *);omega))|skip
    all_goals exact zm (⟨S',_,a',c',i+1,g1,g2⟩:MpG) hN (by dsimp only;omega) (by (repeat ((conv=>whnf);refine vS ?_));exact trivial) (Ref.takes [78,77,3000,5000,5003,5010] rfl (.refl _))
   ·have hs:=hs.resolve_left hl
    have ct:=fun w=>zcr (tm S.E (M.getD i it0).i).key (tm S.E (M.getD (i+1) it0).i).key (j:Int) w (zcT _) (zcT _) (by omega)
    rw [hs] at ct
    have r2:=zen S (M:=M) (i:=i+1) (by omega) 2 (by omega)
    generalize M.getD i it0=x at *
    generalize M.getD (i+1) it0=y at *
    (repeat' ((conv=>whnf);first|rw [e1]|rw [e2]|rw [e3]|refine ue hrow ?_|refine zB r2 ?_|(first|refine puK ct ?_|refine quK ct ?_)|(refine zh [5010] rfl (fun w hR h=>c3 _ w h) ?_;rintro _ _ ⟨a',c',rfl,rfl⟩;refine ⟨.sl 5010 a' _ c',rfl,?_⟩)|refine ⟨.sl 5003 _ _ _,⟨rfl,rfl,rfl,rfl⟩,?_⟩|refine zg ?_|((first|apply zb|apply za|apply zc)<;>intro h<;>try (exfalso;omega))|refine pay ?_|refine And.intro (by first|exact ⟨rfl,by omega⟩) ?_|intro _));(all_goals (conv=>whnf))
    all_goals first|(exfalso;((try dsimp only at *);omega))|skip
    all_goals exact zm (⟨S',_,a',c',i+1,g1,g2⟩:MpG) hN (by dsimp only;omega) (by (repeat ((conv=>whnf);refine vS ?_));exact trivial) (Ref.takes [78,77,3000,5000,5003,5010] rfl (.refl _))
  ·have hil:i+1<M.length:=by
    have:¬i+1=M.length:=fun h=>hs (.inl h)
    omega
   have hf:zA (tm S.E (M.getD i it0).i).key (tm S.E (M.getD (i+1) it0).i).key j=true:=by
    have:¬zA (tm S.E (M.getD i it0).i).key (tm S.E (M.getD (i+1) it0).i).key j=false:=fun h=>hs (.inr h)
    simpa using this
   obtain ⟨hy1,hy2,hy3⟩:=hM _ (qR hil)
   have hlb:=zvz hM hil
   have ct:=fun w=>zcr (tm S.E (M.getD i it0).i).key (tm S.E (M.getD (i+1) it0).i).key (j:Int) w (zcT _) (zcT _) (by omega)
   rw [hf] at ct
   have r0:=zen S (M:=M) (i:=i+1) (by omega) 0 (by omega)
   have r2:=zen S (M:=M) (i:=i+1) (by omega) 2 (by omega)
   have hxg:=hx1.grow hI.grow
   have hyg:=hy1.grow hI.grow
   have hroom':S'.E.length<S'.most:=by
    have h1:=hI.cnt
    have hd:=zb9 hM (show i<M.length by omega)
    rw [hd,List.length_cons] at h1
    rw [hI.grow.most];omega
   have hlb':(tm S'.E (M.getD i it0).i).len+(tm S'.E (M.getD (i+1) it0).i).len<=LM:=by
    rw [hI.grow.tm hx1.i2,hI.grow.tm hy1.i2];omega
   have hN:=fun S2 z h=>hI.two (S2:=S2) (z:=z) hM hil hf h
   have c3:=fun f1 f2 fp w hR hG=>zaj bp bt bs b [u1,u2,u3,u4,u5,u6,u7,u8,u9,u10,.slice aM M.length cM] S' hI.wf (M.getD i it0).i (M.getD (i+1) it0).i hxg.i1 hxg.i2 hyg.i1 hyg.i2 hlb' hroom' l a c 1 (by omega) hI.ok.ok (fun y hy=>by have:=hlt y hy;omega) (by omega) f1 f2 fp w hR hG
   have e5:((i+1:Nat):Int)+1=((i+1+1:Nat):Int):=by omega
   clear hs
   generalize M.getD i it0=x at *
   generalize M.getD (i+1) it0=y at *
   (repeat' ((conv=>whnf);first|rw [e1]|rw [e2]|rw [e3]|rw [e5]|refine ue hrow ?_|refine zB r0 ?_|refine zB r2 ?_|(first|refine puK ct ?_|refine quK ct ?_)|(refine zh [78,77,3000,5000,5010] rfl (fun w hR h=>c3 _ _ _ w h (hG.castL hR)) ?_;rintro _ _ ⟨S2,z,a',c',q1,q2,hz,rfl,rfl⟩;refine ⟨.v _,rfl,?_⟩)|refine ⟨.sl 5003 _ _ _,⟨rfl,rfl,rfl,rfl⟩,?_⟩|refine zg ?_|((first|apply zb|apply za|apply zc)<;>intro h<;>try (exfalso;omega))|refine pay ?_|refine And.intro (by first|exact ⟨rfl,by omega⟩) ?_|intro _));(all_goals (conv=>whnf))
   all_goals first|(exfalso;((try dsimp only at *);omega))|skip
   exact zm (⟨S2,_,a',c',i+1+1,q1,q2⟩:MpG) (hN S2 z hz.made) (by dsimp only;omega) (by (repeat ((conv=>whnf);refine vS ?_));exact trivial) (Ref.takes [78,77,3000,5000,5003,5010] rfl (.refl _))
 ·have hie:i=M.length:=by omega
  subst hie
  have hQ:=hI.fin hj
  (repeat' ((conv=>whnf);first|refine ⟨.sl 5003 _ _ _,⟨rfl,rfl,rfl,rfl⟩,?_⟩|refine zg ?_|((first|apply zb|apply za|apply zc)<;>intro h<;>try (exfalso;omega))|refine pay ?_|intro _));(all_goals (conv=>whnf))
  all_goals first|(exfalso;((try dsimp only at *);omega))|skip
  all_goals exact ⟨⟨_,Ref.takes [78,77,3000,5000,5010] rfl (.refl _),S',l,a,c,_,_,hQ,rfl,rfl⟩⟩
end
section
open Go.EG
def odL (S:Sto) (o:Int):List Tm:=if o=0 then [] else [tm S.E o]
structure SkI (S S':Sto) (j:Nat) (M l:List It) (o:Int) (i:Nat):Prop where
 wf:WF S'
 grow:Grow S S'
 le:i<=M.length
 ok:PushOk S' l
 od:0<=o/\o<=S.E.length
 ex:exM S' l++ql (odL S o++exM S (M.drop i)) j=ql (exM S M) j
 cnt:S'.E.length+(exM S' l).length+(odL S o++exM S (M.drop i)).length<=S.E.length+(exM S M).length
def itS (S:Sto) (M:List It):Prop:=∀ y∈M,ItOk S y/\(y.n=0->y.t=1)
theorem SkI.start {S:Sto} (hw:WF S) (j:Nat) (M:List It):SkI S S j M [] 0 0:=⟨hw,Grow.refl S,Nat.zero_le _,PushOk.nil S,⟨Int.le_refl _,by omega⟩,rfl,by simp [zb1,odL]⟩
theorem SkI.len {S S':Sto} {j:Nat} {M l:List It} {o:Int} {i:Nat} (h:SkI S S' j M l o i):l.length<=(exM S M).length/\∀ y∈l,y.t<=(exM S M).length:=by
 have h1:=h.cnt
 have h2:=h.grow.len
 have h3:=vd h.ok.ok
 refine ⟨by omega,fun y hy=>?_⟩
 have:=zeo (S:=S') hy
 omega
theorem SkI.txt {S S':Sto} {j:Nat} (hj:j%2=0) {M l:List It} {o:Int} {i:Nat} (h:SkI S S' j M l o i):(zF (odL S o++exM S (M.drop i))).length<=(zF (exM S M)).length:=by
 have e:=congrArg zF h.ex
 have s:=fun ts=>jP j ts
 simp only [zG,if_neg (show ¬j%2=1 by omega)] at s
 rw [qv,s,s] at e
 rw [←e,g6q];omega
theorem jZ {S:Sto} {M:List It} {i:Nat} (hi:i<M.length):exM S (M.drop i)=exI S (M.getD i it0)++exM S (M.drop (i+1)):=by
 rw [jY hi,yT]
theorem vo {S:Sto} {o:Int} (h:o≠0):odL S o=[tm S.E o]:=if_neg h
theorem SkI.flush {S S':Sto} {j:Nat} (ht:qE (j:Int)=true) {M l:List It} {o:Int} {i:Nat} (h:SkI S S' j M l o i) (hM:itS S M) (hi:i<M.length) (ho:o≠0) (hk:(tm S.E o).key≠(tm S.E (M.getD i it0).i).key):SkI S S' j M (yO l o 1) 0 i:=by
 obtain ⟨h1,h2⟩:=hM _ (qR hi)
 have hd:=jZ (S:=S) hi
 obtain ⟨r,hr⟩:=zek h1
 have hg:=h.grow.len
 have od:=h.od
 obtain ⟨p1,p2⟩:=vQ h.ok (i:=o) (t:=1) (by omega) (by omega) (Nat.le_refl 1)
 have hf:zA (tm S.E o).key (tm S.E (M.getD i it0).i).key (j:Int)=false:=by
  rw [jV ht];exact decide_eq_false (by omega)
 have e:=h.ex
 have c:=h.cnt
 rw [vo ho] at e c
 refine ⟨h.wf,h.grow,h.le,p1,⟨Int.le_refl _,by omega⟩,?_,?_⟩
 ·rw [p2,h.grow.tm od.2,←e,hd,hr,List.append_assoc]
  simp only [List.cons_append,List.nil_append,odL,if_pos]
  rw [kN hf];rfl
 ·rw [p2,g6q,List.length_replicate]
  simp only [odL,if_pos,List.nil_append,g6q,List.length_singleton] at c ⊢
  omega
theorem SkI.wait {S S':Sto} {j:Nat} {M l:List It} {i:Nat} (h:SkI S S' j M l 0 i) (hM:itS S M) (hi:i<M.length) (hn:(M.getD i it0).n=0):SkI S S' j M l (M.getD i it0).i (i+1):=by
 obtain ⟨h1,h2⟩:=hM _ (qR hi)
 have hd:=jZ (S:=S) hi
 rw [xm hn,h2 hn] at hd
 have i1:=h1.i1
 have ho:(M.getD i it0).i≠0:=by omega
 have e:=h.ex
 have c:=h.cnt
 rw [hd] at e c
 refine ⟨h.wf,h.grow,hi,h.ok,⟨by omega,h1.i2⟩,?_,?_⟩
 ·rw [vo ho];exact e
 ·rw [vo ho];exact c
theorem zju {a b:Tm} {j:Nat} (hf:zA a.key b.key (j:Int)=true) (r:List Tm):∀ n,ql ((List.replicate n [a,b]).flatten++r) j=List.replicate n (.pr a b)++ql r j
 | 0=>rfl
 | n + 1 => by
   have ih:=zju hf r n
   rw [List.replicate_succ,List.flatten_cons,List.append_assoc]
   simp only [List.cons_append,List.nil_append]
   rw [ym hf,ih,List.replicate_succ];rfl
theorem zjv {a b:Tm} {j:Nat} (hf:zA b.key a.key (j:Int)=true) (r:List Tm):∀ n,ql (b::((List.replicate n [a,b]).flatten++r)) j=List.replicate n (.pr b a)++ql (b::r) j
 | 0=>rfl
 | n + 1 => by
   have ih:=zjv hf r n
   rw [List.replicate_succ,List.flatten_cons,List.append_assoc]
   simp only [List.cons_append,List.nil_append]
   rw [ym hf,ih,List.replicate_succ];rfl
theorem zep {S:Sto} {x:It} (h:x.n≠0):exI S x=(List.replicate x.t [tm S.E x.i,tm S.E x.n]).flatten:=if_neg h
theorem SkI.pair {S S' S2:Sto} {j:Nat} (ht:qE (j:Int)=true) {M l:List It} {i:Nat} (h:SkI S S' j M l 0 i) (hM:itS S M) (hi:i<M.length) (hn:(M.getD i it0).n≠0) {z:Int} (hz:Made S' S2 z (.pr (tm S'.E (M.getD i it0).i) (tm S'.E (M.getD i it0).n))) :
 SkI S S2 j M (yO l z (M.getD i it0).t) 0 (i+1):=by
 obtain ⟨h1,h2⟩:=hM _ (qR hi)
 have hd:=jZ (S:=S) hi
 have hlen:=za2 (S:=S) (M.getD i it0)
 rw [if_neg hn] at hlen
 have t1:=h1.t1
 obtain ⟨p1,p2⟩:=vQ (h.ok.grow hz.grow) hz.pos hz.le t1
 have hm:=hz.tm
 rw [h.grow.tm h1.i2,h.grow.tm h1.n2] at hm
 have hf:zA (tm S.E (M.getD i it0).i).key (tm S.E (M.getD i it0).n).key (j:Int)=true:=by
  rw [jV ht,h1.key hn];exact decide_eq_true rfl
 have e:=h.ex
 have c:=h.cnt
 have c2:=hz.len
 simp only [odL,if_pos,List.nil_append] at e c
 rw [hd,g6q,hlen] at c
 refine ⟨hz.wf,h.grow.trans hz.grow,hi,p1,h.od,?_,?_⟩
 ·rw [p2,kC h.ok.ok hz.grow,←e,hd,zep hn,zju hf,hm,List.append_assoc];rfl
 ·rw [p2,kC h.ok.ok hz.grow,g6q,List.length_replicate]
  simp only [odL,if_pos,List.nil_append]
  omega
theorem SkI.join {S S' S2:Sto} {j:Nat} (ht:qE (j:Int)=true) {M l:List It} {o:Int} {i:Nat} (h:SkI S S' j M l o i) (hM:itS S M) (hi:i<M.length) (ho:o≠0) (hk:(tm S.E o).key=(tm S.E (M.getD i it0).i).key) (hn:(M.getD i it0).t=1) {z:Int} (hz:Made S' S2 z (.pr (tm S'.E o) (tm S'.E (M.getD i it0).i))) :
 SkI S S2 j M (yO l z 1) (M.getD i it0).n (i+1):=by
 obtain ⟨h1,h2⟩:=hM _ (qR hi)
 have hd:=jZ (S:=S) hi
 obtain ⟨p1,p2⟩:=vQ (h.ok.grow hz.grow) hz.pos hz.le (Nat.le_refl 1)
 have hm:=hz.tm
 rw [h.grow.tm h.od.2,h.grow.tm h1.i2] at hm
 have hf:zA (tm S.E o).key (tm S.E (M.getD i it0).i).key (j:Int)=true:=by
  rw [jV ht,hk];exact decide_eq_true rfl
 have hxe:exI S (M.getD i it0)=tm S.E (M.getD i it0).i::odL S (M.getD i it0).n:=by
  by_cases h0:(M.getD i it0).n=0
  ·rw [xm h0,hn,h0];rfl
  ·rw [zep h0,hn,vo h0];rfl
 have e:=h.ex
 have c:=h.cnt
 have c2:=hz.len
 rw [vo ho,hd,hxe] at e c
 simp only [List.cons_append,List.nil_append] at e c
 rw [ym hf] at e
 refine ⟨hz.wf,h.grow.trans hz.grow,hi,p1,⟨h1.n1,h1.n2⟩,?_,?_⟩
 ·rw [p2,kC h.ok.ok hz.grow,←e,hm,List.append_assoc];rfl
 ·rw [p2,kC h.ok.ok hz.grow,g6q,List.length_replicate]
  simp only [List.length_cons,g6q] at c ⊢
  omega
theorem SkI.join2 {S S' S2 S3:Sto} {j:Nat} (ht:qE (j:Int)=true) {M l:List It} {o:Int} {i:Nat} (h:SkI S S' j M l o i) (hM:itS S M) (hi:i<M.length) (ho:o≠0) (hk:(tm S.E o).key=(tm S.E (M.getD i it0).i).key) (hn:1<(M.getD i it0).t) {z z2:Int} (hz:Made S' S2 z (.pr (tm S'.E o) (tm S'.E (M.getD i it0).i)))
 (hz2:Made S2 S3 z2 (.pr (tm S2.E (M.getD i it0).n) (tm S2.E (M.getD i it0).i))):SkI S S3 j M (yO (yO l z 1) z2 ((M.getD i it0).t - 1)) (M.getD i it0).n (i+1):=by
 obtain ⟨h1,h2⟩:=hM _ (qR hi)
 have h0:(M.getD i it0).n≠0:=fun h=>by have:=h2 h;omega
 have hd:=jZ (S:=S) hi
 have hg2:=h.grow.trans hz.grow
 have hg3:=hz.grow.trans hz2.grow
 obtain ⟨q1,q2⟩:=vQ (h.ok.grow hz.grow) hz.pos hz.le (Nat.le_refl 1)
 obtain ⟨p1,p2⟩:=vQ (q1.grow hz2.grow) hz2.pos hz2.le (t:=(M.getD i it0).t - 1) (by omega)
 have hm:=hz.tm
 rw [h.grow.tm h.od.2,h.grow.tm h1.i2] at hm
 have hm2:=hz2.tm
 rw [hg2.tm h1.n2,hg2.tm h1.i2] at hm2
 have hf:zA (tm S.E o).key (tm S.E (M.getD i it0).i).key (j:Int)=true:=by
  rw [jV ht,hk];exact decide_eq_true rfl
 have hf2:zA (tm S.E (M.getD i it0).n).key (tm S.E (M.getD i it0).i).key (j:Int)=true:=by
  rw [jV ht,h1.key h0];exact decide_eq_true rfl
 obtain ⟨m,hm1⟩:∃ m,(M.getD i it0).t=m+1:=⟨(M.getD i it0).t - 1,by omega⟩
 have hxe:exI S (M.getD i it0)=tm S.E (M.getD i it0).i::tm S.E (M.getD i it0).n::(List.replicate m [tm S.E (M.getD i it0).i,tm S.E (M.getD i it0).n]).flatten:=by
  rw [zep h0,hm1,List.replicate_succ];rfl
 have hfl:((List.replicate m [tm S.E (M.getD i it0).i,tm S.E (M.getD i it0).n]).flatten).length=2*m:=by
  have:=za2 (S:=S) ⟨(M.getD i it0).i,(M.getD i it0).n,m⟩
  rw [zep (by exact h0),if_neg (by exact h0)] at this
  exact this
 have e:=h.ex
 have c:=h.cnt
 have c2:=hz.len
 have c3:=hz2.len
 rw [vo ho,hd,hxe] at e c
 simp only [List.cons_append,List.nil_append] at e c
 rw [ym hf,zjv hf2] at e
 rw [hm1,Nat.add_sub_cancel] at p1 p2 ⊢
 refine ⟨hz2.wf,h.grow.trans hg3,hi,p1,⟨h1.n1,h1.n2⟩,?_,?_⟩
 ·rw [p2,kC q1.ok hz2.grow,q2,kC h.ok.ok hz.grow,←e,hm2,hm,vo h0,List.append_assoc,List.append_assoc];rfl
 ·rw [p2,kC q1.ok hz2.grow,q2,kC h.ok.ok hz.grow,g6q,g6q,List.length_replicate,List.length_replicate,vo h0]
  simp only [List.length_cons,g6q,List.length_nil,hfl] at c ⊢
  omega
theorem SkI.fin {S S':Sto} {j:Nat} (hj:j%2=0) {M l:List It} {o:Int} (h:SkI S S' j M l o M.length):(o=0->MrgQ S S' j M l)/\(o≠0->MrgQ S S' j M (yO l o 1)):=by
 have e:=h.ex
 have c:=h.cnt
 have od:=h.od
 have hg:=h.grow.len
 rw [List.drop_length,zb1,List.append_nil] at e c
 refine ⟨fun ho=>?_,fun ho=>?_⟩
 ·subst ho
  simp only [odL,if_pos,kV,List.append_nil,List.length_nil] at e c
  exact ⟨h.wf,h.grow,fun y hy=>⟨h.ok.ok y hy,h.ok.one y hy,fun h=>by omega⟩,by rw [e,zG,if_neg (by omega)],by omega⟩
 ·rw [vo ho] at e c
  rw [uz] at e
  obtain ⟨p1,p2⟩:=vQ h.ok (i:=o) (t:=1) (by omega) (by omega) (Nat.le_refl 1)
  rw [h.grow.tm od.2] at p2
  refine ⟨h.wf,h.grow,fun y hy=>⟨p1.ok y hy,p1.one y hy,fun h=>by omega⟩,?_,?_⟩
  ·rw [p2,zG,if_neg (by omega),←e];rfl
  ·rw [p2,g6q,List.length_replicate]
   simp only [List.length_singleton] at c
   omega
end
section
open Go.EG
attribute [local irreducible] z8 yN Go.Calls
set_option maxRecDepth 20000
set_option maxHeartbeats 4000000
structure MsG where
 S:Sto
 l:List It
 a:Option Addr
 c:Nat
 o:Int
 k:Int
 t:Int
 i:Nat
 f1:List Nat
 f2:List Nat
theorem SkI.room {S S':Sto} {j:Nat} {M l:List It} {o:Int} {i:Nat} (h:SkI S S' j M l o i) (hM:itS S M) (hi:i<M.length) {B:Nat} (hB:S.E.length+(exM S M).length<=B):S'.E.length+(M.getD i it0).t<=B/\(o≠0->S'.E.length+(M.getD i it0).t+1<=B):=by
 have c:=h.cnt
 rw [jZ hi,g6q,g6q,za2] at c
 refine ⟨by split at c<;>omega,fun ho=>?_⟩
 rw [vo ho,List.length_singleton] at c
 split at c<;>omega
theorem SkI.two_len {S S':Sto} {j:Nat} (hj:j%2=0) {M l:List It} {o:Int} {i:Nat} (h:SkI S S' j M l o i) (hM:itS S M) (hi:i<M.length) (ho:o≠0):(tm S'.E o).len+(tm S'.E (M.getD i it0).i).len<=(zF (exM S M)).length:=by
 obtain ⟨h1,_⟩:=hM _ (qR hi)
 obtain ⟨r,hr⟩:=zek h1
 have ht:=h.txt hj
 rw [vo ho,jZ hi,hr] at ht
 simp only [List.cons_append,List.nil_append] at ht
 rw [qM,qM] at ht
 simp only [g6q] at ht
 rw [h.grow.tm h.od.2,h.grow.tm h1.i2]
 simp only [Tm.len]
 omega
theorem SkI.pair_len {S S':Sto} {j:Nat} (hj:j%2=0) {M l:List It} {o:Int} {i:Nat} (h:SkI S S' j M l o i) (hM:itS S M) (hi:i<M.length) (hn:(M.getD i it0).n≠0):(tm S.E (M.getD i it0).i).len+(tm S.E (M.getD i it0).n).len<=(zF (exM S M)).length:=by
 obtain ⟨h1,_⟩:=hM _ (qR hi)
 have ht:=h.txt hj
 obtain ⟨m,hm⟩:∃ m,(M.getD i it0).t=m+1:=⟨(M.getD i it0).t - 1,by have:=h1.t1;omega⟩
 rw [jZ hi,zep hn,hm,List.replicate_succ,List.flatten_cons] at ht
 simp only [List.cons_append,List.nil_append] at ht
 rw [qv,qM,qM] at ht
 simp only [g6q] at ht
 simp only [Tm.len]
 omega
theorem zvA {S:Sto} {l:List It} (h:PushOk S l) {i:Int} {t:Nat} (h1:1<=i) (h2:i<=S.E.length) (ht:1<=t):PushOk S (yO l i t)/\(yO l i t).length<=(exM S l).length+t/\∀ y∈yO l i t,y.t<=(exM S l).length+t:=by
 obtain ⟨p1,p2⟩:=vQ h h1 h2 ht
 have e:=congrArg List.length p2
 rw [g6q,List.length_replicate] at e
 refine ⟨p1,?_,fun y hy=>?_⟩
 ·have:=vd p1.ok;omega
 ·have:=zeo (S:=S) hy;omega
def odK (S:Sto) (o k t:Int):Prop:=o≠0->k=(tm S.E o).key/\t=1
theorem zpL (bp bt bs b:Nat) (u1 u2 u3 u4 u5 u6 u7 u8 u9 u10:Value) (S:Sto) (hw:WF S) (j:Nat) (hj:j%2=0) (ht:qE (j:Int)=true) (aM:Option Addr) (M:List It) (cM:Nat) (hM:itS S M) (hroom:S.E.length+(exM S M).length<=S.most) (hmost:S.most<=1048576) (hLM:(zF (exM S M)).length<=LM) (hn:(exM S M).length<=999999)
 (f1 f2 fp:List Nat) (w:World) (hR:R w fp (fP bp bt bs S f1 f2++[bxM b bp u1 u2 u3 u4 u5 u6 u7 u8 u9 u10 aM M.length cM,.own 5003 aM M.length cM zj 4 (its S M)]) w) (hG:qq w fp) :
 Calls Tryz.prog y5 #[pS b] w fun e w'=>∃ v L1,e=.returned v/\R w fp L1 w' /\
  ∃ S' l a' c' g1 g2,MrgQ S S' j M l/\v=.tuple #[.slice a' l.length c',.nilIface]/\L1=fP bp bt bs S' g1 g2++[bxM b bp u1 u2 u3 u4 u5 u6 u7 u8 u9 u10 aM M.length cM,.own 5010 a' l.length c' zj 4 (its S' l)]:=by
 refine zf [.ptr 5000 b 0] za7 (by simp) hR ?_
 have hMl:M.length<=999999:=by
  have:=vd (M:=M) fun y hy=>(hM y hy).1
  omega
 (repeat' ((conv=>whnf);first|refine ⟨.sl 5003 _ _ _,⟨rfl,rfl,rfl,rfl⟩,?_⟩|refine zg ?_|((first|apply zb|apply za|apply zc)<;>intro h<;>try (exfalso;omega))|refine pay ?_|intro _));(all_goals (conv=>whnf))
 rename_i b5
 refine zP MsG (fun y=>[(0,.ptr 5000 b 0),(4,.sl 5010 y.a y.l.length y.c),(5,.ptr 5 b5 0),(6,.v .nilIface),(12,.sl 5003 aM M.length cM),(13,.v (.int .i64 M.length)),(14,.v (.int .i64 y.i))])
  (fun y=>fP bp bt bs y.S y.f1 y.f2++[bxM b bp u1 u2 u3 u4 u5 u6 u7 u8 u9 u10 aM M.length cM,.own 5003 aM M.length cM zj 4 (its S M),.own 5010 y.a y.l.length y.c zj 4 (its y.S y.l),.box 5 b5 [.int .i64 y.o,.int .i64 0,.int .u64 y.k,.int .i64 y.t] zj])
  (fun y=>SkI S y.S j M y.l y.o y.i/\odK S y.o y.k y.t) (fun y=>M.length - y.i) ⟨S,[],none,0,0,0,0,0,f1,f2⟩ ⟨SkI.start hw j M,fun h=>absurd rfl h⟩ (by (repeat ((conv=>whnf);refine vS ?_));exact trivial) ((Ref.ownNil 5010 zj 4).trans (Ref.takes [78,77,3000,5000,5003,5010,5] rfl (.refl _))) ?_
 clear hR
 rintro ⟨S',l,a,c,o,k,t,i,g1,g2⟩ ⟨hI,hK⟩
 dsimp only at hI hK ⊢
 have hi1:=hI.le
 obtain ⟨hll,hlt⟩:=hI.len
 have hsm:=hI.wf.small
 have od:=hI.od
 have hgl:=hI.grow.len
 by_cases hi:i<M.length
 case neg =>
  have hie:i=M.length:=by omega
  subst hie
  obtain ⟨q1,q2⟩:=hI.fin hj
  by_cases ho:o=0
  ·(repeat' ((conv=>whnf);first|refine ⟨.sl 5003 _ _ _,⟨rfl,rfl,rfl,rfl⟩,?_⟩|refine zg ?_|((first|apply zb|apply za|apply zc)<;>intro h<;>try (exfalso;omega))|refine pay ?_|intro _));(all_goals (conv=>whnf))
   all_goals first|(exfalso;((try dsimp only at *);omega))|skip
   all_goals exact ⟨⟨_,Ref.takes [78,77,3000,5000,5010] rfl (.refl _),S',l,a,c,_,_,q1 ho,rfl,rfl⟩⟩
  ·obtain ⟨rfl,rfl⟩:=hK ho
   have cq:=fun fp w hR=>zby S' l a c o 1 (by omega) (fun y hy=>by have:=hlt y hy;omega) (by omega) fp w hR
   rw [hI.grow.tm od.2] at cq
   (repeat' ((conv=>whnf);first|(refine zh [5010] rfl (fun w hR h=>cq _ w h) ?_;rintro _ _ ⟨a',c',rfl,rfl⟩;refine ⟨.sl 5010 a' _ c',rfl,?_⟩)|refine ⟨.sl 5003 _ _ _,⟨rfl,rfl,rfl,rfl⟩,?_⟩|refine zg ?_|((first|apply zb|apply za|apply zc)<;>intro h<;>try (exfalso;omega))|refine pay ?_|intro _));(all_goals (conv=>whnf))
   all_goals first|(exfalso;((try dsimp only at *);omega))|skip
   all_goals exact ⟨⟨_,Ref.takes [78,77,3000,5000,5010] rfl (.refl _),S',_,a',c',_,_,q2 ho,rfl,rfl⟩⟩
 obtain ⟨hx1,hx2⟩:=hM _ (qR hi)
 have hrow:=zgo S hi
 have e1:((i:Nat):Int).toNat=i:=g7q i
 (repeat' ((conv=>whnf);first|rw [e1]|refine ue hrow ?_|refine ⟨.sl 5003 _ _ _,⟨rfl,rfl,rfl,rfl⟩,?_⟩|refine zg ?_|((first|apply zb|apply za|apply zc)<;>intro h<;>try (exfalso;omega))|refine pay ?_|refine And.intro (by first|exact ⟨rfl,by omega⟩) ?_|intro _));(all_goals (conv=>whnf))
 all_goals first|(exfalso;((try dsimp only at *);omega))|skip
 rename_i b8
 refine zcw MsG (fun y=>[(0,.ptr 5000 b 0),(4,.sl 5010 y.a y.l.length y.c),(5,.ptr 5 b5 0),(6,.v .nilIface),(12,.sl 5003 aM M.length cM),(13,.v (.int .i64 M.length)),(14,.v (.int .i64 i)),(8,.ptr 8 b8 0)])
  (fun y=>fP bp bt bs S' g1 g2++[bxM b bp u1 u2 u3 u4 u5 u6 u7 u8 u9 u10 aM M.length cM,.own 5003 aM M.length cM zj 4 (its S M),.own 5010 y.a y.l.length y.c zj 4 (its S' y.l),.box 5 b5 [.int .i64 y.o,.int .i64 0,.int .u64 y.k,.int .i64 y.t] zj,.box 8 b8 (itC S (M.getD i it0)) zj])
  (fun y=>SkI S S' j M y.l y.o i/\odK S y.o y.k y.t/\(y.o≠0->(tm S.E y.o).key=(tm S.E (M.getD i it0).i).key)) ?_ ?_
 ·by_cases ho:o=0
  ·(repeat' ((conv=>whnf);first|refine ⟨.sl 5003 _ _ _,⟨rfl,rfl,rfl,rfl⟩,?_⟩|refine zg ?_|((first|apply zb|apply za|apply zc)<;>intro h<;>try (exfalso;omega))|refine pay ?_|intro _));(all_goals (conv=>whnf))
   all_goals first|(exfalso;((try dsimp only at *);omega))|skip
   all_goals exact qh (⟨S',l,a,c,o,k,t,0,[],[]⟩:MsG) ⟨hI,hK,fun h=>absurd ho h⟩ (by (repeat ((conv=>whnf);refine vS ?_));exact trivial) (Ref.takes [78,77,3000,5000,5003,5010,5,8] rfl (.refl _))
  ·obtain ⟨rfl,rfl⟩:=hK ho
   have cq:=fun fp w hR=>zby S' l a c o 1 (by omega) (fun y hy=>by have:=hlt y hy;omega) (by omega) fp w hR
   rw [hI.grow.tm od.2] at cq
   by_cases hk:(tm S.E o).key=(tm S.E (M.getD i it0).i).key
   ·(repeat' ((conv=>whnf);first|refine ⟨.sl 5003 _ _ _,⟨rfl,rfl,rfl,rfl⟩,?_⟩|refine zg ?_|((first|apply zb|apply za|apply zc)<;>intro h<;>try (exfalso;omega))|refine pay ?_|intro _));(all_goals (conv=>whnf))
    all_goals first|(exfalso;((try dsimp only at *);omega))|skip
    all_goals exact qh (⟨S',l,a,c,o,_,_,0,[],[]⟩:MsG) ⟨hI,hK,fun _=>hk⟩ (by (repeat ((conv=>whnf);refine vS ?_));exact trivial) (Ref.takes [78,77,3000,5000,5003,5010,5,8] rfl (.refl _))
   ·have hN:=hI.flush ht hM hi ho hk
    (repeat' ((conv=>whnf);first|(refine zh [5010] rfl (fun w hR h=>cq _ w h) ?_;rintro _ _ ⟨a',c',rfl,rfl⟩;refine ⟨.sl 5010 a' _ c',rfl,?_⟩)|refine ⟨.sl 5003 _ _ _,⟨rfl,rfl,rfl,rfl⟩,?_⟩|refine zg ?_|((first|apply zb|apply za|apply zc)<;>intro h<;>try (exfalso;omega))|refine pay ?_|intro _));(all_goals (conv=>whnf))
    all_goals first|(exfalso;((try dsimp only at *);omega))|skip
    all_goals exact qh (⟨S',_,a',c',0,_,_,0,[],[]⟩:MsG) ⟨hN,fun h=>absurd rfl h,fun h=>absurd rfl h⟩ (by (repeat ((conv=>whnf);refine vS ?_));exact trivial) (Ref.takes [78,77,3000,5000,5003,5010,5,8] rfl (.refl _))
 ·clear hI hK hll hlt od
  rintro ⟨_,l,a,c,o,k,t,_,_,_⟩ ⟨hI,hK,hkx⟩
  dsimp only at hI hK hkx ⊢
  obtain ⟨hll,hlt⟩:=hI.len
  have od:=hI.od
  refine zcw MsG (fun y=>[(0,.ptr 5000 b 0),(4,.sl 5010 y.a y.l.length y.c),(5,.ptr 5 b5 0),(6,.v .nilIface),(12,.sl 5003 aM M.length cM),(13,.v (.int .i64 M.length)),(14,.v (.int .i64 i))])
   (fun y=>fP bp bt bs y.S y.f1 y.f2++[bxM b bp u1 u2 u3 u4 u5 u6 u7 u8 u9 u10 aM M.length cM,.own 5003 aM M.length cM zj 4 (its S M),.own 5010 y.a y.l.length y.c zj 4 (its y.S y.l),.box 5 b5 [.int .i64 y.o,.int .i64 0,.int .u64 y.k,.int .i64 y.t] zj])
   (fun y=>SkI S y.S j M y.l y.o (i+1)/\odK S y.o y.k y.t) ?_ ?_
  ·have hge:S.E.length<=S'.E.length:=hgl
   have hgr:=hI.grow
   have hrm:=hI.room hM hi hroom
   have hmo:=hgr.most
   have hLM':LM=1152921504606846976:=rfl
   have hkey:=hx1.key
   have t1:=hx1.t1
   have i1:=hx1.i1
   have i2:=hx1.i2
   have n1:=hx1.n1
   have n2:=hx1.n2
   have hxt:=zeo (S:=S) (qR hi)
   have hpl:=fun h=>hI.pair_len hj hM hi h
   have hexl:(exM S' l).length<=(exM S M).length:=by have:=hI.cnt;omega
   by_cases ho:o=0
   ·subst ho
    clear hkx hK
    by_cases hxn:(M.getD i it0).n=0
    ·have hN:=hI.wait hM hi hxn
     have hxt1:=hx2 hxn
     generalize M.getD i it0=x at *
     (repeat' ((conv=>whnf);first|refine ⟨.sl 5003 _ _ _,⟨rfl,rfl,rfl,rfl⟩,?_⟩|refine zg ?_|((first|apply zb|apply za|apply zc)<;>intro h<;>try (exfalso;omega))|refine pay ?_|intro _));(all_goals (conv=>whnf))
     all_goals first|(exfalso;((try dsimp only at *);omega))|skip
     all_goals exact qh (⟨S',l,a,c,x.i,(tm S.E x.i).key,(x.t:Nat),0,g1,g2⟩:MsG) ⟨hN,fun _=>⟨rfl,by dsimp only;rw [hxt1];rfl⟩⟩ (by (repeat ((conv=>whnf);refine vS ?_));exact trivial) (Ref.takes [78,77,3000,5000,5003,5010,5] rfl (.keep rfl (fun _ h=>h) (.keep rfl (fun _ h=>h) (.keep rfl (fun _ h=>h) (.keep rfl (fun _ h=>h) (.keep rfl (fun _ h=>h) (.keep rfl (fun _ h=>h) (.box (by rw [hxn]) (.refl _)))))))))
    ·have hN:=fun S2 z h=>hI.pair (S2:=S2) (z:=z) ht hM hi hxn h
     have hpl:=hpl hxn
     have c3:=fun f1 f2 fp w hR hG=>zaj bp bt bs b [u1,u2,u3,u4,u5,u6,u7,u8,u9,u10,.slice aM M.length cM] S' hI.wf (M.getD i it0).i (M.getD i it0).n i1 (by omega) (by omega) (by omega) (by rw [hgr.tm i2,hgr.tm n2];omega) (by omega) l a c (M.getD i it0).t (by omega) hI.ok.ok (fun y hy=>by have:=hlt y hy;omega) (by omega) f1 f2 fp w hR hG
     generalize M.getD i it0=x at *
     (repeat' ((conv=>whnf);first|(refine zh [78,77,3000,5000,5010] rfl (fun w hR h=>c3 _ _ _ w h (hG.castL hR)) ?_;rintro _ _ ⟨S2,z,qa,qc,q1,q2,hz,rfl,rfl⟩;refine ⟨.v _,rfl,?_⟩)|refine ⟨.sl 5003 _ _ _,⟨rfl,rfl,rfl,rfl⟩,?_⟩|refine zg ?_|((first|apply zb|apply za|apply zc)<;>intro h<;>try (exfalso;omega))|refine pay ?_|intro _));(all_goals (conv=>whnf))
     all_goals first|(exfalso;((try dsimp only at *);omega))|skip
     all_goals exact qh (⟨S2,_,qa,qc,0,k,t,0,q1,q2⟩:MsG) ⟨hN S2 z hz.made,fun h=>absurd rfl h⟩ (by (repeat ((conv=>whnf);refine vS ?_));exact trivial) (Ref.takes [78,77,3000,5000,5003,5010,5] rfl (.refl _))
   ·obtain ⟨rfl,rfl⟩:=hK ho
    have hkx:=hkx ho
    have hrm2:=hrm.2 ho
    have h2l:=hI.two_len hj hM hi ho
    have c3:=fun f1 f2 fp w hR hG=>zaj bp bt bs b [u1,u2,u3,u4,u5,u6,u7,u8,u9,u10,.slice aM M.length cM] S' hI.wf o (M.getD i it0).i (by omega) (by omega) i1 (by omega) (by omega) (by omega) l a c 1 (by omega) hI.ok.ok (fun y hy=>by have:=hlt y hy;omega) (by omega) f1 f2 fp w hR hG
    by_cases htx:(M.getD i it0).t=1
    ·have hN:=fun S2 z h=>hI.join (S2:=S2) (z:=z) ht hM hi ho hkx htx h
     generalize M.getD i it0=x at *
     (repeat' ((conv=>whnf);first|(refine zh [78,77,3000,5000,5010] rfl (fun w hR h=>c3 _ _ _ w h (hG.castL hR)) ?_;rintro _ _ ⟨S2,z,qa,qc,q1,q2,hz,rfl,rfl⟩;refine ⟨.v _,rfl,?_⟩)|refine ⟨.sl 5003 _ _ _,⟨rfl,rfl,rfl,rfl⟩,?_⟩|refine zg ?_|((first|apply zb|apply za|apply zc)<;>intro h<;>try (exfalso;omega))|refine pay ?_|intro _));(all_goals (conv=>whnf))
     all_goals first|(exfalso;((try dsimp only at *);omega))|skip
     all_goals exact qh (⟨S2,_,qa,qc,x.n,(tm S.E x.i).key,1,0,q1,q2⟩:MsG) ⟨hN S2 z hz.made,fun h=>⟨by dsimp only at h ⊢;rw [hkey h],rfl⟩⟩ (by (repeat ((conv=>whnf);refine vS ?_));exact trivial) (Ref.takes [78,77,3000,5000,5003,5010,5] rfl (.refl _))
    ·have hxn:(M.getD i it0).n≠0:=fun h=>htx (hx2 h)
     have hpl:=hpl hxn
     have hN:=fun S2 S3 z z2 h h2=>hI.join2 (S2:=S2) (S3:=S3) (z:=z) (z2:=z2) ht hM hi ho hkx (by omega) h h2
     have hok:=hI.ok
     generalize M.getD i it0=x at *
     (repeat' ((conv=>whnf);first|(refine zh [78,77,3000,5000,5010] rfl (fun w hR h=>c3 _ _ _ w h (hG.castL hR)) ?_;rintro _ _ ⟨S2,z,qa,qc,q1,q2,hz,rfl,rfl⟩;refine ⟨.v _,rfl,?_⟩)|refine ⟨.sl 5003 _ _ _,⟨rfl,rfl,rfl,rfl⟩,?_⟩|refine zg ?_|((first|apply zb|apply za|apply zc)<;>intro h<;>try (exfalso;omega))|refine pay ?_|intro _));(all_goals (conv=>whnf))
     all_goals first|(exfalso;((try dsimp only at *);omega))|skip
     have hg2:=hgr.trans hz.made.grow
     have hl2:=hz.made.len
     have hl3:=hz.made.grow.len
     obtain ⟨w1,w2,w3⟩:=zvA (hok.grow hz.made.grow) hz.made.pos hz.made.le (Nat.le_refl 1)
     rw [kC hok.ok hz.made.grow] at w2 w3
     have hmo2:=hz.made.grow.most
     have ec:((x.t:Nat):Int) - 1=((x.t - 1:Nat):Int):=by omega
     have c4:=fun f1 f2 fp w hR hG=>zaj bp bt bs b [u1,u2,u3,u4,u5,u6,u7,u8,u9,u10,.slice aM M.length cM] S2 hz.made.wf x.n x.i (by omega) (by omega) i1 (by omega) (by rw [hg2.tm i2,hg2.tm n2];omega) (by omega) (yO l z 1) qa qc (x.t - 1) (by omega) w1.ok (fun y hy=>by have:=w3 y hy;omega) (by omega) f1 f2 fp w hR hG
     (repeat' ((conv=>whnf);first|rw [ec]|(refine zh [78,77,3000,5000,5010] rfl (fun w hR h=>c4 _ _ _ w h (hG.castL hR)) ?_;rintro _ _ ⟨S3,y,ra,rc,r1,r2,hy,rfl,rfl⟩;refine ⟨.v _,rfl,?_⟩)|refine ⟨.sl 5003 _ _ _,⟨rfl,rfl,rfl,rfl⟩,?_⟩|refine zg ?_|((first|apply zb|apply za|apply zc)<;>intro h<;>try (exfalso;omega))|refine pay ?_|intro _));(all_goals (conv=>whnf))
     all_goals first|(exfalso;((try dsimp only at *);omega))|skip
     all_goals exact qh (⟨S3,_,ra,rc,x.n,(tm S.E x.i).key,1,0,r1,r2⟩:MsG) ⟨hN S2 S3 z y hz.made hy.made,fun h=>⟨by dsimp only at h ⊢;rw [hkey h],rfl⟩⟩ (by (repeat ((conv=>whnf);refine vS ?_));exact trivial) (Ref.takes [78,77,3000,5000,5003,5010,5] rfl (.refl _))
  ·clear hI hK hll hlt od
   rintro ⟨S',l,a,c,o,k,t,_,g1,g2⟩ ⟨hI,hK⟩
   dsimp only at hI hK ⊢
   (repeat' ((conv=>whnf);first|refine ⟨.sl 5003 _ _ _,⟨rfl,rfl,rfl,rfl⟩,?_⟩|refine zg ?_|((first|apply zb|apply za|apply zc)<;>intro h<;>try (exfalso;omega))|refine pay ?_|intro _));(all_goals (conv=>whnf))
   all_goals first|(exfalso;((try dsimp only at *);omega))|skip
   exact zm (⟨S',l,a,c,o,k,t,i+1,g1,g2⟩:MsG) ⟨hI,hK⟩ (by dsimp only;omega) (by (repeat ((conv=>whnf);refine vS ?_));exact trivial) (Ref.takes [78,77,3000,5000,5003,5010,5] rfl (.refl _))
theorem EnS.grow {S S':Sto} {bh:Bool} {T:Tm} {j:Nat} {fs:List FrI} {x:Int} (h:EnS S bh T j fs x) (g:Grow S S'):EnS S' bh T j fs x:=by
 have hl:=g.len
 have hx:=h.x2
 obtain ⟨_,e⟩:=zkg h.ids g
 refine ⟨by rw [e,g.tm hx];exact h.sd,fun f hf=>⟨(h.ids f hf).1,by have:=(h.ids f hf).2;omega⟩,h.x1,by omega,h.num,h.dec⟩
theorem EndI.grow {S S':Sto} {bh:Bool} {T:Tm} {j:Nat} {fs:List FrI} {x:Int} (h:EndI S bh T j fs x) (g:Grow S S'):EndI S' bh T j fs x/\zM S' bh j fs x=zM S bh j fs x/\frs S' fs=frs S fs/\tm S'.E x=tm S.E x/\(∀ l,Cl S l fs->Cl S' l fs):=by
 rcases h with ⟨rfl,rfl⟩|⟨h,hx⟩
 ·exact ⟨.inl ⟨rfl,rfl⟩,by rw [yn,yn],rfl,rfl,fun l _ f hf=>by simp at hf⟩
 ·have h1:=h.x1
  obtain ⟨e1,e2⟩:=zkg h.ids g
  have et:=g.tm h.x2
  refine ⟨.inr ⟨h.grow g,by rw [et];exact hx⟩,?_,e1,et,fun l hc f hf=>?_⟩
  ·rw [qm (by omega),qm (by omega),e2,et]
  ·rw [g.tm (h.ids f hf).2];exact hc f hf
structure UpE (S:Sto) (bh:Bool) (T:Tm) (j:Nat) (fs:List FrI) (x:Int) (fs':List FrI) (x':Int):Prop where
 en:EndI S bh T (j+1) fs' x'
 step:zG (j+1) (zM S bh j fs x)=zM S bh (j+1) fs' x'
 zero:x=0->x'=0
theorem UpQ.e {S:Sto} {bh:Bool} {T:Tm} {j:Nat} {fs:List FrI} {x:Int} {k k':Value} {fs':List FrI} {x':Int} (h:UpQ S bh T j fs x k fs' x' k') (hx:1<=x):UpE S bh T j fs x fs' x':=by
 obtain ⟨h1,h2,h3,_⟩:=h
 have h4:=h1.x1
 exact ⟨.inr ⟨h1,h2⟩,by rw [qm (by omega),qm (by omega)];exact h3,fun h=>by omega⟩
theorem UpE.none {S:Sto} {bh:Bool} {T:Tm} {j:Nat}:UpE S bh T j [] 0 [] 0:=⟨.inl ⟨rfl,rfl⟩,by rw [yn,yn,zeV],fun _=>rfl⟩
theorem zsC (bp bt bs b:Nat) (v0 v6 v7 v8 v9 v10 v11:Value) (S:Sto) (j:Nat) (k:Value) (a:Option Addr) (c:Nat) (f1 f2 fp:List Nat) (w:World)
 (hR:R w fp (fP bp bt bs S f1 f2++[bxL b bp v0 v6 v7 v8 v9 v10 v11 a 0 c 0 k,.own 5001 a 0 c zi 8 []]) w) :
 Calls Tryz.prog qB #[.pointer (some ⟨b,1,none⟩),.int .i64 ((j+1:Nat):Int)] w fun e w'=>∃ v L1,e=.returned v/\R w fp L1 w'/\v=.tuple #[]/\L1=fP bp bt bs S f1 f2++[bxL b bp v0 v6 v7 v8 v9 v10 v11 a 0 c 0 k,.own 5001 a 0 c zi 8 []]:=by
 refine zf [.ptr 5000 b 1,.v (.int .i64 ((j+1:Nat):Int))] uO (by simp) hR ?_
 have cp:=fun fp w hR=>zaC b bp v0 v6 v7 v8 v9 v10 v11 S [] (by decide) 0 k (j+1) a c fp w hR
 (repeat' ((conv=>whnf);first|(refine zh [5000,5001] rfl (fun w hR h=>cp _ w h) ?_;rintro _ _ ⟨hq,rfl⟩) |((first|apply zb|apply za|apply zc)<;>intro h<;>try (exfalso;omega))|refine pay ?_|intro _));(all_goals (conv=>whnf))
 rcases hq with ⟨fs1,f,e,_⟩|⟨hno,rfl⟩
 ·simp at e
 ·refine ⟨.v (.pointer none),rfl,?_⟩
  (repeat' ((conv=>whnf);first|refine zg ?_|((first|apply zb|apply za|apply zc)<;>intro h<;>try (exfalso;omega))|refine pay ?_|intro _));(all_goals (conv=>whnf))
  all_goals exact ⟨⟨_,Ref.takes [78,77,3000,5000,5001] rfl (.refl _),rfl,rfl⟩⟩
theorem zsD (bp bt bs b:Nat) (v0 v1 v2 v3 v4 v5 v11:Value) (S:Sto) (j:Nat) (k:Value) (a:Option Addr) (c:Nat) (f1 f2 fp:List Nat) (w:World)
 (hR:R w fp (fP bp bt bs S f1 f2++[bxR b bp v0 v1 v2 v3 v4 v5 v11 a 0 c 0 k,.own 5002 a 0 c zi 8 []]) w) :
 Calls Tryz.prog qB #[.pointer (some ⟨b,6,none⟩),.int .i64 ((j+1:Nat):Int)] w fun e w'=>∃ v L1,e=.returned v/\R w fp L1 w'/\v=.tuple #[]/\L1=fP bp bt bs S f1 f2++[bxR b bp v0 v1 v2 v3 v4 v5 v11 a 0 c 0 k,.own 5002 a 0 c zi 8 []]:=by
 refine zf [.ptr 5000 b 6,.v (.int .i64 ((j+1:Nat):Int))] uO (by simp) hR ?_
 have cp:=fun fp w hR=>vz b bp v0 v1 v2 v3 v4 v5 v11 S [] (by decide) 0 k (j+1) a c fp w hR
 (repeat' ((conv=>whnf);first|(refine zh [5000,5002] rfl (fun w hR h=>cp _ w h) ?_;rintro _ _ ⟨hq,rfl⟩) |((first|apply zb|apply za|apply zc)<;>intro h<;>try (exfalso;omega))|refine pay ?_|intro _));(all_goals (conv=>whnf))
 rcases hq with ⟨fs1,f,e,_⟩|⟨hno,rfl⟩
 ·simp at e
 ·refine ⟨.v (.pointer none),rfl,?_⟩
  (repeat' ((conv=>whnf);first|refine zg ?_|((first|apply zb|apply za|apply zc)<;>intro h<;>try (exfalso;omega))|refine pay ?_|intro _));(all_goals (conv=>whnf))
  all_goals exact ⟨⟨_,Ref.takes [78,77,3000,5000,5002] rfl (.refl _),rfl,rfl⟩⟩
theorem zsE (bp bt bs b:Nat) (v0 v6 v7 v8 v9 v10 v11:Value) (S:Sto) (hw:WF S) (T:Tm) (hT:Is T) (j:Nat) (fs:List FrI) (x:Int) (h:EndI S false T j fs x) (hcl:Cl S (j+1) fs) (a:Option Addr) (c:Nat) (f1 f2 fp:List Nat) (w:World)
 (hR:R w fp (fP bp bt bs S f1 f2++[bxL b bp v0 v6 v7 v8 v9 v10 v11 a fs.length c x (.int .u64 (tm S.E x).key),.own 5001 a fs.length c zi 8 (frs S fs)]) w) (hG:qq w fp) :
 Calls Tryz.prog qB #[.pointer (some ⟨b,1,none⟩),.int .i64 ((j+1:Nat):Int)] w fun e w'=>∃ v L1,e=.returned v/\R w fp L1 w'/\∃ fs' x' f1' f2',UpE S false T j fs x fs' x'/\v=.tuple #[]/\L1=fP bp bt bs S f1' f2'++[bxL b bp v0 v6 v7 v8 v9 v10 v11 a fs'.length c x' (.int .u64 (tm S.E x').key),.own 5001 a fs'.length c zi 8 (frs S fs')]:=by
 rcases h with ⟨rfl,rfl⟩|⟨h,hx⟩
 ·refine Calls.mono (zsC bp bt bs b v0 v6 v7 v8 v9 v10 v11 S j _ a c f1 f2 fp w hR) ?_
  rintro e w' ⟨v,L1,h1,h2,h3,h4⟩
  exact ⟨v,L1,h1,h2,[],0,_,_,UpE.none,h3,h4⟩
 ·refine Calls.mono (ztP bp bt bs b v0 v6 v7 v8 v9 v10 v11 S hw T hT j fs x h hx hcl _ a c f1 f2 fp w hR hG) ?_
  rintro e w' ⟨v,L1,h1,h2,fs',x',k',g1,g2,hU,h3,h4⟩
  have hk:=hU.2.2.2.1 rfl
  subst hk
  exact ⟨v,L1,h1,h2,fs',x',_,_,hU.e h.x1,h3,h4⟩
theorem zsF (bp bt bs b:Nat) (v0 v1 v2 v3 v4 v5 v11:Value) (S:Sto) (hw:WF S) (T:Tm) (hT:Is T) (j:Nat) (fs:List FrI) (x:Int) (h:EndI S true T j fs x) (hcl:Cl S (j+1) fs) (a:Option Addr) (c:Nat) (f1 f2 fp:List Nat) (w:World)
 (hR:R w fp (fP bp bt bs S f1 f2++[bxR b bp v0 v1 v2 v3 v4 v5 v11 a fs.length c x (.int .u64 (tm S.E x).key),.own 5002 a fs.length c zi 8 (frs S fs)]) w) (hG:qq w fp) :
 Calls Tryz.prog qB #[.pointer (some ⟨b,6,none⟩),.int .i64 ((j+1:Nat):Int)] w fun e w'=>∃ v L1,e=.returned v/\R w fp L1 w'/\∃ fs' x' f1' f2',UpE S true T j fs x fs' x'/\v=.tuple #[]/\L1=fP bp bt bs S f1' f2'++[bxR b bp v0 v1 v2 v3 v4 v5 v11 a fs'.length c x' (.int .u64 (tm S.E x').key),.own 5002 a fs'.length c zi 8 (frs S fs')]:=by
 rcases h with ⟨rfl,rfl⟩|⟨h,hx⟩
 ·refine Calls.mono (zsD bp bt bs b v0 v1 v2 v3 v4 v5 v11 S j _ a c f1 f2 fp w hR) ?_
  rintro e w' ⟨v,L1,h1,h2,h3,h4⟩
  exact ⟨v,L1,h1,h2,[],0,_,_,UpE.none,h3,h4⟩
 ·refine Calls.mono (zm7 bp bt bs b v0 v1 v2 v3 v4 v5 v11 S hw T hT j fs x h hx hcl _ a c f1 f2 fp w hR hG) ?_
  rintro e w' ⟨v,L1,h1,h2,fs',x',k',g1,g2,hU,h3,h4⟩
  have hk:=hU.2.2.2.1 rfl
  subst hk
  exact ⟨v,L1,h1,h2,fs',x',_,_,hU.e h.x1,h3,h4⟩
structure McG where
 S:Sto
 l:List It
 a:Option Addr
 c:Nat
 f1:List Nat
 f2:List Nat
structure LevQ (S S':Sto) (T T2:Tm) (j:Nat) (fL:List FrI) (xL:Int) (M:List It) (fR:List FrI) (xR:Int) (fL':List FrI) (xL':Int) (M':List It) (fR':List FrI) (xR':Int):Prop where
 mid:MrgQ S S' (j+1) M M'
 left:UpE S' false T j fL xL fL' xL'
 right:UpE S' true T2 j fR xR fR' xR'
theorem zqM (bp bt bs b:Nat) (S:Sto) (hw:WF S) (T T2:Tm) (hT:Is T) (hT2:Is T2) (j:Nat) (hjl:j<=1000000) (aL:Option Addr) (fL:List FrI) (cL:Nat) (xL:Int) (aR:Option Addr) (fR:List FrI) (cR:Nat) (xR:Int) (aM:Option Addr) (M:List It) (cM:Nat)
 (hL:EndI S false T j fL xL) (hcL:Cl S (j+1) fL) (hE0:EndI S true T2 j fR xR) (hcR:Cl S (j+1) fR) (hM:∀ y∈M,ItOk S y/\itL (j+1) y) (hroom:S.E.length+(exM S M).length<=S.most) (hmost:S.most<=1048576) (hLM:(zF (exM S M)).length<=LM) (hn:(exM S M).length<=999999)
 (f1 f2 fp:List Nat) (w:World) (hR:R w fp (fP bp bt bs S f1 f2++spH b bp S aL fL cL xL aR fR cR xR aM M cM) w) (hG:qq w fp) :
 Calls Tryz.prog vR #[pS b,.int .i64 ((j+1:Nat):Int)] w fun e w'=>∃ v L1,e=.returned v/\R w fp L1 w'/\∃ S' fL' xL' fR' xR' aM' M' cM' g1 g2,LevQ S S' T T2 j fL xL M fR xR fL' xL' M' fR' xR'/\v=.nilIface/\L1=fP bp bt bs S' g1 g2++spH b bp S' aL fL' cL xL' aR fR' cR xR' aM' M' cM':=by
 refine zf [.ptr 5000 b 0,.v (.int .i64 ((j+1:Nat):Int))] zfx (by simp) hR ?_
 have cn:=fun w=>zhx ((j+1:Nat):Int) w (by omega)
 (repeat' ((conv=>whnf);first|((first|apply zb|apply za|apply zc)<;>intro h<;>try (exfalso;omega))|refine pay ?_|intro _));(all_goals (conv=>whnf))
 refine zcw McG (fun y=>[(0,.ptr 5000 b 0),(1,.v (.int .i64 ((j+1:Nat):Int))),(5,.v .nilIface)])
  (fun y=>fP bp bt bs y.S y.f1 y.f2++[bxS b bp aL fL.length cL xL (tm S.E xL).key aR fR.length cR xR (tm S.E xR).key y.a y.l.length y.c,.own 5001 aL fL.length cL zi 8 (frs S fL),.own 5002 aR fR.length cR zi 8 (frs S fR),.own 5003 y.a y.l.length y.c zj 4 (its y.S y.l)])
  (fun y=>MrgQ S y.S (j+1) M y.l) ?_ ?_
 ·by_cases hj:(j+1)%2=1
  ·have hji:((j+1:Nat):Int)%2=1:=by omega
   have cm:=fun f1 f2 fp w hR hG=>zlu bp bt bs b (pS bp) (.bool false) (.slice aL fL.length cL) (.int .i64 xL) (.int .u64 (tm S.E xL).key) (pS bp) (.bool true) (.slice aR fR.length cR) (.int .i64 xR) (.int .u64 (tm S.E xR).key) S hw (j+1) hj aM M cM (fun y hy=>by have h:=hM y hy;have h2:=h.2;unfold itL at h2;rw [if_pos hj] at h2;exact ⟨h.1,h2⟩) hroom hmost hLM hn f1 f2 fp w hR hG
   (repeat' ((conv=>whnf);first|(refine zh [78,77,3000,5000,5003] rfl (fun w hR h=>cm _ _ _ w h (hG.castL hR)) ?_;rintro _ _ ⟨S',l,a',c',g1,g2,hQ,rfl,rfl⟩;refine ⟨.v _,rfl,?_⟩)|refine zg ?_|((first|apply zb|apply za|apply zc)<;>intro h<;>try (exfalso;omega))|refine pay ?_|intro _));(all_goals (conv=>whnf))
   all_goals first|(exfalso;((try dsimp only at *);omega))|skip
   exact qh (⟨S',l,a',c',g1,g2⟩:McG) hQ (by (repeat ((conv=>whnf);refine vS ?_));exact trivial) (Ref.takes [78,77,3000,5000,5001,5002,5010] rfl (.keep rfl (fun _ h=>h) (.keep rfl (fun _ h=>h) (.keep rfl (fun _ h=>h) (.keep rfl (fun _ h=>h) (.keep rfl (fun _ h=>h) (.keep rfl (fun _ h=>h) (.keep rfl (fun _ h=>h) (.refl _)))))))))
  ·have hj0:(j+1)%2=0:=by omega
   by_cases ht:qE ((j+1:Nat):Int)=true
   ·have cm:=fun f1 f2 fp w hR hG=>zpL bp bt bs b (pS bp) (.bool false) (.slice aL fL.length cL) (.int .i64 xL) (.int .u64 (tm S.E xL).key) (pS bp) (.bool true) (.slice aR fR.length cR) (.int .i64 xR) (.int .u64 (tm S.E xR).key) S hw (j+1) hj0 ht aM M cM (fun y hy=>by have h:=hM y hy;have h2:=h.2;unfold itL at h2;rw [if_neg hj,if_pos ht] at h2;exact ⟨h.1,h2⟩) hroom hmost hLM hn f1 f2 fp w hR hG
    rw [ht] at cn
    (repeat' ((conv=>whnf);first|(first|refine puK cn ?_|refine quK cn ?_)|(refine zh [78,77,3000,5000,5003] rfl (fun w hR h=>cm _ _ _ w h (hG.castL hR)) ?_;rintro _ _ ⟨S',l,a',c',g1,g2,hQ,rfl,rfl⟩;refine ⟨.v _,rfl,?_⟩)|refine zg ?_|((first|apply zb|apply za|apply zc)<;>intro h<;>try (exfalso;omega))|refine pay ?_|intro _));(all_goals (conv=>whnf))
    all_goals first|(exfalso;((try dsimp only at *);omega))|skip
    exact qh (⟨S',l,a',c',g1,g2⟩:McG) hQ (by (repeat ((conv=>whnf);refine vS ?_));exact trivial) (Ref.takes [78,77,3000,5000,5001,5002,5010] rfl (.keep rfl (fun _ h=>h) (.keep rfl (fun _ h=>h) (.keep rfl (fun _ h=>h) (.keep rfl (fun _ h=>h) (.keep rfl (fun _ h=>h) (.keep rfl (fun _ h=>h) (.keep rfl (fun _ h=>h) (.refl _)))))))))
   ·have ht':qE ((j+1:Nat):Int)=false:=by simpa using ht
    have cm:=fun f1 f2 fp w hR hG=>zkl bp bt bs b (pS bp) (.bool false) (.slice aL fL.length cL) (.int .i64 xL) (.int .u64 (tm S.E xL).key) (pS bp) (.bool true) (.slice aR fR.length cR) (.int .i64 xR) (.int .u64 (tm S.E xR).key) S hw (j+1) hj0 (by omega) aM M cM (fun y hy=>by have h:=hM y hy;have h2:=h.2;unfold itL at h2;rw [if_neg hj,if_neg ht] at h2;exact ⟨h.1,h2⟩) hroom hmost hLM hn f1 f2 fp w hR hG
    rw [ht'] at cn
    (repeat' ((conv=>whnf);first|(first|refine puK cn ?_|refine quK cn ?_)|(refine zh [78,77,3000,5000,5003] rfl (fun w hR h=>cm _ _ _ w h (hG.castL hR)) ?_;rintro _ _ ⟨S',l,a',c',g1,g2,hQ,rfl,rfl⟩;refine ⟨.v _,rfl,?_⟩)|refine zg ?_|((first|apply zb|apply za|apply zc)<;>intro h<;>try (exfalso;omega))|refine pay ?_|intro _));(all_goals (conv=>whnf))
    all_goals first|(exfalso;((try dsimp only at *);omega))|skip
    exact qh (⟨S',l,a',c',g1,g2⟩:McG) hQ (by (repeat ((conv=>whnf);refine vS ?_));exact trivial) (Ref.takes [78,77,3000,5000,5001,5002,5010] rfl (.keep rfl (fun _ h=>h) (.keep rfl (fun _ h=>h) (.keep rfl (fun _ h=>h) (.keep rfl (fun _ h=>h) (.keep rfl (fun _ h=>h) (.keep rfl (fun _ h=>h) (.keep rfl (fun _ h=>h) (.refl _)))))))))
 ·rintro ⟨S',l,a',c',q1,q2⟩ hQ
  dsimp only at hQ ⊢
  obtain ⟨k1,k2,k3,k4,k5⟩:=hL.grow hQ.grow
  obtain ⟨m1,m2,m3,m4,m5⟩:=hE0.grow hQ.grow
  have cu:=fun f1 f2 fp w hR hG=>zsE bp bt bs b (pS bp) (pS bp) (.bool true) (.slice aR fR.length cR) (.int .i64 xR) (.int .u64 (tm S.E xR).key) (.slice a' l.length c') S' hQ.wf T hT j fL xL k1 (k5 _ hcL) aL cL f1 f2 fp w hR hG
  rw [k3,k4] at cu
  have cv:=fun fL' xL' f1 f2 fp w hR hG=>zsF bp bt bs b (pS bp) (pS bp) (.bool false) (.slice aL (List.length (α:=FrI) fL') cL) (.int .i64 xL') (.int .u64 (tm S'.E xL').key) (.slice a' l.length c') S' hQ.wf T2 hT2 j fR xR m1 (m5 _ hcR) aR cR f1 f2 fp w hR hG
  rw [m3,m4] at cv
  (repeat' ((conv=>whnf);first|(refine zh [78,77,3000,5000,5001] rfl (fun w hR h=>cu _ _ _ w h (hG.castL hR)) ?_;rintro _ _ ⟨fL',xL',g1,g2,hU,rfl,rfl⟩;refine ⟨.v _,rfl,?_⟩)|(refine zh [78,77,3000,5000,5002] rfl (fun w hR h=>cv _ _ _ _ _ w h (hG.castL hR)) ?_;rintro _ _ ⟨fR',xR',g3,g4,hV,rfl,rfl⟩;refine ⟨.v _,rfl,?_⟩)|refine zg ?_|((first|apply zb|apply za|apply zc)<;>intro h<;>try (exfalso;omega))|refine pay ?_|intro _));(all_goals (conv=>whnf))
  all_goals first|(exfalso;((try dsimp only at *);omega))|skip
  exact ⟨⟨_,Ref.takes [78,77,3000,5000,5001,5002,5003] rfl (.refl _),S',fL',xL',fR',xR',a',l,c',_,_,⟨hQ,hU,hV⟩,rfl,rfl⟩⟩
end
section
open Go.EG
theorem zlv:∀ (k:Nat) {n:Nat} (hn:n%2=0) {t:List Nat} (hp:0<t.length),(zI (zx t n)).length<=2 ^ k->(zx t (n+492*k+1)).length=1
 | 0,n,hn,t,hp,h => by
   rw [zx,vF (by omega),vl]
   have h1:=zee hp (n+492*0+1)
   rw [zx,vF (by omega),vl] at h1
   simp only [Nat.mul_zero,Nat.add_zero,Nat.pow_zero] at h h1 ⊢
   omega
 | k + 1,n,hn,t,hp,h => by
   have s1:=zrt t hn (k:=n+246) rfl
   have s2:=zrt t (n:=n+246) (by omega) (k:=n+492) (by omega)
   have ih:=zlv k (n:=n+492) (by omega) hp (by rw [Nat.pow_succ] at h;omega)
   rw [show n+492*(k+1)+1=n+492+492*k+1 by omega]
   exact ih
theorem zpM {t:List Nat} (hp:0<t.length) (hl:t.length<=LM):(zx t 29521).length=1:=by
 have h1:=(zbX (zx t 0)).1
 have h2:(zx t 0).length=t.length:=by simp [zx]
 have hLM:LM=2 ^ 60:=rfl
 exact zlv 60 (n:=0) rfl hp (by omega)
theorem zvB {t:List Nat} {m:Tm} (hp:0<t.length) (hl:t.length<=LM) (h:Sig t m):m.level<=29521:=by
 obtain ⟨L,h1,h2⟩:=h
 rw [za0 m h1 h2]
 have h3:=zpM hp hl
 by_cases hL:L<=29521
 ·omega
 ·have:=h2 29521 (by omega)
  omega
structure SpI (S0 S:Sto) (t:List Nat) (T T2:Tm) (j:Nat) (fL:List FrI) (xL:Int) (M:List It) (fR:List FrI) (xR:Int):Prop where
 wf:WF S
 grow:Grow S0 S
 enL:EndI S false T j fL xL
 enR:EndI S true T2 j fR xR
 ok:∀ y∈M,ItOk S y/\y.n=0/\((j+1)%2=0->y.t=1)
 seq:zx t j=zM S false j fL xL++(exM S M++zM S true j fR xR)
 cnt:S.E.length+(zx t j).length<=S0.E.length+t.length
theorem zrB (t:List Nat):∀ j,(zx t j).length<=t.length
 | 0=>by simp [zx]
 | j + 1 => by
   have:=zcH (j+1) (zx t j)
   rw [zx]
   exact Nat.le_trans this (zrB t j)
theorem SpI.start {S:Sto} (hw:WF S) {a b:List Nat} {T T2:Tm} (h1:Sig a T) (h2:Sig b T2) {fL fR:List FrI} {xL xR:Int} (hL:EnS S false T 0 fL xL) (hx:(tm S.E xL).level<=((0:Nat):Int)) (hR:EnS S true T2 0 fR xR) (hy:(tm S.E xR).level<=((0:Nat):Int))
 (hl:left false 0 (fL.map (frM S)) (tm S.E xL)=left false 0 [] T) (hr:left true 0 (fR.map (frM S)) (tm S.E xR)=left true 0 [] T2):SpI S S (a++b) T T2 0 fL xL [] fR xR:=by
 have l1:=hL.x1
 have r1:=hR.x1
 obtain ⟨L1,p1,p2⟩:=h1
 obtain ⟨L2,q1,q2⟩:=h2
 have e1:left false 0 [] T=zx a 0:=by
  have:=zhe (n:=0) T p1 p2
  rw [←this]
  simp [left,vP,ap,zbo]
 have e2:left true 0 [] T2=zx b 0:=by
  have:=zhe (n:=0) T2 q1 q2
  rw [←this]
  simp [left,vP,ap,zbo]
 refine ⟨hw,Grow.refl S,.inr ⟨hL,hx⟩,.inr ⟨hR,hy⟩,fun y hy=>by simp at hy,?_,by simp [zx]⟩
 rw [qm (by omega),qm (by omega),hl,hr,e1,e2]
 simp [zx,zb1]
theorem SpI.next {S0 S S':Sto} {t:List Nat} {T T2:Tm} {j:Nat} {fL:List FrI} {xL:Int} {M:List It} {fR:List FrI} {xR:Int} (h:SpI S0 S t T T2 j fL xL M fR xR) {fL1:List FrI} {xL1:Int} {M1:List It} {fR1:List FrI} {xR1:Int} (hg:GatQ S T T2 j fL xL M fR xR fL1 xL1 M1 fR1 xR1)
 {fL2:List FrI} {xL2:Int} {M2:List It} {fR2:List FrI} {xR2:Int} (hm:LevQ S S' T T2 j fL1 xL1 M1 fR1 xR1 fL2 xL2 M2 fR2 xR2):SpI S0 S' t T T2 (j+1) fL2 xL2 M2 fR2 xR2:=by
 obtain ⟨_,k2,_⟩:=hg.enL.grow hm.mid.grow
 obtain ⟨_,m2,_⟩:=hg.enR.grow hm.mid.grow
 have e1:=hm.left.step
 have e2:=hm.right.step
 rw [k2] at e1
 rw [m2] at e2
 have hs:=hg.step
 rw [←h.seq,e1,e2,←hm.mid.ex] at hs
 have hs':zx t (j+1)=zM S' false (j+1) fL2 xL2++(exM S' M2++zM S' true (j+1) fR2 xR2):=hs
 refine ⟨hm.mid.wf,h.grow.trans hm.mid.grow,hm.left.en,hm.right.en,fun y hy=>?_,hs',?_⟩
 ·obtain ⟨a1,a2,a3⟩:=hm.mid.ok y hy
  exact ⟨a1,a2,fun h=>a3 (by omega)⟩
 ·have c1:=h.cnt
  have c2:=hm.mid.cnt
  have c3:=zcH (j+1) (zM S false j fL1 xL1)
  have c4:=zcH (j+1) (zM S true j fR1 xR1)
  rw [e1] at c3
  rw [e2] at c4
  rw [h.seq,hg.seq] at c1
  rw [hs']
  simp only [g6q] at c1 ⊢
  omega
theorem zpN {S:Sto} {bh:Bool} {T:Tm} {j:Nat} {fs:List FrI} {x:Int} (h:EndI S bh T j fs x):(zF (zM S bh j fs x)).length<=T.txt.length:=by
 rcases h with ⟨rfl,rfl⟩|⟨h,hx⟩
 ·rw [yn];exact Nat.zero_le _
 ·have h1:=h.x1
  have e:=congrArg zF h.whole
  rw [zb0] at e
  rw [qm (by omega),e]
  cases bh<;>(simp only [ap];rw [qv,g6q];omega)
theorem SpI.exit {S0 S:Sto} {t:List Nat} {T T2:Tm} {j:Nat} {fL:List FrI} {xL:Int} {M:List It} {fR:List FrI} {xR:Int} (h:SpI S0 S t T T2 j fL xL M fR xR) (ht:t.length=T.txt.length+T2.txt.length) (h1:0<T.txt.length) (h2:0<T2.txt.length) (hs:(zx t j).length=1) :
 xL=0/\xR=0/\M.length=1/\(M.getD 0 it0).t=1:=by
 obtain ⟨m,hm⟩:=List.length_eq_one_iff.1 hs
 have e:=h.seq
 have htx:zF (zx t j)=t:=vm t j
 rw [hm,qJ] at htx
 have lL:=zpN h.enL
 have lR:=zpN h.enR
 have nz:∀ {bh:Bool} {T:Tm} {fs:List FrI} {x:Int},EndI S bh T j fs x->zM S bh j fs x=[]->x=0:=fun {bh T fs x} he hl=>by
  rcases he with ⟨rfl,_⟩|⟨he,hx⟩
  ·rfl
  ·have:=he.x1
   rw [qm (by omega)] at hl
   exact absurd hl (zrz hx)
 rw [hm] at e
 have hlen:=congrArg List.length e
 simp only [g6q,List.length_singleton] at hlen
 have hL:zM S false j fL xL=[]:=by
  by_cases hl:zM S false j fL xL=[]
  ·exact hl
  ·exfalso
   have:0<(zM S false j fL xL).length:=List.length_pos_iff.2 hl
   obtain ⟨y,hy⟩:=List.length_eq_one_iff.1 (show (zM S false j fL xL).length=1 by omega)
   rw [hy] at e lL
   simp only [List.singleton_append,List.cons.injEq] at e
   rw [←e.1,qJ,htx] at lL
   omega
 have hR:zM S true j fR xR=[]:=by
  by_cases hl:zM S true j fR xR=[]
  ·exact hl
  ·exfalso
   have:0<(zM S true j fR xR).length:=List.length_pos_iff.2 hl
   obtain ⟨y,hy⟩:=List.length_eq_one_iff.1 (show (zM S true j fR xR).length=1 by omega)
   have hM0:exM S M=[]:=List.eq_nil_of_length_eq_zero (by omega)
   rw [hL,hM0,hy] at e
   rw [hy] at lR
   simp only [List.nil_append,List.cons.injEq,and_true] at e
   rw [←e,qJ,htx] at lR
   omega
 rw [hL,hR] at hlen
 simp only [List.length_nil,Nat.zero_add,Nat.add_zero] at hlen
 refine ⟨nz h.enL hL,nz h.enR hR,?_⟩
 have hml:=vd (M:=M) fun y hy=>(h.ok y hy).1
 cases M with
 | nil=>simp [zb1] at hlen
 | cons y M =>
   have hy:=h.ok y g5q
   have ht1:=hy.1.t1
   rw [yT,g6q,za2,if_pos hy.2.1] at hlen
   have hM0:=vd (M:=M) fun z hz=>(h.ok z (g4q _ hz)).1
   refine ⟨by rw [List.length_cons];omega,?_⟩
   show y.t=1
   omega
theorem SpI.fin {S0 S:Sto} {t:List Nat} {T T2:Tm} {j:Nat} {fL:List FrI} {M:List It} {fR:List FrI} (h:SpI S0 S t T T2 j fL 0 M fR 0) (hp:0<t.length) (h1:M.length=1) (h2:(M.getD 0 it0).t=1) :
 Sig t (tm S.E (M.getD 0 it0).i)/\1<=(M.getD 0 it0).i/\(M.getD 0 it0).i<=S.E.length/\S.E.length+1<=S0.E.length+t.length:=by
 obtain ⟨y,rfl⟩:=List.length_eq_one_iff.1 h1
 have hy:=h.ok y g5q
 have e:=h.seq
 rw [yn,yn,List.nil_append,List.append_nil,xw,xm hy.2.1] at e
 change y.t=1 at h2
 rw [h2] at e
 have hc:=h.cnt
 rw [e] at hc
 exact ⟨kP hp (k:=j) e,hy.1.i1,hy.1.i2,hc⟩
end
section
open Go.EG
attribute [local irreducible] z8 yN Go.Calls
set_option maxRecDepth 20000
set_option maxHeartbeats 4000000
def SigI (S:Sto) (x:Int) (a:List Nat):Prop:=(x=0/\a=[])∨(1<=x/\x<=S.E.length/\Sig a (tm S.E x))
theorem SigI.txt {S:Sto} {x:Int} {a:List Nat} (h:SigI S x a):(tm S.E x).txt=a:=by
 rcases h with ⟨rfl,rfl⟩|⟨_,_,L,h,_⟩
 ·rfl
 ·have:=congrArg zF h
  rw [vm,qJ] at this
  exact this.symm
theorem SigI.known {S:Sto} {x:Int} {a:List Nat} (h:SigI S x a):known S x:=by
 rcases h with ⟨rfl,rfl⟩|⟨h1,h2,_⟩
 ·exact ⟨Int.le_refl _,by omega⟩
 ·exact ⟨by omega,h2⟩
theorem SigI.grow {S S':Sto} {x:Int} {a:List Nat} (h:SigI S x a) (g:Grow S S'):SigI S' x a:=by
 rcases h with h|⟨h1,h2,h3⟩
 ·exact .inl h
 ·have:=g.len
  exact .inr ⟨h1,by omega,by rw [g.tm h2];exact h3⟩
theorem SigI.level {S:Sto} {x:Int} {a:List Nat} (hw:WF S) (h:SigI S x a):0<=(tm S.E x).level/\(tm S.E x).level<=29521:=by
 rcases h with ⟨rfl,rfl⟩|⟨h1,h2,h3⟩
 ·have e:(tm S.E 0).level=0:=rfl
  rw [e];exact ⟨Int.le_refl _,by decide⟩
 ·have hp:=hw.pos1 h1 h2
  have hl:=hw.le h2
  have ht:=SigI.txt (.inr ⟨h1,h2,h3⟩)
  unfold Tm.len at hp hl
  rw [ht] at hp hl
  refine ⟨?_,zvB hp hl h3⟩
  obtain ⟨L,q1,q2⟩:=h3
  have:=za0 _ q1 q2
  omega
theorem zak (bp bt bs:Nat) (S:Sto) (hw:WF S) (id:Int) (a:List Nat) (h:SigI S id a) (f1 f2 fp:List Nat) (w:World) (hR:R w fp (fP bp bt bs S f1 f2) w) (hG:qq w fp) :
 Calls Tryz.prog yY #[pS bp,.int .i64 id] w fun e w'=>∃ v L1,e=.returned v/\R w fp L1 w'/\∃ g1 g2,v=.tuple #[.int .i64 (tm S.E id).level,.nilIface]/\L1=fP bp bt bs S g1 g2:=by
 refine zf [.ptr 3000 bp 0,.v (.int .i64 id)] zdp (by simp) hR ?_
 have hlv:=(h.level hw).1
 rcases h with ⟨rfl,rfl⟩|⟨h1,h2,h3⟩
 ·(repeat' ((conv=>whnf);first|refine zg ?_|((first|apply zb|apply za|apply zc)<;>intro h<;>try (exfalso;omega))|refine pay ?_|intro _));(all_goals (conv=>whnf))
  all_goals first|(exfalso;omega)|exact ⟨⟨_,Ref.takes [78,77,3000] rfl (.refl _),_,_,rfl,rfl⟩⟩
 ·have c2:=zat bt bs S hw id
  unfold zed at c2
  rw [if_pos ⟨h1,h2⟩,if_neg (by omega)] at c2
  (repeat' ((conv=>whnf);first|(refine zZ (key1:=78) (key2:=77) rfl rfl (fun w hR h0=>c2 _ _ _ _ _ h0 (hG.cast2 hR)) ?_;rintro _ _ ⟨rfl,fp1',fp2',rfl⟩;refine ⟨.v _,rfl,?_⟩)|refine zg ?_|((first|apply zb|apply za|apply zc)<;>intro h<;>try (exfalso;omega))|refine pay ?_|intro _));(all_goals (conv=>whnf))
  all_goals first|(exfalso;omega)|exact ⟨⟨_,Ref.takes [78,77,3000] rfl (.refl _),_,_,rfl,rfl⟩⟩
structure SpG where
 S:Sto
 j:Nat
 aL:Option Addr
 fL:List FrI
 cL:Nat
 xL:Int
 aR:Option Addr
 fR:List FrI
 cR:Nat
 xR:Int
 aM:Option Addr
 M:List It
 cM:Nat
 f1:List Nat
 f2:List Nat
structure JnQ (S S':Sto) (t:List Nat) (z:Int):Prop where
 wf:WF S'
 grow:Grow S S'
 sig:SigI S' z t
 cnt:S'.E.length<=S.E.length+t.length
theorem zpO (bp bt bs:Nat) (S:Sto) (hw:WF S) (a b:Int) (ta tb:List Nat) (ha:SigI S a ta) (hb:SigI S b tb) (ha0:a≠0) (hb0:b≠0) (hroom:S.E.length+(ta.length+tb.length)<=S.most) (hmost:S.most<=1048576) (hn:ta.length+tb.length<=999999) (f1 f2 fp:List Nat) (w:World) (hR:R w fp (fP bp bt bs S f1 f2) w) (hG:qq w fp) :
 Calls Tryz.prog us #[pS bp,.int .i64 a,.int .i64 (tm S.E a).txt.length,.int .i64 b,.int .i64 0] w fun e w'=>∃ v L1,e=.returned v/\R w fp L1 w'/\∃ S' z g1 g2,JnQ S S' (ta++tb) z/\v=.tuple #[.int .i64 z,.nilIface]/\L1=fP bp bt bs S' g1 g2:=by
 refine zf [.v (pS bp),.v (.int .i64 a),.v (.int .i64 (tm S.E a).txt.length),.v (.int .i64 b),.v (.int .i64 0)] zge (by simp) hR ?_
 have hsm:=hw.small
 have hka:=ha.known
 have hkb:=hb.known
 have hla:=ha.level hw
 have hlb:=hb.level hw
 have hta:=ha.txt
 have htb:=hb.txt
 have ca:=fun f1 f2 fp w hR hG=>zak bp bt bs S hw a ta ha f1 f2 fp w hR hG
 have cb:=fun f1 f2 fp w hR hG=>zak bp bt bs S hw b tb hb f1 f2 fp w hR hG
 have csa:=fun f1 f2 fp w hR=>kS bp bt bs S hw a hka f1 f2 fp w hR
 have csb:=fun f1 f2 fp w hR=>kS bp bt bs S hw b hkb f1 f2 fp w hR
 rw [hta] at csa
 rw [htb] at csb
 have hpa:0<ta.length:=by
  have:=hw.pos1 (show 1<=a by have:=hka.1;omega) hka.2
  unfold Tm.len at this;rw [hta] at this;exact this
 have hpb:0<tb.length:=by
  have:=hw.pos1 (show 1<=b by have:=hkb.1;omega) hkb.2
  unfold Tm.len at this;rw [htb] at this;exact this
 rw [hta]
 (repeat' ((conv=>whnf);first|refine zg ?_|((first|apply zb|apply za|apply zc)<;>intro h<;>try (exfalso;omega))|refine pay ?_|intro _));(all_goals (conv=>whnf))
 refine zP (Nat × List Nat × List Nat) (fun y=>[(0,.v (pS bp)),(1,.v (.int .i64 a)),(2,.v (.int .i64 ta.length)),(3,.v (.int .i64 b)),(4,.v (.int .i64 0)),(22,.v (.agg #[.int .i64 a,.int .i64 b])),(23,.v (.int .i64 y.1))])
  (fun y=>fP bp bt bs S y.2.1 y.2.2) (fun y=>y.1<=2) (fun y=>2 - y.1) (0,f1,f2) (Nat.zero_le 2) (by (repeat ((conv=>whnf);refine vS ?_));exact trivial) (Ref.takes [78,77,3000] rfl (.refl _)) ?_
 clear hR
 rintro ⟨i,g1,g2⟩ hi
 dsimp only at hi ⊢
 obtain rfl|rfl|rfl:i=0∨i=1∨i=2:=by omega
 ·(repeat' ((conv=>whnf);first|refine ⟨.int .i64 a,rfl,?_⟩|(refine zh [78,77,3000] rfl (fun w hR h=>ca _ _ _ w h (hG.castL hR)) ?_;rintro _ _ ⟨q1,q2,rfl,rfl⟩;refine ⟨.v _,rfl,?_⟩)|refine zg ?_|((first|apply zb|apply za|apply zc)<;>intro h<;>try (exfalso;omega))|refine pay ?_|intro _));(all_goals (conv=>whnf))
  all_goals first|(exfalso;((try dsimp only at *);omega))|skip
  all_goals exact zm (1,_,_) (by dsimp only;omega) (by dsimp only;omega) (by (repeat ((conv=>whnf);refine vS ?_));exact trivial) (Ref.takes [78,77,3000] rfl (.refl _))
 ·(repeat' ((conv=>whnf);first|refine ⟨.int .i64 b,rfl,?_⟩|(refine zh [78,77,3000] rfl (fun w hR h=>cb _ _ _ w h (hG.castL hR)) ?_;rintro _ _ ⟨q1,q2,rfl,rfl⟩;refine ⟨.v _,rfl,?_⟩)|refine zg ?_|((first|apply zb|apply za|apply zc)<;>intro h<;>try (exfalso;omega))|refine pay ?_|intro _));(all_goals (conv=>whnf))
  all_goals first|(exfalso;((try dsimp only at *);omega))|skip
  all_goals exact zm (2,_,_) (by dsimp only;omega) (by dsimp only;omega) (by (repeat ((conv=>whnf);refine vS ?_));exact trivial) (Ref.takes [78,77,3000] rfl (.refl _))
 ·have ha1:1<=a:=by have:=hka.1;omega
  have hb1:1<=b:=by have:=hkb.1;omega
  have hsa:Sig ta (tm S.E a):=by
   rcases ha with ⟨h,_⟩|⟨_,_,h⟩
   ·exact absurd h ha0
   ·exact h
  have hsb:Sig tb (tm S.E b):=by
   rcases hb with ⟨h,_⟩|⟨_,_,h⟩
   ·exact absurd h hb0
   ·exact h
  have cnA:=fun f1 f2 fp w hR hG=>znD bp bt bs S hw a ha1 hka.2 hla.1 f1 f2 fp w hR hG
  have cnB:=fun f1 f2 fp w hR hG=>znE bp bt bs S hw b hb1 hkb.2 hlb.1 f1 f2 fp w hR hG
  rw [hta] at cnA
  rw [htb] at cnB
  (repeat' ((conv=>whnf);first|rw [Int.sub_zero]|(refine zh [78,77,3000] rfl (fun w hR h=>csb _ _ _ w h) ?_;rintro _ _ ⟨q2,rfl,rfl⟩;refine ⟨.v _,rfl,?_⟩)|(refine zh [78,77,3000] rfl (fun w hR h=>cnA _ _ _ w h (hG.castL hR)) ?_;rintro _ _ ⟨fL,xL,aL,cL,p1,p2,hDL,hxL,rfl,rfl⟩;refine ⟨.v _,rfl,?_⟩)|(refine zh [78,77,3000] rfl (fun w hR h=>cnB _ _ _ w h (hG.castL hR)) ?_;rintro _ _ ⟨fR,xR,aR,cR,p3,p4,hDR,hxR,rfl,rfl⟩;refine ⟨.v _,rfl,?_⟩)|refine zg ?_|((first|apply zb|apply za|apply zc)<;>intro h<;>try (exfalso;omega))|refine pay ?_|intro _));(all_goals (conv=>whnf))
  all_goals first|(exfalso;((try dsimp only at *);omega))|skip
  rename_i bz
  have hst:=SpI.start hw hsa hsb hDL.toEnS (by simpa using hxL) hDR.toEnS (by simpa using hxR) hDL.left hDR.left
  have hlen:(ta++tb).length=(tm S.E a).txt.length+(tm S.E b).txt.length:=by rw [g6q,hta,htb]
  have hp0:0<(ta++tb).length:=by rw [g6q];omega
  have hLM:LM=1152921504606846976:=rfl
  have hend:=zpM hp0 (by rw [g6q];omega)
  refine zP SpG (fun y=>[(0,.v (pS bp)),(17,.ptr 5000 bz 0),(18,.v (.int .i64 ((y.j+1:Nat):Int)))])
   (fun y=>fP bp bt bs y.S y.f1 y.f2++spH bz bp y.S y.aL y.fL y.cL y.xL y.aR y.fR y.cR y.xR y.aM y.M y.cM)
   (fun y=>SpI S y.S (ta++tb) (tm S.E a) (tm S.E b) y.j y.fL y.xL y.M y.fR y.xR/\(zx (ta++tb) y.j).length≠1) (fun y=>29521 - y.j) ⟨S,0,aL,fL,cL,xL,aR,fR,cR,xR,none,[],0,p3,p4⟩
   ⟨hst,by simp only [zx,g8q,g6q];omega⟩ (by (repeat ((conv=>whnf);refine vS ?_));exact trivial) ((Ref.ownNil 5003 zj 4).trans (Ref.takes [78,77,3000,17,5001,5002,5003] rfl (.keep rfl (fun _ h=>h) (.keep rfl (fun _ h=>h) (.keep rfl (fun _ h=>h) (.keep rfl (fun _ h=>h) (.refl _))))))) ?_
  have hT:=Is.sig hsa (hw.pos_ ha1 hka.2)
  have hT2:=Is.sig hsb (hw.pos_ hb1 hkb.2)
  clear cnA cnB ca cb csa csb hDL hDR hst hxL hxR
  rintro ⟨S1,j,aL,fL,cL,xL,aR,fR,cR,xR,aM,M,cM,f1,f2⟩ ⟨hI,hne⟩
  dsimp only at hI hne ⊢
  have hjl:j<29521:=by
   apply Nat.lt_of_not_le
   intro h
   obtain ⟨m,hm⟩:=List.length_eq_one_iff.1 hend
   rw [xA hm j h] at hne
   exact hne rfl
  have hsl:=zrB (ta++tb) j
  rw [g6q] at hsl
  have hcn:=hI.cnt
  rw [g6q] at hcn
  have hmo:=hI.grow.most
  have hgl:=hI.grow.len
  have cg:=fun f1 f2 fp w hR hG=>zpJ bp bt bs bz S1 hI.wf (tm S.E a) (tm S.E b) hT hT2 j (by omega) aL fL cL xL aR fR cR xR aM M cM hI.enL hI.enR (fun y hy=>(hI.ok y hy).1) (fun y hy=>(hI.ok y hy).2) (by rw [←hI.seq];omega) f1 f2 fp w hR hG
  (repeat' ((conv=>whnf);first|(refine zh [78,77,3000,5000,5001,5002,5003] rfl (fun w hR h=>cg _ _ _ w h (hG.castL hR)) ?_;rintro _ _ ⟨aL1,fL1,cL1,xL1,aR1,fR1,cR1,xR1,aM1,M1,cM1,g1,g2,hQ,rfl,rfl⟩;refine ⟨.v _,rfl,?_⟩)|refine zg ?_|((first|apply zb|apply za|apply zc)<;>intro h<;>try (exfalso;omega))|refine pay ?_|intro _));(all_goals (conv=>whnf))
  have hlM1:(exM S1 M1).length<=(zx (ta++tb) j).length:=by
   rw [hI.seq,hQ.seq];simp only [g6q];omega
  have htM1:(zF (exM S1 M1)).length<=LM:=by
   have e:=congrArg zF hI.seq
   rw [hQ.seq,vm,qv,qv] at e
   have e2:=congrArg List.length e
   simp only [g6q] at e2
   omega
  have cm:=fun f1 f2 fp w hR hG=>zqM bp bt bs bz S1 hI.wf (tm S.E a) (tm S.E b) hT hT2 j (by omega) aL1 fL1 cL1 xL1 aR1 fR1 cR1 xR1 aM1 M1 cM1 hQ.enL hQ.clL hQ.enR hQ.clR hQ.ok (by omega) (by omega) htM1 (by omega) f1 f2 fp w hR hG
  refine zh [78,77,3000,5000,5001,5002,5003] rfl (fun w hR h=>cm _ _ _ w h (hG.castL hR)) ?_
  rintro _ _ ⟨S2,fL2,xL2,fR2,xR2,aM2,M2,cM2,g3,g4,hV,rfl,rfl⟩
  refine ⟨.v _,rfl,?_⟩
  have hN:=hI.next hQ hV
  have hex:=hN.exit hlen (by rw [hta];exact hpa) (by rw [htb];exact hpb)
  have e1:((j+1:Nat):Int)+1=((j+1+1:Nat):Int):=by omega
  by_cases hm1:M2.length=1
  ·have r0:=zen S2 (M:=M2) (i:=0) (by omega) 0 (by omega)
   have r3:=zen S2 (M:=M2) (i:=0) (by omega) 3 (by omega)
   by_cases hx:xL2=0/\xR2=0/\(M2.getD 0 it0).t=1
   ·obtain ⟨rfl,rfl,ht1⟩:=hx
    obtain ⟨z1,z2,z3,z4⟩:=hN.fin hp0 hm1 ht1
    (repeat' ((conv=>whnf);first|rw [e1]|refine zB r0 ?_|refine zB r3 ?_|refine ⟨.sl 5003 _ _ _,⟨rfl,rfl,rfl,rfl⟩,?_⟩|refine zg ?_|((first|apply zb|apply za|apply zc)<;>intro h<;>try (exfalso;omega))|refine pay ?_|refine And.intro (by first|exact ⟨rfl,by omega⟩|exact ⟨by omega,by omega⟩) ?_|intro _));(all_goals (conv=>whnf))
    all_goals first|(exfalso;((try dsimp only at *);omega))|skip
    all_goals exact ⟨⟨_,Ref.takes [78,77,3000] rfl (.refl _),S2,_,_,_,⟨hN.wf,hN.grow,.inr ⟨z2,z3,z1⟩,by rw [g6q] at z4 ⊢;omega⟩,rfl,rfl⟩⟩
   ·(repeat' ((conv=>whnf);first|rw [e1]|refine zB r0 ?_|refine zB r3 ?_|refine ⟨.sl 5003 _ _ _,⟨rfl,rfl,rfl,rfl⟩,?_⟩|refine zg ?_|((first|apply zb|apply za|apply zc)<;>intro h<;>try (exfalso;omega))|refine pay ?_|refine And.intro (by first|exact ⟨rfl,by omega⟩|exact ⟨by omega,by omega⟩) ?_|intro _));(all_goals (conv=>whnf))
    all_goals first|(exfalso;((try dsimp only at *);omega))|skip
    all_goals exact zm (⟨S2,j+1,aL1,fL2,cL1,xL2,aR1,fR2,cR1,xR2,aM2,M2,cM2,_,_⟩:SpG) ⟨hN,fun hs=>hx ⟨(hex hs).1,(hex hs).2.1,(hex hs).2.2.2⟩⟩ (by dsimp only;omega) (by (repeat ((conv=>whnf);refine vS ?_));exact trivial) (Ref.takes [78,77,3000,5000,5001,5002,5003] rfl (.refl _))
  ·(repeat' ((conv=>whnf);first|rw [e1]|refine ⟨.sl 5003 _ _ _,⟨rfl,rfl,rfl,rfl⟩,?_⟩|refine zg ?_|((first|apply zb|apply za|apply zc)<;>intro h<;>try (exfalso;omega))|refine pay ?_|refine And.intro (by first|exact ⟨rfl,by omega⟩|exact ⟨by omega,by omega⟩) ?_|intro _));(all_goals (conv=>whnf))
   all_goals first|(exfalso;((try dsimp only at *);omega))|skip
   all_goals exact zm (⟨S2,j+1,aL1,fL2,cL1,xL2,aR1,fR2,cR1,xR2,aM2,M2,cM2,_,_⟩:SpG) ⟨hN,fun hs=>hm1 (hex hs).2.2.1⟩ (by dsimp only;omega) (by (repeat ((conv=>whnf);refine vS ?_));exact trivial) (Ref.takes [78,77,3000,5000,5001,5002,5003] rfl (.refl _))
theorem znG (bp bt bs:Nat) (S:Sto) (hw:WF S) (a b:Int) (ta tb:List Nat) (ha:SigI S a ta) (hb:SigI S b tb) (hz:a=0∨b=0) (f1 f2 fp:List Nat) (w:World) (hR:R w fp (fP bp bt bs S f1 f2) w) (hG:qq w fp) :
 Calls Tryz.prog us #[pS bp,.int .i64 a,.int .i64 (tm S.E a).txt.length,.int .i64 b,.int .i64 0] w fun e w'=>∃ v L1,e=.returned v/\R w fp L1 w'/\∃ S' z g1 g2,JnQ S S' (ta++tb) z/\v=.tuple #[.int .i64 z,.nilIface]/\L1=fP bp bt bs S' g1 g2:=by
 refine zf [.v (pS bp),.v (.int .i64 a),.v (.int .i64 (tm S.E a).txt.length),.v (.int .i64 b),.v (.int .i64 0)] zge (by simp) hR ?_
 have hsm:=hw.small
 have hka:=ha.known
 have hkb:=hb.known
 have hla:=ha.level hw
 have hlb:=hb.level hw
 have hta:=ha.txt
 have htb:=hb.txt
 have ca:=fun f1 f2 fp w hR hG=>zak bp bt bs S hw a ta ha f1 f2 fp w hR hG
 have cb:=fun f1 f2 fp w hR hG=>zak bp bt bs S hw b tb hb f1 f2 fp w hR hG
 have csa:=fun f1 f2 fp w hR=>kS bp bt bs S hw a hka f1 f2 fp w hR
 have csb:=fun f1 f2 fp w hR=>kS bp bt bs S hw b hkb f1 f2 fp w hR
 rw [hta] at csa
 rw [htb] at csb
 have hpa:a=0/\ta=[]∨a≠0/\0<ta.length:=by
  rcases ha with h|⟨h1,h2,_⟩
  ·exact .inl h
  ·have:=hw.pos1 h1 h2
   unfold Tm.len at this;rw [hta] at this;exact .inr ⟨by omega,this⟩
 have hpb:b=0->tb=[]:=by
  rcases hb with h|⟨h1,h2,_⟩
  ·exact fun _=>h.2
  ·intro h;omega
 have hbl:tb.length<=1152921504606846976:=by
  have:=hw.le hkb.2
  unfold Tm.len at this;rw [htb] at this;exact this
 have hal:ta.length<=1152921504606846976:=by
  have:=hw.le hka.2
  unfold Tm.len at this;rw [hta] at this;exact this
 rw [hta]
 have hA:a=0->JnQ S S (ta++tb) b:=fun h=>by
  rcases hpa with ⟨_,rfl⟩|⟨h1,_⟩
  ·exact ⟨hw,Grow.refl S,hb,by omega⟩
  ·exact absurd h h1
 have hB:b=0->JnQ S S (ta++tb) a:=fun h=>by
  rw [hpb h,List.append_nil]
  exact ⟨hw,Grow.refl S,ha,by omega⟩
 (repeat' ((conv=>whnf);first|refine zg ?_|((first|apply zb|apply za|apply zc)<;>intro h<;>try (exfalso;omega))|refine pay ?_|intro _));(all_goals (conv=>whnf))
 refine zP (Nat × List Nat × List Nat) (fun y=>[(0,.v (pS bp)),(1,.v (.int .i64 a)),(2,.v (.int .i64 ta.length)),(3,.v (.int .i64 b)),(4,.v (.int .i64 0)),(22,.v (.agg #[.int .i64 a,.int .i64 b])),(23,.v (.int .i64 y.1))])
  (fun y=>fP bp bt bs S y.2.1 y.2.2) (fun y=>y.1<=2) (fun y=>2 - y.1) (0,f1,f2) (Nat.zero_le 2) (by (repeat ((conv=>whnf);refine vS ?_));exact trivial) (Ref.takes [78,77,3000] rfl (.refl _)) ?_
 clear hR
 rintro ⟨i,g1,g2⟩ hi
 dsimp only at hi ⊢
 obtain rfl|rfl|rfl:i=0∨i=1∨i=2:=by omega
 ·(repeat' ((conv=>whnf);first|refine ⟨.int .i64 a,rfl,?_⟩|(refine zh [78,77,3000] rfl (fun w hR h=>ca _ _ _ w h (hG.castL hR)) ?_;rintro _ _ ⟨q1,q2,rfl,rfl⟩;refine ⟨.v _,rfl,?_⟩)|refine zg ?_|((first|apply zb|apply za|apply zc)<;>intro h<;>try (exfalso;omega))|refine pay ?_|intro _));(all_goals (conv=>whnf))
  all_goals first|(exfalso;((try dsimp only at *);omega))|skip
  all_goals exact zm (1,_,_) (by dsimp only;omega) (by dsimp only;omega) (by (repeat ((conv=>whnf);refine vS ?_));exact trivial) (Ref.takes [78,77,3000] rfl (.refl _))
 ·(repeat' ((conv=>whnf);first|refine ⟨.int .i64 b,rfl,?_⟩|(refine zh [78,77,3000] rfl (fun w hR h=>cb _ _ _ w h (hG.castL hR)) ?_;rintro _ _ ⟨q1,q2,rfl,rfl⟩;refine ⟨.v _,rfl,?_⟩)|refine zg ?_|((first|apply zb|apply za|apply zc)<;>intro h<;>try (exfalso;omega))|refine pay ?_|intro _));(all_goals (conv=>whnf))
  all_goals first|(exfalso;((try dsimp only at *);omega))|skip
  all_goals exact zm (2,_,_) (by dsimp only;omega) (by dsimp only;omega) (by (repeat ((conv=>whnf);refine vS ?_));exact trivial) (Ref.takes [78,77,3000] rfl (.refl _))
 ·by_cases ha0:a=0
  ·have hJ:=hA ha0
   have hl0:ta.length=0:=by
    rcases hpa with ⟨_,rfl⟩|⟨h1,_⟩
    ·rfl
    ·exact absurd ha0 h1
   rw [hl0]
   clear hA hB hpa hpb
   (repeat' ((conv=>whnf);first|rw [Int.sub_zero]|(refine zh [78,77,3000] rfl (fun w hR h=>csb _ _ _ w h) ?_;rintro _ _ ⟨q2,rfl,rfl⟩;refine ⟨.v _,rfl,?_⟩)|refine zg ?_|((first|apply zb|apply za|apply zc)<;>intro h<;>try (exfalso;omega))|refine pay ?_|intro _));(all_goals (conv=>whnf))
   all_goals first|(exfalso;((try dsimp only at *);omega))|skip
   all_goals exact ⟨⟨_,Ref.takes [78,77,3000] rfl (.refl _),S,b,_,_,hJ,rfl,rfl⟩⟩
  ·have hb0:b=0:=hz.resolve_left ha0
   have hJ:=hB hb0
   have hl0:tb.length=0:=by rw [hpb hb0];rfl
   have hla:0<ta.length:=by
    rcases hpa with ⟨h,_⟩|⟨_,h⟩
    ·exact absurd h ha0
    ·exact h
   rw [hl0] at csb
   clear hA hB hpa hpb
   (repeat' ((conv=>whnf);first|rw [Int.sub_zero]|(refine zh [78,77,3000] rfl (fun w hR h=>csb _ _ _ w h) ?_;rintro _ _ ⟨q2,rfl,rfl⟩;refine ⟨.v _,rfl,?_⟩)|(refine zh [78,77,3000] rfl (fun w hR h=>csa _ _ _ w h) ?_;rintro _ _ ⟨q2,rfl,rfl⟩;refine ⟨.v _,rfl,?_⟩)|refine zg ?_|((first|apply zb|apply za|apply zc)<;>intro h<;>try (exfalso;omega))|refine pay ?_|intro _));(all_goals (conv=>whnf))
   all_goals first|(exfalso;((try dsimp only at *);omega))|skip
   all_goals exact ⟨⟨_,Ref.takes [78,77,3000] rfl (.refl _),S,a,_,_,hJ,rfl,rfl⟩⟩
theorem zsG (bp bt bs:Nat) (S:Sto) (hw:WF S) (a b:Int) (ta tb:List Nat) (ha:SigI S a ta) (hb:SigI S b tb) (hroom:S.E.length+(ta.length+tb.length)<=S.most) (hmost:S.most<=1048576) (hn:ta.length+tb.length<=999999) (f1 f2 fp:List Nat) (w:World) (hR:R w fp (fP bp bt bs S f1 f2) w) (hG:qq w fp) :
 Calls Tryz.prog zem #[pS bp,.int .i64 a,.int .i64 b] w fun e w'=>∃ v L1,e=.returned v/\R w fp L1 w'/\∃ S' z g1 g2,JnQ S S' (ta++tb) z/\v=.tuple #[.int .i64 z,.nilIface]/\L1=fP bp bt bs S' g1 g2:=by
 refine zf [.v (pS bp),.v (.int .i64 a),.v (.int .i64 b)] zpw (by simp) hR ?_
 have csa:=fun f1 f2 fp w hR=>kS bp bt bs S hw a ha.known f1 f2 fp w hR
 have cs:∀ (f1 f2 fp:List Nat) (w:World),R w fp (fP bp bt bs S f1 f2) w->qq w fp->Calls Tryz.prog us #[pS bp,.int .i64 a,.int .i64 (tm S.E a).txt.length,.int .i64 b,.int .i64 0] w fun e w'=>∃ v L1,e=.returned v/\R w fp L1 w'/\∃ S' z g1 g2,JnQ S S' (ta++tb) z/\v=.tuple #[.int .i64 z,.nilIface]/\L1=fP bp bt bs S' g1 g2:=fun f1 f2 fp w hR hG=>by
  by_cases hz:a=0∨b=0
  ·exact znG bp bt bs S hw a b ta tb ha hb hz f1 f2 fp w hR hG
  ·exact zpO bp bt bs S hw a b ta tb ha hb (fun h=>hz (.inl h)) (fun h=>hz (.inr h)) hroom hmost hn f1 f2 fp w hR hG
 (repeat' ((conv=>whnf);first|(refine zh [78,77,3000] rfl (fun w hR h=>csa _ _ _ w h) ?_;rintro _ _ ⟨q2,rfl,rfl⟩;refine ⟨.v _,rfl,?_⟩)|(refine zh [78,77,3000] rfl (fun w hR h=>cs _ _ _ w h (hG.castL hR)) ?_;rintro _ _ ⟨S',z,g1,g2,hJ,rfl,rfl⟩;refine ⟨.v _,rfl,?_⟩)|refine zg ?_|((first|apply zb|apply za|apply zc)<;>intro h<;>try (exfalso;omega))|refine pay ?_|intro _));(all_goals (conv=>whnf))
 exact ⟨⟨_,Ref.takes [78,77,3000] rfl (.refl _),S',z,_,_,hJ,rfl,rfl⟩⟩
theorem zsH (bp bt bs:Nat) (S:Sto) (hw:WF S) (a b:Int) (ta tb:List Nat) (ha:SigI S a ta) (hb:SigI S b tb) (hroom:S.E.length+(ta.length+tb.length)<=S.most) (hmost:S.most<=1048576) (hn:ta.length+tb.length<=999999) (f1 f2 fp:List Nat) (w:World) (hR:R w fp (fP bp bt bs S f1 f2) w) (hG:qq w fp) :
 Calls Tryz.prog zel #[pS bp,.int .i64 a,.int .i64 b] w fun e w'=>∃ v L1,e=.returned v/\R w fp L1 w'/\∃ S' z g1 g2,JnQ S S' (ta++tb) z/\v=.tuple #[.int .i64 z,.nilIface]/\L1=fP bp bt bs S' g1 g2:=by
 refine zf [.v (pS bp),.v (.int .i64 a),.v (.int .i64 b)] zpy (by simp) hR ?_
 have hsm:=hw.small
 have hka:=ha.known
 have hkb:=hb.known
 have hk1:=hka.1
 have hk2:=hka.2
 have hk3:=hkb.1
 have hk4:=hkb.2
 have hLM:LM=1152921504606846976:=rfl
 have ca:=fun f1 f2 fp w hR hG=>zak bp bt bs S hw a ta ha f1 f2 fp w hR hG
 have cb:=fun f1 f2 fp w hR hG=>zak bp bt bs S hw b tb hb f1 f2 fp w hR hG
 have csa:=fun f1 f2 fp w hR=>kS bp bt bs S hw a hka f1 f2 fp w hR
 have csb:=fun f1 f2 fp w hR=>kS bp bt bs S hw b hkb f1 f2 fp w hR
 rw [ha.txt] at csa
 rw [hb.txt] at csb
 have cl:=zds bs S
 have cadd:=fun w=>zbi ta.length tb.length (by omega) (by omega) w
 have haddv:zgT ta.length tb.length=.tuple #[.int .i64 ((ta.length+tb.length:Nat):Int),.nilIface]:=by
  unfold zgT;rw [if_pos (by omega)]
 rw [haddv] at cadd
 have cj:=fun f1 f2 fp w hR hG=>zsG bp bt bs S hw a b ta tb ha hb hroom hmost hn f1 f2 fp w hR hG
 (repeat' ((conv=>whnf);first|refine goS (bt:=bt) (bs:=bs) rfl ?_|refine zg ?_|((first|apply zb|apply za|apply zc)<;>intro h<;>try (exfalso;omega))|refine pay ?_|intro _));(all_goals (conv=>whnf))
 refine zP (Nat × List Nat × List Nat) (fun y=>[(0,.v (pS bp)),(1,.v (.int .i64 a)),(2,.v (.int .i64 b)),(22,.v (.agg #[.int .i64 a,.int .i64 b])),(23,.v (.int .i64 y.1))])
  (fun y=>fP bp bt bs S y.2.1 y.2.2) (fun y=>y.1<=2) (fun y=>2 - y.1) (0,f1,f2) (Nat.zero_le 2) (by (repeat ((conv=>whnf);refine vS ?_));exact trivial) (Ref.takes [78,77,3000] rfl (.refl _)) ?_
 clear hR
 rintro ⟨i,g1,g2⟩ hi
 dsimp only at hi ⊢
 obtain rfl|rfl|rfl:i=0∨i=1∨i=2:=by omega
 ·(repeat' ((conv=>whnf);first|refine ⟨.int .i64 a,rfl,?_⟩|refine goS (bt:=bt) (bs:=bs) rfl ?_|refine SC.go 77 cl rfl fun fp'=>?_|refine zg ?_|((first|apply zb|apply za|apply zc)<;>intro h<;>try (exfalso;omega))|refine pay ?_|intro _));(all_goals (conv=>whnf))
  all_goals first|(exfalso;((try dsimp only at *);omega))|skip
  all_goals exact zm (1,_,_) (by dsimp only;omega) (by dsimp only;omega) (by (repeat ((conv=>whnf);refine vS ?_));exact trivial) (Ref.takes [78,77,3000] rfl (.refl _))
 ·(repeat' ((conv=>whnf);first|refine ⟨.int .i64 b,rfl,?_⟩|refine goS (bt:=bt) (bs:=bs) rfl ?_|refine SC.go 77 cl rfl fun fp'=>?_|refine zg ?_|((first|apply zb|apply za|apply zc)<;>intro h<;>try (exfalso;omega))|refine pay ?_|intro _));(all_goals (conv=>whnf))
  all_goals first|(exfalso;((try dsimp only at *);omega))|skip
  all_goals exact zm (2,_,_) (by dsimp only;omega) (by dsimp only;omega) (by (repeat ((conv=>whnf);refine vS ?_));exact trivial) (Ref.takes [78,77,3000] rfl (.refl _))
 (repeat' ((conv=>whnf);first|refine zg ?_|((first|apply zb|apply za|apply zc)<;>intro h<;>try (exfalso;omega))|refine pay ?_|intro _));(all_goals (conv=>whnf))
 all_goals first|(exfalso;((try dsimp only at *);omega))|skip
 refine zP (Nat × List Nat × List Nat) (fun y=>[(0,.v (pS bp)),(1,.v (.int .i64 a)),(2,.v (.int .i64 b)),(39,.v (.agg #[.int .i64 a,.int .i64 b])),(40,.v (.int .i64 y.1))])
  (fun y=>fP bp bt bs S y.2.1 y.2.2) (fun y=>y.1<=2) (fun y=>2 - y.1) (0,g1,g2) (Nat.zero_le 2) (by (repeat ((conv=>whnf);refine vS ?_));exact trivial) (Ref.takes [78,77,3000] rfl (.refl _)) ?_
 rintro ⟨i,g3,g4⟩ hi
 dsimp only at hi ⊢
 obtain rfl|rfl|rfl:i=0∨i=1∨i=2:=by omega
 ·(repeat' ((conv=>whnf);first|refine ⟨.int .i64 a,rfl,?_⟩|(refine zh [78,77,3000] rfl (fun w hR h=>ca _ _ _ w h (hG.castL hR)) ?_;rintro _ _ ⟨q1,q2,rfl,rfl⟩;refine ⟨.v _,rfl,?_⟩)|refine zg ?_|((first|apply zb|apply za|apply zc)<;>intro h<;>try (exfalso;omega))|refine pay ?_|intro _));(all_goals (conv=>whnf))
  all_goals first|(exfalso;((try dsimp only at *);omega))|skip
  all_goals exact zm (1,_,_) (by dsimp only;omega) (by dsimp only;omega) (by (repeat ((conv=>whnf);refine vS ?_));exact trivial) (Ref.takes [78,77,3000] rfl (.refl _))
 ·(repeat' ((conv=>whnf);first|refine ⟨.int .i64 b,rfl,?_⟩|(refine zh [78,77,3000] rfl (fun w hR h=>cb _ _ _ w h (hG.castL hR)) ?_;rintro _ _ ⟨q1,q2,rfl,rfl⟩;refine ⟨.v _,rfl,?_⟩)|refine zg ?_|((first|apply zb|apply za|apply zc)<;>intro h<;>try (exfalso;omega))|refine pay ?_|intro _));(all_goals (conv=>whnf))
  all_goals first|(exfalso;((try dsimp only at *);omega))|skip
  all_goals exact zm (2,_,_) (by dsimp only;omega) (by dsimp only;omega) (by (repeat ((conv=>whnf);refine vS ?_));exact trivial) (Ref.takes [78,77,3000] rfl (.refl _))
 (repeat' ((conv=>whnf);first|(refine zh [78,77,3000] rfl (fun w hR h=>csa _ _ _ w h) ?_;rintro _ _ ⟨q2,rfl,rfl⟩;refine ⟨.v _,rfl,?_⟩)|(refine zh [78,77,3000] rfl (fun w hR h=>csb _ _ _ w h) ?_;rintro _ _ ⟨q3,rfl,rfl⟩;refine ⟨.v _,rfl,?_⟩)|(first|refine puK cadd ?_|refine quK cadd ?_)|(refine zh [78,77,3000] rfl (fun w hR h=>cj _ _ _ w h (hG.castL hR)) ?_;rintro _ _ ⟨S',z,g5,g6,hJ,rfl,rfl⟩;refine ⟨.v _,rfl,?_⟩)|refine zg ?_|((first|apply zb|apply za|apply zc)<;>intro h<;>try (exfalso;omega))|refine pay ?_|intro _));(all_goals (conv=>whnf))
 all_goals first|(exfalso;((try dsimp only at *);omega))|skip
 exact ⟨⟨_,Ref.takes [78,77,3000] rfl (.refl _),S',z,_,_,hJ,rfl,rfl⟩⟩
theorem zhp (b:Nat) (S:Sto) (n:Int) (h:known S n) (hE:S.E.length<=1048576):SC yG #[pS b,.int .i64 n] b S S (.bool (tm S.E n).evn):=by
 intro key fp w hR
 refine zf [.v (pS b),.v (.int .i64 n)] zfe (by simp) (hR.key 77) ?_
 have c1:=yI b S h
 have c2:=ux b S h hE
 unfold tm
 generalize atE S.E n=x at *
 (repeat' ((conv=>whnf);first|refine SC.go 77 c1 rfl fun fp'=>?_|refine SC.go 77 c2 rfl fun fp'=>?_|((first|apply zb|apply za|apply zc)<;>intro h<;>try (exfalso;omega))|refine pay ?_|refine And.intro (by first|exact Nat.le_of_ble_eq_true rfl) ?_|intro _));(all_goals (conv=>whnf))
 all_goals exact ⟨qe (by (repeat (first|exact Thin.nil _|exact Thin.refl _|refine Thin.keep rfl (fun _ h=>h) ?_|refine Thin.skip ?_))) rfl⟩
theorem zpP (b:Nat) (S:Sto) (hw:WF S) (n:Int) (h1:1<=n) (h2:n<=S.E.length) (hk:(atE S.E n).r.k=2) (ha:known S (atE S.E n).r.a) (hb:known S (atE S.E n).r.b):SC xp #[pS b,.int .i64 n] b S S
 (.tuple #[.int .i64 (atE S.E n).r.a,.int .i64 (atE S.E n).r.b,.int .i64 (tm S.E (atE S.E n).r.a).dep,.int .i64 (tm S.E (atE S.E n).r.b).dep,.nilIface]):=by
 intro key fp w hR
 refine zf [.v (pS b),.v (.int .i64 n)] zpB (by simp) (hR.key 77) ?_
 have c1:=qZ b S n hw.small
 rw [yy h1 h2] at c1
 have c2:=xV b S _ ha hw.small
 have c3:=xV b S _ hb hw.small
 (repeat' ((conv=>whnf);first|refine SC.go 77 c1 rfl fun fp'=>?_|refine SC.go 77 c2 rfl fun fp'=>?_|refine SC.go 77 c3 rfl fun fp'=>?_|refine zg ?_|((first|apply zb|apply za|apply zc)<;>intro h<;>try (exfalso;omega))|refine pay ?_|intro _));(all_goals (conv=>whnf))
 all_goals exact ⟨qe (by (repeat (first|exact Thin.nil _|exact Thin.refl _|refine Thin.keep rfl (fun _ h=>h) ?_|refine Thin.skip ?_))) rfl⟩
structure AvQ (S S':Sto) (z:Int) (t:List Nat) (c:Nat):Prop where
 wf:WF S'
 grow:Grow S S'
 z1:1<=z
 z2:z<=S'.E.length
 txt:(tm S'.E z).txt=t
 evn:(tm S'.E z).evn=true
 cnt:S'.E.length<=S.E.length+c
theorem zlw (S:Sto) (hw:WF S) (x y z:Int) (hx:1<=x/\x<=S.E.length) (hy:1<=y/\y<=S.E.length) (hz:1<=z/\z<=S.E.length) (hl:(tm S.E x).len+((tm S.E y).len+(tm S.E z).len)<=LM) (hroom:S.E.length+2<=S.most) :
 ∃ S' u,(∀ b,SC zdz #[pS b,.int .i64 x,.int .i64 y,.int .i64 z] b S S' (.tuple #[.int .i64 u,.nilIface]))/\WF S'/\Grow S S'/\1<=u/\u<=S'.E.length/\tm S'.E u=.pr (tm S.E x) (.pr (tm S.E y) (tm S.E z))/\S'.E.length<=S.E.length+2:=by
 obtain ⟨S1,u1,e1,m1⟩:=jQ hw hy.1 hy.2 hz.1 hz.2 (by omega) (by omega)
 have g1:=m1.grow.len
 have hl1:=m1.len
 have hm1:=m1.grow.most
 have t1:tm S1.E x=tm S.E x:=m1.grow.tm hx.2
 obtain ⟨S2,u2,e2,m2⟩:=jQ m1.wf hx.1 (by omega) m1.pos m1.le (by rw [t1,m1.tm];unfold Tm.len at *;rw [Tm.txt,g6q];exact hl) (by omega)
 refine ⟨S2,u2,fun b=>?_,m2.wf,m1.grow.trans m2.grow,m2.pos,m2.le,by rw [m2.tm,t1,m1.tm],by have:=m2.len;omega⟩
 intro key fp w hR
 refine zf [.v (pS b),.v (.int .i64 x),.v (.int .i64 y),.v (.int .i64 z)] zsq (by simp) (hR.key 77) ?_
 have c1:=xk b S hw y z
 rw [e1] at c1
 have c2:=xk b S1 m1.wf x u1
 rw [e2] at c2
 (repeat' ((conv=>whnf);first|refine SC.go 77 c1 rfl fun fp'=>?_|refine SC.go 77 c2 rfl fun fp'=>?_|refine zg ?_|((first|apply zb|apply za|apply zc)<;>intro h<;>try (exfalso;omega))|refine pay ?_|intro _));(all_goals (conv=>whnf))
 all_goals exact ⟨qe (by (repeat (first|exact Thin.nil _|exact Thin.refl _|refine Thin.keep rfl (fun _ h=>h) ?_|refine Thin.skip ?_))) rfl⟩
theorem zjw (S:Sto) (hw:WF S) (p x y z:Int) (hp:1<=p/\p<=S.E.length) (hx:1<=x/\x<=S.E.length) (hy:1<=y/\y<=S.E.length) (hz:1<=z/\z<=S.E.length) (hl:(tm S.E p).len+(tm S.E x).len+((tm S.E y).len+(tm S.E z).len)<=LM) (hroom:S.E.length+3<=S.most) :
 ∃ S' u,(∀ b,SC zcp #[pS b,.int .i64 p,.int .i64 x,.int .i64 y,.int .i64 z] b S S' (.tuple #[.int .i64 u,.nilIface]))/\WF S'/\Grow S S'/\1<=u/\u<=S'.E.length/\tm S'.E u=.pr (.pr (tm S.E p) (tm S.E x)) (.pr (tm S.E y) (tm S.E z))/\S'.E.length<=S.E.length+3:=by
 obtain ⟨S1,u1,e1,m1⟩:=jQ hw hp.1 hp.2 hx.1 hx.2 (by omega) (by omega)
 have g1:=m1.grow.len
 have hl1:=m1.len
 have hm1:=m1.grow.most
 have t1:tm S1.E y=tm S.E y:=m1.grow.tm hy.2
 have t2:tm S1.E z=tm S.E z:=m1.grow.tm hz.2
 obtain ⟨S2,u2,c2,w2,g2,q1,q2,q3,q4⟩:=zlw S1 m1.wf u1 y z ⟨m1.pos,m1.le⟩ ⟨hy.1,by omega⟩ ⟨hz.1,by omega⟩ (by rw [t1,t2,m1.tm];unfold Tm.len at *;rw [Tm.txt,g6q];exact hl) (by omega)
 refine ⟨S2,u2,fun b=>?_,w2,m1.grow.trans g2,q1,q2,by rw [q3,t1,t2,m1.tm],by omega⟩
 intro key fp w hR
 refine zf [.v (pS b),.v (.int .i64 p),.v (.int .i64 x),.v (.int .i64 y),.v (.int .i64 z)] zqA (by simp) (hR.key 77) ?_
 have c1:=xk b S hw p x
 rw [e1] at c1
 have c2:=c2 b
 (repeat' ((conv=>whnf);first|refine SC.go 77 c1 rfl fun fp'=>?_|refine SC.go 77 c2 rfl fun fp'=>?_|refine zg ?_|((first|apply zb|apply za|apply zc)<;>intro h<;>try (exfalso;omega))|refine pay ?_|intro _));(all_goals (conv=>whnf))
 all_goals exact ⟨qe (by (repeat (first|exact Thin.nil _|exact Thin.refl _|refine Thin.keep rfl (fun _ h=>h) ?_|refine Thin.skip ?_))) rfl⟩
theorem xr (a b:Tm):(Tm.pr a b).evn=true↔a.evn=true/\b.evn=true/\a.dep<=b.dep+1/\b.dep<=a.dep+1:=by
 simp [Tm.evn,Bool.and_eq_true,and_assoc]
theorem ye (a b:Tm):(Tm.pr a b).dep=1+max a.dep b.dep:=rfl
theorem len_pr (a b:Tm):(Tm.pr a b).len=a.len+b.len:=by unfold Tm.len;rw [Tm.txt,g6q]
structure PrtI (S:Sto) (n l r:Int):Prop where
 k:(atE S.E n).r.k=2
 a:(atE S.E n).r.a=l
 b:(atE S.E n).r.b=r
 trm:tm S.E n=.pr (tm S.E l) (tm S.E r)
 l1:1<=l/\l<=S.E.length
 r1:1<=r/\r<=S.E.length
 el:(tm S.E l).evn=true
 er:(tm S.E r).evn=true
 d1:(tm S.E l).dep<=(tm S.E r).dep+1
 d2:(tm S.E r).dep<=(tm S.E l).dep+1
 dep:(tm S.E n).dep=1+max (tm S.E l).dep (tm S.E r).dep
theorem vL {S:Sto} (hw:WF S) {n:Int} (h1:1<=n) (h2:n<=S.E.length) (he:(tm S.E n).evn=true) (hd:1<=(tm S.E n).dep):∃ l r,PrtI S n l r:=by
 rcases zcS hw h1 h2 with ⟨k,l,h⟩|⟨k,h,p1,p2,p3,p4⟩|⟨k,h,_⟩
 ·rw [h] at hd;simp [Tm.dep] at hd
 ·have hd':(tm S.E n).dep=1+max (tm S.E (atE S.E n).r.a).dep (tm S.E (atE S.E n).r.b).dep:=by rw [h];rfl
  rw [h,xr] at he
  exact ⟨_,_,k,rfl,rfl,h,⟨p1,by omega⟩,⟨p3,by omega⟩,he.1,he.2.1,he.2.2.1,he.2.2.2,hd'⟩
 ·rw [h] at he;simp [Tm.evn] at he
theorem PrtI.call {S:Sto} (hw:WF S) {n l r:Int} (h:PrtI S n l r) (h1:1<=n) (h2:n<=S.E.length) (b:Nat):SC xp #[pS b,.int .i64 n] b S S (.tuple #[.int .i64 l,.int .i64 r,.int .i64 (tm S.E l).dep,.int .i64 (tm S.E r).dep,.nilIface]):=by
 have ha:known S (atE S.E n).r.a:=by rw [h.a];exact ⟨by have:=h.l1.1;omega,h.l1.2⟩
 have hb:known S (atE S.E n).r.b:=by rw [h.b];exact ⟨by have:=h.r1.1;omega,h.r1.2⟩
 have:=zpP b S hw n h1 h2 h.k ha hb
 rw [h.a,h.b] at this
 exact this
structure LevA (S S':Sto) (u:Int) (ma mb:Tm) (c:Nat):Prop extends AvQ S S' u (ma.txt++mb.txt) c where
 d1:max ma.dep mb.dep<=(tm S'.E u).dep
 d2:(tm S'.E u).dep<=max ma.dep mb.dep+1
theorem LevA.mk' {S S':Sto} {u:Int} {ma mb m:Tm} {c:Nat} (hw:WF S') (g:Grow S S') (h1:1<=u) (h2:u<=S'.E.length) (ht:tm S'.E u=m) (htx:m.txt=ma.txt++mb.txt) (he:m.evn=true) (hd:max ma.dep mb.dep<=m.dep/\m.dep<=max ma.dep mb.dep+1) (hc:S'.E.length<=S.E.length+c):LevA S S' u ma mb c :=
 ⟨⟨hw,g,h1,h2,by rw [ht,htx],by rw [ht,he],hc⟩,by rw [ht];exact hd.1,by rw [ht];exact hd.2⟩
theorem ziA (S:Sto) (hw:WF S) (x y:Int) (hx:1<=x/\x<=S.E.length) (hy:1<=y/\y<=S.E.length) (ex:(tm S.E x).evn=true) (ey:(tm S.E y).evn=true) (hd1:(tm S.E x).dep<=(tm S.E y).dep+2) (hd2:(tm S.E y).dep<=(tm S.E x).dep+2) (hdm:(tm S.E x).dep<=1048576/\(tm S.E y).dep<=1048576)
 (hl:(tm S.E x).len+(tm S.E y).len<=LM) (hroom:S.E.length+3<=S.most) :
 ∃ S' u,(∀ b,SC zbt #[pS b,.int .i64 x,.int .i64 y] b S S' (.tuple #[.int .i64 u,.nilIface]))/\LevA S S' u (tm S.E x) (tm S.E y) 3/\((tm S.E x).dep<=(tm S.E y).dep+1->(tm S.E y).dep<=(tm S.E x).dep+1->(tm S'.E u).dep=1+max (tm S.E x).dep (tm S.E y).dep):=by
 have hkx:known S x:=⟨by omega,hx.2⟩
 have hky:known S y:=⟨by omega,hy.2⟩
 have cdx:=fun b=>xV b S x hkx hw.small
 have cdy:=fun b=>xV b S y hky hw.small
 by_cases hA:(tm S.E x).dep>(tm S.E y).dep+1
 ·obtain ⟨l,r,hP⟩:=vL hw hx.1 hx.2 ex (by omega)
  have cp:=hP.call hw hx.1 hx.2
  have p1:=hP.d1
  have p2:=hP.d2
  have p3:=hP.dep
  have hlen:(tm S.E x).len=(tm S.E l).len+(tm S.E r).len:=by rw [hP.trm,len_pr]
  have htx:(tm S.E x).txt=(tm S.E l).txt++(tm S.E r).txt:=by rw [hP.trm];rfl
  by_cases hB:(tm S.E r).dep<=(tm S.E l).dep
  ·obtain ⟨S',u,cu,w1,g1,u1,u2,u3,u4⟩:=zlw S hw l r y hP.l1 hP.r1 hy (by omega) (by omega)
   refine ⟨S',u,fun b=>?_,LevA.mk' w1 g1 u1 u2 u3 (by rw [htx];simp [Tm.txt]) ?_ ?_ (by omega),fun k1 k2=>by omega⟩
   ·intro key fp w hR
    refine zf [.v (pS b),.v (.int .i64 x),.v (.int .i64 y)] jT (by simp) (hR.key 77) ?_
    have cdx:=cdx b
    have cdy:=cdy b
    have cp:=cp b
    have cu:=cu b
    (repeat' ((conv=>whnf);first|refine SC.go 77 cdx rfl fun fp'=>?_|refine SC.go 77 cdy rfl fun fp'=>?_|refine SC.go 77 cp rfl fun fp'=>?_|refine SC.go 77 cu rfl fun fp'=>?_|refine zg ?_|((first|apply zb|apply za|apply zc)<;>intro h<;>try (exfalso;omega))|refine pay ?_|intro _));(all_goals (conv=>whnf))
    all_goals try (exfalso;omega)
    all_goals exact ⟨qe (by (repeat (first|exact Thin.nil _|exact Thin.refl _|refine Thin.keep rfl (fun _ h=>h) ?_|refine Thin.skip ?_))) rfl⟩
   ·rw [xr,xr,ye];exact ⟨hP.el,⟨hP.er,ey,by omega,by omega⟩,by omega,by omega⟩
   ·rw [ye,ye];omega
  ·obtain ⟨p,q,hQ⟩:=vL hw hP.r1.1 hP.r1.2 hP.er (by omega)
   have cq:=hQ.call hw hP.r1.1 hP.r1.2
   have q1:=hQ.d1
   have q2:=hQ.d2
   have q3:=hQ.dep
   have hlen2:(tm S.E r).len=(tm S.E p).len+(tm S.E q).len:=by rw [hQ.trm,len_pr]
   have htx2:(tm S.E r).txt=(tm S.E p).txt++(tm S.E q).txt:=by rw [hQ.trm];rfl
   obtain ⟨S',u,cu,w1,g1,u1,u2,u3,u4⟩:=zjw S hw l p q y hP.l1 hQ.l1 hQ.r1 hy (by omega) (by omega)
   refine ⟨S',u,fun b=>?_,LevA.mk' w1 g1 u1 u2 u3 (by rw [htx,htx2];simp [Tm.txt]) ?_ ?_ (by omega),fun k1 k2=>by omega⟩
   ·intro key fp w hR
    refine zf [.v (pS b),.v (.int .i64 x),.v (.int .i64 y)] jT (by simp) (hR.key 77) ?_
    have cdx:=cdx b
    have cdy:=cdy b
    have cp:=cp b
    have cq:=cq b
    have cu:=cu b
    (repeat' ((conv=>whnf);first|refine SC.go 77 cdx rfl fun fp'=>?_|refine SC.go 77 cdy rfl fun fp'=>?_|refine SC.go 77 cp rfl fun fp'=>?_|refine SC.go 77 cq rfl fun fp'=>?_|refine SC.go 77 cu rfl fun fp'=>?_|refine zg ?_|((first|apply zb|apply za|apply zc)<;>intro h<;>try (exfalso;omega))|refine pay ?_|intro _));(all_goals (conv=>whnf))
    all_goals try (exfalso;omega)
    all_goals exact ⟨qe (by (repeat (first|exact Thin.nil _|exact Thin.refl _|refine Thin.keep rfl (fun _ h=>h) ?_|refine Thin.skip ?_))) rfl⟩
   ·rw [xr,xr,xr,ye,ye];exact ⟨⟨hP.el,hQ.el,by omega,by omega⟩,⟨hQ.er,ey,by omega,by omega⟩,by omega,by omega⟩
   ·rw [ye,ye,ye];omega
 by_cases hC:(tm S.E y).dep>(tm S.E x).dep+1
 ·obtain ⟨l,r,hP⟩:=vL hw hy.1 hy.2 ey (by omega)
  have cp:=hP.call hw hy.1 hy.2
  have p1:=hP.d1
  have p2:=hP.d2
  have p3:=hP.dep
  have hlen:(tm S.E y).len=(tm S.E l).len+(tm S.E r).len:=by rw [hP.trm,len_pr]
  have htx:(tm S.E y).txt=(tm S.E l).txt++(tm S.E r).txt:=by rw [hP.trm];rfl
  by_cases hB:(tm S.E r).dep<(tm S.E l).dep
  ·obtain ⟨p,q,hQ⟩:=vL hw hP.l1.1 hP.l1.2 hP.el (by omega)
   have cq:=hQ.call hw hP.l1.1 hP.l1.2
   have q1:=hQ.d1
   have q2:=hQ.d2
   have q3:=hQ.dep
   have hlen2:(tm S.E l).len=(tm S.E p).len+(tm S.E q).len:=by rw [hQ.trm,len_pr]
   have htx2:(tm S.E l).txt=(tm S.E p).txt++(tm S.E q).txt:=by rw [hQ.trm];rfl
   obtain ⟨S',u,cu,w1,g1,u1,u2,u3,u4⟩:=zjw S hw x p q r hx hQ.l1 hQ.r1 hP.r1 (by omega) (by omega)
   refine ⟨S',u,fun b=>?_,LevA.mk' w1 g1 u1 u2 u3 (by rw [htx,htx2];simp [Tm.txt]) ?_ ?_ (by omega),fun k1 k2=>by omega⟩
   ·intro key fp w hR
    refine zf [.v (pS b),.v (.int .i64 x),.v (.int .i64 y)] jT (by simp) (hR.key 77) ?_
    have cdx:=cdx b
    have cdy:=cdy b
    have cp:=cp b
    have cq:=cq b
    have cu:=cu b
    (repeat' ((conv=>whnf);first|refine SC.go 77 cdx rfl fun fp'=>?_|refine SC.go 77 cdy rfl fun fp'=>?_|refine SC.go 77 cp rfl fun fp'=>?_|refine SC.go 77 cq rfl fun fp'=>?_|refine SC.go 77 cu rfl fun fp'=>?_|refine zg ?_|((first|apply zb|apply za|apply zc)<;>intro h<;>try (exfalso;omega))|refine pay ?_|intro _));(all_goals (conv=>whnf))
    all_goals try (exfalso;omega)
    all_goals exact ⟨qe (by (repeat (first|exact Thin.nil _|exact Thin.refl _|refine Thin.keep rfl (fun _ h=>h) ?_|refine Thin.skip ?_))) rfl⟩
   ·rw [xr,xr,xr,ye,ye];exact ⟨⟨ex,hQ.el,by omega,by omega⟩,⟨hQ.er,hP.er,by omega,by omega⟩,by omega,by omega⟩
   ·rw [ye,ye,ye];omega
  ·obtain ⟨S1,v1,e1,m1⟩:=jQ hw hx.1 hx.2 hP.l1.1 hP.l1.2 (by omega) (by omega)
   have hg1:=m1.grow.len
   have hl1:=m1.len
   have hm1:=m1.grow.most
   have hr1:=hP.r1
   have t1:tm S1.E r=tm S.E r:=m1.grow.tm hP.r1.2
   obtain ⟨S2,v2,e2,m2⟩:=jQ m1.wf m1.pos m1.le hr1.1 (by omega) (by rw [t1,m1.tm,len_pr];omega) (by omega)
   have hm2:=m2.tm
   rw [m1.tm,t1] at hm2
   refine ⟨S2,v2,fun b=>?_,LevA.mk' m2.wf (m1.grow.trans m2.grow) m2.pos m2.le hm2 (by rw [htx];simp [Tm.txt]) ?_ ?_ (by have:=m2.len;omega),fun k1 k2=>by omega⟩
   ·intro key fp w hR
    refine zf [.v (pS b),.v (.int .i64 x),.v (.int .i64 y)] jT (by simp) (hR.key 77) ?_
    have cdx:=cdx b
    have cdy:=cdy b
    have cp:=cp b
    have c1:=xk b S hw x l
    rw [e1] at c1
    have c2:=xk b S1 m1.wf v1 r
    rw [e2] at c2
    (repeat' ((conv=>whnf);first|refine SC.go 77 cdx rfl fun fp'=>?_|refine SC.go 77 cdy rfl fun fp'=>?_|refine SC.go 77 cp rfl fun fp'=>?_|refine SC.go 77 c1 rfl fun fp'=>?_|refine SC.go 77 c2 rfl fun fp'=>?_|refine zg ?_|((first|apply zb|apply za|apply zc)<;>intro h<;>try (exfalso;omega))|refine pay ?_|intro _));(all_goals (conv=>whnf))
    all_goals try (exfalso;omega)
    all_goals exact ⟨qe (by (repeat (first|exact Thin.nil _|exact Thin.refl _|refine Thin.keep rfl (fun _ h=>h) ?_|refine Thin.skip ?_))) rfl⟩
   ·rw [xr,xr,ye];exact ⟨⟨ex,hP.el,by omega,by omega⟩,hP.er,by omega,by omega⟩
   ·rw [ye,ye];omega
 ·obtain ⟨S1,v1,e1,m1⟩:=jQ hw hx.1 hx.2 hy.1 hy.2 (by omega) (by omega)
  refine ⟨S1,v1,fun b=>?_,LevA.mk' m1.wf m1.grow m1.pos m1.le m1.tm rfl ?_ ?_ (by have:=m1.len;omega),fun _ _=>by rw [m1.tm];rfl⟩
  ·intro key fp w hR
   refine zf [.v (pS b),.v (.int .i64 x),.v (.int .i64 y)] jT (by simp) (hR.key 77) ?_
   have cdx:=cdx b
   have cdy:=cdy b
   have c1:=xk b S hw x y
   rw [e1] at c1
   (repeat' ((conv=>whnf);first|refine SC.go 77 cdx rfl fun fp'=>?_|refine SC.go 77 cdy rfl fun fp'=>?_|refine SC.go 77 c1 rfl fun fp'=>?_|refine zg ?_|((first|apply zb|apply za|apply zc)<;>intro h<;>try (exfalso;omega))|refine pay ?_|intro _));(all_goals (conv=>whnf))
   all_goals try (exfalso;omega)
   all_goals exact ⟨qe (by (repeat (first|exact Thin.nil _|exact Thin.refl _|refine Thin.keep rfl (fun _ h=>h) ?_|refine Thin.skip ?_))) rfl⟩
  ·rw [xr];exact ⟨ex,ey,by omega,by omega⟩
  ·rw [ye];omega
theorem zqN:∀ (n:Nat) (S:Sto) (hw:WF S) (x y:Int) (hx:1<=x/\x<=S.E.length) (hy:1<=y/\y<=S.E.length) (ex:(tm S.E x).evn=true) (ey:(tm S.E y).evn=true) (hdm:(tm S.E x).dep<=1000000/\(tm S.E y).dep<=1000000)
 (hl:(tm S.E x).len+(tm S.E y).len<=LM) (hroom:S.E.length+(3*((tm S.E x).dep+(tm S.E y).dep)+1)<=S.most),(tm S.E x).dep+(tm S.E y).dep<=n ->
 ∃ S' u,(∀ b,SC zav #[pS b,.int .i64 x,.int .i64 y] b S S' (.tuple #[.int .i64 u,.nilIface]))/\LevA S S' u (tm S.E x) (tm S.E y) (3*((tm S.E x).dep+(tm S.E y).dep)+1):=by
 intro n
 induction n with
 | zero =>
   intro S hw x y hx hy ex ey hdm hl hroom hn
   obtain ⟨S1,v1,e1,m1⟩:=jQ hw hx.1 hx.2 hy.1 hy.2 (by omega) (by omega)
   have hkx:known S x:=⟨by omega,hx.2⟩
   have hky:known S y:=⟨by omega,hy.2⟩
   refine ⟨S1,v1,fun b=>?_,LevA.mk' m1.wf m1.grow m1.pos m1.le m1.tm rfl (by rw [xr];exact ⟨ex,ey,by omega,by omega⟩) (by rw [ye];omega) (by have:=m1.len;omega)⟩
   intro key fp w hR
   refine zf [.v (pS b),.v (.int .i64 x),.v (.int .i64 y)] zcq (by simp) (hR.key 77) ?_
   have cdx:=xV b S x hkx hw.small
   have cdy:=xV b S y hky hw.small
   have c1:=xk b S hw x y
   rw [e1] at c1
   (repeat' ((conv=>whnf);first|refine SC.go 77 cdx rfl fun fp'=>?_|refine SC.go 77 cdy rfl fun fp'=>?_|refine SC.go 77 c1 rfl fun fp'=>?_|refine zg ?_|((first|apply zb|apply za|apply zc)<;>intro h<;>try (exfalso;omega))|refine pay ?_|intro _));(all_goals (conv=>whnf))
   all_goals try (exfalso;omega)
   all_goals exact ⟨qe (by (repeat (first|exact Thin.nil _|exact Thin.refl _|refine Thin.keep rfl (fun _ h=>h) ?_|refine Thin.skip ?_))) rfl⟩
 | succ n ih =>
   intro S hw x y hx hy ex ey hdm hl hroom hn
   have hkx:known S x:=⟨by omega,hx.2⟩
   have hky:known S y:=⟨by omega,hy.2⟩
   have cdx:=fun b=>xV b S x hkx hw.small
   have cdy:=fun b=>xV b S y hky hw.small
   by_cases hA:(tm S.E x).dep>(tm S.E y).dep+1
   ·obtain ⟨l,r,hP⟩:=vL hw hx.1 hx.2 ex (by omega)
    have cp:=hP.call hw hx.1 hx.2
    have p1:=hP.d1
    have p2:=hP.d2
    have p3:=hP.dep
    have hlen:(tm S.E x).len=(tm S.E l).len+(tm S.E r).len:=by rw [hP.trm,len_pr]
    have htx:(tm S.E x).txt=(tm S.E l).txt++(tm S.E r).txt:=by rw [hP.trm];rfl
    obtain ⟨S1,z,cz,hZ⟩:=ih S hw r y hP.r1 hy hP.er ey ⟨by omega,hdm.2⟩ (by omega) (by omega) (by omega)
    have z1:=hZ.d1
    have z2:=hZ.d2
    have z3:=hZ.cnt
    have hm1:=hZ.grow.most
    have hgl:=hZ.grow.len
    have hl1:=hP.l1
    have tl:tm S1.E l=tm S.E l:=hZ.grow.tm hP.l1.2
    have zl:(tm S1.E z).len=(tm S.E r).len+(tm S.E y).len:=by unfold Tm.len;rw [hZ.txt,g6q]
    obtain ⟨S2,u,cu,hU,hU2⟩:=ziA S1 hZ.wf l z ⟨hl1.1,by omega⟩ ⟨hZ.z1,hZ.z2⟩ (by rw [tl];exact hP.el) hZ.evn (by rw [tl];omega) (by rw [tl];omega) ⟨by rw [tl];omega,by omega⟩ (by rw [tl,zl];omega) (by omega)
    rw [tl] at hU hU2
    have u1:=hU.d1
    have u2:=hU.d2
    have u3:=hU.cnt
    refine ⟨S2,u,fun b=>?_,⟨⟨hU.wf,hZ.grow.trans hU.grow,hU.z1,hU.z2,by rw [hU.txt,hZ.txt,htx,List.append_assoc],hU.evn,by omega⟩,?_,?_⟩⟩
    ·intro key fp w hR
     refine zf [.v (pS b),.v (.int .i64 x),.v (.int .i64 y)] zcq (by simp) (hR.key 77) ?_
     have cdx:=cdx b
     have cdy:=cdy b
     have cp:=cp b
     have cz:=cz b
     have cu:=cu b
     (repeat' ((conv=>whnf);first|refine SC.go 77 cdx rfl fun fp'=>?_|refine SC.go 77 cdy rfl fun fp'=>?_|refine SC.go 77 cp rfl fun fp'=>?_|refine SC.go 77 cz rfl fun fp'=>?_|refine SC.go 77 cu rfl fun fp'=>?_|refine zg ?_|((first|apply zb|apply za|apply zc)<;>intro h<;>try (exfalso;omega))|refine pay ?_|intro _));(all_goals (conv=>whnf))
     all_goals try (exfalso;omega)
     all_goals exact ⟨qe (by (repeat (first|exact Thin.nil _|exact Thin.refl _|refine Thin.keep rfl (fun _ h=>h) ?_|refine Thin.skip ?_))) rfl⟩
    ·by_cases hc:(tm S1.E z).dep<=(tm S.E l).dep+1
     ·have:=hU2 (by omega) hc
      omega
     ·omega
    ·omega
   by_cases hC:(tm S.E y).dep>(tm S.E x).dep+1
   ·obtain ⟨l,r,hP⟩:=vL hw hy.1 hy.2 ey (by omega)
    have cp:=hP.call hw hy.1 hy.2
    have p1:=hP.d1
    have p2:=hP.d2
    have p3:=hP.dep
    have hlen:(tm S.E y).len=(tm S.E l).len+(tm S.E r).len:=by rw [hP.trm,len_pr]
    have htx:(tm S.E y).txt=(tm S.E l).txt++(tm S.E r).txt:=by rw [hP.trm];rfl
    obtain ⟨S1,z,cz,hZ⟩:=ih S hw x l hx hP.l1 ex hP.el ⟨hdm.1,by omega⟩ (by omega) (by omega) (by omega)
    have z1:=hZ.d1
    have z2:=hZ.d2
    have z3:=hZ.cnt
    have hm1:=hZ.grow.most
    have hgl:=hZ.grow.len
    have hr1:=hP.r1
    have tl:tm S1.E r=tm S.E r:=hZ.grow.tm hP.r1.2
    have zl:(tm S1.E z).len=(tm S.E x).len+(tm S.E l).len:=by unfold Tm.len;rw [hZ.txt,g6q]
    obtain ⟨S2,u,cu,hU,hU2⟩:=ziA S1 hZ.wf z r ⟨hZ.z1,hZ.z2⟩ ⟨hr1.1,by omega⟩ hZ.evn (by rw [tl];exact hP.er) (by rw [tl];omega) (by rw [tl];omega) ⟨by omega,by rw [tl];omega⟩ (by rw [tl,zl];omega) (by omega)
    rw [tl] at hU hU2
    have u1:=hU.d1
    have u2:=hU.d2
    have u3:=hU.cnt
    refine ⟨S2,u,fun b=>?_,⟨⟨hU.wf,hZ.grow.trans hU.grow,hU.z1,hU.z2,by rw [hU.txt,hZ.txt,htx,List.append_assoc],hU.evn,by omega⟩,?_,?_⟩⟩
    ·intro key fp w hR
     refine zf [.v (pS b),.v (.int .i64 x),.v (.int .i64 y)] zcq (by simp) (hR.key 77) ?_
     have cdx:=cdx b
     have cdy:=cdy b
     have cp:=cp b
     have cz:=cz b
     have cu:=cu b
     (repeat' ((conv=>whnf);first|refine SC.go 77 cdx rfl fun fp'=>?_|refine SC.go 77 cdy rfl fun fp'=>?_|refine SC.go 77 cp rfl fun fp'=>?_|refine SC.go 77 cz rfl fun fp'=>?_|refine SC.go 77 cu rfl fun fp'=>?_|refine zg ?_|((first|apply zb|apply za|apply zc)<;>intro h<;>try (exfalso;omega))|refine pay ?_|intro _));(all_goals (conv=>whnf))
     all_goals try (exfalso;omega)
     all_goals exact ⟨qe (by (repeat (first|exact Thin.nil _|exact Thin.refl _|refine Thin.keep rfl (fun _ h=>h) ?_|refine Thin.skip ?_))) rfl⟩
    ·by_cases hc:(tm S1.E z).dep<=(tm S.E r).dep+1
     ·have:=hU2 hc (by omega)
      omega
     ·omega
    ·omega
   ·obtain ⟨S1,v1,e1,m1⟩:=jQ hw hx.1 hx.2 hy.1 hy.2 (by omega) (by omega)
    refine ⟨S1,v1,fun b=>?_,LevA.mk' m1.wf m1.grow m1.pos m1.le m1.tm rfl (by rw [xr];exact ⟨ex,ey,by omega,by omega⟩) (by rw [ye];omega) (by have:=m1.len;omega)⟩
    intro key fp w hR
    refine zf [.v (pS b),.v (.int .i64 x),.v (.int .i64 y)] zcq (by simp) (hR.key 77) ?_
    have cdx:=cdx b
    have cdy:=cdy b
    have c1:=xk b S hw x y
    rw [e1] at c1
    (repeat' ((conv=>whnf);first|refine SC.go 77 cdx rfl fun fp'=>?_|refine SC.go 77 cdy rfl fun fp'=>?_|refine SC.go 77 c1 rfl fun fp'=>?_|refine zg ?_|((first|apply zb|apply za|apply zc)<;>intro h<;>try (exfalso;omega))|refine pay ?_|intro _));(all_goals (conv=>whnf))
    all_goals try (exfalso;omega)
    all_goals exact ⟨qe (by (repeat (first|exact Thin.nil _|exact Thin.refl _|refine Thin.keep rfl (fun _ h=>h) ?_|refine Thin.skip ?_))) rfl⟩
theorem zmp:∀ {m:Tm},Pos m->m.evn=true->2 ^ (m.dep/2)<=m.len
 | .nil,h,_=>by cases h
 | .lt x,_,_=>by simp [Tm.dep,Tm.len,Tm.txt]
 | .pw a k,_,h=>by simp [Tm.evn] at h
 | .pr a b,h,he => by
   have hh:Pos a/\Pos b:=h
   rw [xr] at he
   have i1:=zmp hh.1 he.1
   have i2:=zmp hh.2 he.2.1
   rw [len_pr,ye]
   have d1:=he.2.2.1
   have d2:=he.2.2.2
   by_cases h0:max a.dep b.dep=0
   ·rw [h0]
    have e1:a.dep=0:=by omega
    rw [e1] at i1
    simp at i1 ⊢
    omega
   ·have hd:(1+max a.dep b.dep)/2=(max a.dep b.dep - 1)/2+1:=by omega
    rw [hd,Nat.pow_succ]
    have k1:(2:Nat) ^ ((max a.dep b.dep - 1)/2)<=2 ^ (a.dep/2):=Nat.pow_le_pow_right (by omega) (by omega)
    have k2:(2:Nat) ^ ((max a.dep b.dep - 1)/2)<=2 ^ (b.dep/2):=Nat.pow_le_pow_right (by omega) (by omega)
    omega
theorem za3 {m:Tm} (hp:Pos m) (he:m.evn=true) (hl:m.len<=511):m.dep<=17:=by
 have h:=zmp hp he
 apply Nat.le_of_not_lt
 intro hd
 have:(2:Nat) ^ 9<=2 ^ (m.dep/2):=Nat.pow_le_pow_right (by omega) (by omega)
 omega
def EvI (S:Sto) (x:Int) (t:List Nat):Prop:=(x=0/\t=[])∨(1<=x/\x<=S.E.length/\(tm S.E x).evn=true/\(tm S.E x).txt=t)
theorem EvI.known {S:Sto} {x:Int} {t:List Nat} (h:EvI S x t):known S x:=by
 rcases h with ⟨rfl,_⟩|⟨h1,h2,_⟩
 ·exact ⟨Int.le_refl _,by omega⟩
 ·exact ⟨by omega,h2⟩
theorem EvI.txt {S:Sto} {x:Int} {t:List Nat} (h:EvI S x t):(tm S.E x).txt=t/\(tm S.E x).evn=true:=by
 rcases h with ⟨rfl,rfl⟩|⟨_,_,h3,h4⟩
 ·exact ⟨rfl,rfl⟩
 ·exact ⟨h4,h3⟩
theorem EvI.grow {S S':Sto} {x:Int} {t:List Nat} (h:EvI S x t) (g:Grow S S'):EvI S' x t:=by
 rcases h with h|⟨h1,h2,h3,h4⟩
 ·exact .inl h
 ·have:=g.len
  exact .inr ⟨h1,by omega,by rw [g.tm h2];exact h3,by rw [g.tm h2];exact h4⟩
structure EvJ (S S':Sto) (z:Int) (t:List Nat) (c:Nat):Prop where
 wf:WF S'
 grow:Grow S S'
 ev:EvI S' z t
 cnt:S'.E.length<=S.E.length+c
theorem kW (S:Sto) (hw:WF S) (x y:Int) (tx ty:List Nat) (hx:EvI S x tx) (hy:EvI S y ty) (hl:tx.length+ty.length<=511) (hroom:S.E.length+103<=S.most) :
 ∃ S' z,(∀ b,SC y8 #[pS b,.int .i64 x,.int .i64 y] b S S' (.tuple #[.int .i64 z,.nilIface]))/\EvJ S S' z (tx++ty) 103:=by
 have hkx:=hx.known
 have hky:=hy.known
 obtain ⟨a1,a2⟩:=hx.txt
 obtain ⟨b1,b2⟩:=hy.txt
 have hLM:LM=1152921504606846976:=rfl
 have cwx:=fun b=>yd b S x hw.small
 have cwy:=fun b=>yd b S y hw.small
 have cex:=fun b=>zhp b S x hkx hw.small
 have cey:=fun b=>zhp b S y hky hw.small
 have cadd:=fun w=>zbi tx.length ty.length (by omega) (by omega) w
 have haddv:zgT tx.length ty.length=.tuple #[.int .i64 ((tx.length+ty.length:Nat):Int),.nilIface]:=by
  unfold zgT;rw [if_pos (by omega)]
 rw [haddv] at cadd
 rw [vj hkx,a1] at cwx
 rw [vj hky,b1] at cwy
 rw [a2] at cex
 rw [b2] at cey
 by_cases hx0:x=0
 ·refine ⟨S,y,fun b=>?_,hw,Grow.refl S,?_,by omega⟩
  rotate_left
  ·rcases hx with ⟨_,rfl⟩|h
   ·exact hy
   ·omega
  intro key fp w hR
  refine zf [.v (pS b),.v (.int .i64 x),.v (.int .i64 y)] zfy (by simp) (hR.key 77) ?_
  have cwx:=cwx b
  have cwy:=cwy b
  have cex:=cex b
  have cey:=cey b
  (repeat' ((conv=>whnf);first|refine SC.go 77 cwx rfl fun fp'=>?_|refine SC.go 77 cwy rfl fun fp'=>?_|refine SC.go 77 cex rfl fun fp'=>?_|refine SC.go 77 cey rfl fun fp'=>?_|(first|refine puK cadd ?_|refine quK cadd ?_)|refine zg ?_|((first|apply zb|apply za|apply zc)<;>intro h<;>try (exfalso;omega))|refine pay ?_|intro _));(all_goals (conv=>whnf))
  all_goals try (exfalso;omega)
  all_goals exact ⟨qe (by (repeat (first|exact Thin.nil _|exact Thin.refl _|refine Thin.keep rfl (fun _ h=>h) ?_|refine Thin.skip ?_))) rfl⟩
 by_cases hy0:y=0
 ·refine ⟨S,x,fun b=>?_,hw,Grow.refl S,?_,by omega⟩
  rotate_left
  ·rcases hy with ⟨_,rfl⟩|h
   ·rw [List.append_nil];exact hx
   ·omega
  intro key fp w hR
  refine zf [.v (pS b),.v (.int .i64 x),.v (.int .i64 y)] zfy (by simp) (hR.key 77) ?_
  have cwx:=cwx b
  have cwy:=cwy b
  have cex:=cex b
  have cey:=cey b
  (repeat' ((conv=>whnf);first|refine SC.go 77 cwx rfl fun fp'=>?_|refine SC.go 77 cwy rfl fun fp'=>?_|refine SC.go 77 cex rfl fun fp'=>?_|refine SC.go 77 cey rfl fun fp'=>?_|(first|refine puK cadd ?_|refine quK cadd ?_)|refine zg ?_|((first|apply zb|apply za|apply zc)<;>intro h<;>try (exfalso;omega))|refine pay ?_|intro _));(all_goals (conv=>whnf))
  all_goals try (exfalso;omega)
  all_goals exact ⟨qe (by (repeat (first|exact Thin.nil _|exact Thin.refl _|refine Thin.keep rfl (fun _ h=>h) ?_|refine Thin.skip ?_))) rfl⟩
 have hx1:1<=x/\x<=S.E.length:=by
  rcases hx with ⟨h,_⟩|h
  ·exact absurd h hx0
  ·exact ⟨h.1,h.2.1⟩
 have hy1:1<=y/\y<=S.E.length:=by
  rcases hy with ⟨h,_⟩|h
  ·exact absurd h hy0
  ·exact ⟨h.1,h.2.1⟩
 have dx:=za3 (hw.pos_ hx1.1 hx1.2) a2 (by unfold Tm.len;rw [a1];omega)
 have dy:=za3 (hw.pos_ hy1.1 hy1.2) b2 (by unfold Tm.len;rw [b1];omega)
 obtain ⟨S',z,cj,hJ⟩:=zqN _ S hw x y hx1 hy1 a2 b2 ⟨by omega,by omega⟩ (by unfold Tm.len;rw [a1,b1];omega) (by omega) (Nat.le_refl _)
 ·refine ⟨S',z,fun b=>?_,hJ.wf,hJ.grow,.inr ⟨hJ.z1,hJ.z2,hJ.evn,by rw [hJ.txt,a1,b1]⟩,by have:=hJ.cnt;omega⟩
  intro key fp w hR
  refine zf [.v (pS b),.v (.int .i64 x),.v (.int .i64 y)] zfy (by simp) (hR.key 77) ?_
  have cwx:=cwx b
  have cwy:=cwy b
  have cex:=cex b
  have cey:=cey b
  have cj:=cj b
  (repeat' ((conv=>whnf);first|refine SC.go 77 cwx rfl fun fp'=>?_|refine SC.go 77 cwy rfl fun fp'=>?_|refine SC.go 77 cex rfl fun fp'=>?_|refine SC.go 77 cey rfl fun fp'=>?_|(first|refine puK cadd ?_|refine quK cadd ?_)|refine SC.go 77 cj rfl fun fp'=>?_|refine zg ?_|((first|apply zb|apply za|apply zc)<;>intro h<;>try (exfalso;omega))|refine pay ?_|intro _));(all_goals (conv=>whnf))
  all_goals try (exfalso;omega)
  all_goals exact ⟨qe (by (repeat (first|exact Thin.nil _|exact Thin.refl _|refine Thin.keep rfl (fun _ h=>h) ?_|refine Thin.skip ?_))) rfl⟩
def zaD (L:List Int):List (Value × Value):=L.map fun x=>(.int .i64 x,.bool true)
theorem keyEq_int {x y:Int}:y9 (.int .i64 x) (.int .i64 y)=true↔x=y:=by simp [y9]
theorem ztU {L:List Int} {y:Int} (h:y∉L):uE (zaD L) (.int .i64 y)=none:=by
 induction L with
 | nil=>rfl
 | cons x L ih =>
   simp only [zaD,List.map_cons,uE]
   rw [if_neg (fun hk=>h (by rw [keyEq_int.1 hk];simp))]
   exact ih (fun hm=>h (by simp [hm]))
theorem ztV {L:List Int} {y:Int} (h:y∈L):uE (zaD L) (.int .i64 y)=some (.bool true):=by
 induction L with
 | nil=>simp at h
 | cons x L ih =>
   simp only [zaD,List.map_cons,uE]
   by_cases hx:y=x
   ·rw [if_pos (keyEq_int.2 hx)]
   ·rw [if_neg (fun hk=>hx (keyEq_int.1 hk))]
    exact ih (by simpa [hx] using h)
theorem zvC {L:List Int} {y:Int} (h:y∉L):uF (zaD L) (.int .i64 y) (.bool true)=zaD (L++[y]):=by
 induction L with
 | nil=>rfl
 | cons x L ih =>
   have hx:¬y9 (.int .i64 y) (.int .i64 x)=true:=fun hk=>h (by rw [keyEq_int.1 hk];simp)
   have ih:=ih (fun hm=>h (by simp [hm]))
   simp only [zaD,List.map_cons,uF,if_neg hx,List.cons_append] at ih ⊢
   rw [ih]
def zbz (P:Program) (f:FuncId):Prop:=∀ (p:Option Addr) (cap:Nat) (w:World),Calls P f #[.slice p 0 cap] w fun e w'=>e=.returned (.tuple #[])/\w'=w
inductive Rc (S:Sto) (rs:List Int):Int->Prop
 | root {x:Int}:x∈rs->x≠0->Rc S rs x
 | ref {x y:Int}:Rc S rs y->x∈yZ (atE S.E y).r->Rc S rs x
structure Bf (S:Sto) (rs:List Int) (i:Nat) (L:List Int):Prop where
 rch:∀ x∈L,Rc S rs x
 nod:L.Nodup
 pos:∀ x∈L,1<=x/\x<=S.E.length
 cls:∀ j,j<i->∀ y∈yZ (atE S.E (L.getD j 0)).r,y∈L
theorem Bf.len {S:Sto} {rs:List Int} {i:Nat} {L:List Int} (h:Bf S rs i L):L.length<=S.E.length:=zmW h.nod h.pos
def jr (L:List Int) (x:Int):List Int:=if x=0∨x∈L then L else L++[x]
theorem zhq {L:List Int} {x y:Int} (h:y∈L):y∈jr L x:=by
 unfold jr;split
 ·exact h
 ·exact List.mem_append_left _ h
theorem zpQ {L:List Int} {x:Int} (h:x≠0):x∈jr L x:=by
 unfold jr;split
 ·rename_i k;exact k.resolve_left h
 ·simp
theorem zm8 {L:List Int} {x:Int} {j:Nat} (h:j<L.length):(jr L x).getD j 0=L.getD j 0:=by
 unfold jr;split
 ·rfl
 ·exact qY h
theorem zwJ (L:List Int) (x:Int):L.length<=(jr L x).length:=by
 unfold jr;split
 ·exact Nat.le_refl _
 ·simp
theorem Bf.add {S:Sto} {rs:List Int} {i:Nat} {L:List Int} (h:Bf S rs i L) (hi:i<=L.length) {x:Int} (hx:0<=x/\x<=S.E.length) (hr:x≠0->Rc S rs x):Bf S rs i (jr L x):=by
 by_cases hm:x=0∨x∈L
 ·unfold jr;rw [if_pos hm];exact h
 have hm1:x≠0:=fun h=>hm (.inl h)
 have hm2:x∉L:=fun h=>hm (.inr h)
 refine ⟨?_,?_,?_,fun j hj y hy=>?_⟩
 ·intro y hy
  unfold jr at hy;rw [if_neg hm] at hy
  rcases List.mem_append.1 hy with hy|hy
  ·exact h.rch y hy
  ·rw [List.mem_singleton] at hy;subst hy;exact hr hm1
 ·unfold jr;rw [if_neg hm,List.nodup_append]
  exact ⟨h.nod,by simp,fun a ha b hb=>by rw [List.mem_singleton] at hb;subst hb;exact fun e=>hm2 (e ▸ ha)⟩
 ·intro y hy
  unfold jr at hy;rw [if_neg hm] at hy
  rcases List.mem_append.1 hy with hy|hy
  ·exact h.pos y hy
  ·rw [List.mem_singleton] at hy;subst hy;omega
 ·rw [zm8 (by omega)] at hy
  exact zhq (h.cls j hj y hy)
theorem Bf.next {S:Sto} {rs:List Int} {i:Nat} {L:List Int} (h:Bf S rs i L) (hr:∀ y∈yZ (atE S.E (L.getD i 0)).r,y∈L):Bf S rs (i+1) L :=
 ⟨h.rch,h.nod,h.pos,fun j hj=>by
  by_cases he:j=i
  ·subst he;exact hr
  ·exact h.cls j (by omega)⟩
theorem Bf.all {S:Sto} {rs L:List Int} (h:Bf S rs L.length L) (hr:∀ x∈rs,x≠0->x∈L) {x:Int} (k:Rc S rs x):x∈L:=by
 induction k with
 | root h1 h2=>exact hr _ h1 h2
 | ref _ h2 ih =>
   obtain ⟨e1,e2⟩:=zse ih
   exact h.cls _ e1 _ (by rw [e2];exact h2)
theorem Rc.known {S:Sto} (hw:WF S) {rs:List Int} (hr:∀ x∈rs,0<=x/\x<=S.E.length) {x:Int} (k:Rc S rs x):1<=x/\x<=S.E.length:=by
 induction k with
 | root h1 h2=>have:=hr _ h1;omega
 | ref _ h2 ih =>
   have hok:=hw.okAt ih.1 ih.2
   obtain ⟨j,hj,rfl⟩:=List.getElem_of_mem h2
   have:=zoH hok j hj
   rw [g1q,g2q hj] at this
   simp only [Option.getD_some] at this
   omega
theorem zpR (b:Nat) (S:Sto) (n:Int) (hn:0<=n/\n<=S.E.length):SC zaP #[pS b,.int .i64 n] b S S (.bool true):=by
 intro key fp w hR
 refine zf [.v (pS b),.v (.int .i64 n)] zj9 (by simp) (hR.key 77) ?_
 have c1:=zds b S
 (repeat' ((conv=>whnf);first|refine SC.go 77 c1 rfl fun fp'=>?_|refine zg ?_|((first|apply zb|apply za|apply zc)<;>intro h<;>try (exfalso;omega))|refine pay ?_|intro _));(all_goals (conv=>whnf))
 all_goals try (exfalso;omega)
 all_goals exact ⟨qe (by (repeat (first|exact Thin.nil _|exact Thin.refl _|refine Thin.keep rfl (fun _ h=>h) ?_|refine Thin.skip ?_))) (by rw [decide_eq_true hn.2])⟩
abbrev viL (b6 b7 bm:Nat) (L:List Int) (a:Option Addr) (c:Nat):List Ent :=
 [.box 6 b6 [.slice a L.length c] jU,.box 7 b7 [.map (some bm)] km,.mapE 19 bm (.int .i64) (zaD (0::L)),.own 13 a L.length c zr 1 (zt .i64 L)]
def viQ (b6 b7 bm:Nat) (L:List Int) (v:Value) (L1:List Ent):Prop:=∃ a c,v=.tuple #[]/\L1=viL b6 b7 bm L a c
theorem zqO (b6 b7 bm:Nat) (L:List Int) (a:Option Addr) (c:Nat) (x:Int) (hl:L.length<=1048576) (fp:List Nat) (w:World) (hR:R w fp (viL b6 b7 bm L a c) w) :
 Calls Tryz.prog kj #[.int .i64 x,pS b7,pS b6] w fun e w'=>∃ v L1,e=.returned v/\R w fp L1 w'/\viQ b6 b7 bm (jr L x) v L1:=by
 refine zf [.v (.int .i64 x),.ptr 7 b7 0,.ptr 6 b6 0] ziw (by simp) hR ?_
 by_cases hm:x=0∨x∈L
 ·have hs:x∈0::L:=by
   rcases hm with h|h
   ·simp [h]
   ·simp [h]
  have hm2:=ztV hs
  unfold jr;rw [if_pos hm]
  (repeat' ((conv=>whnf);first|refine j6 hm2 ?_|refine ⟨.mp 19 _,⟨rfl,rfl⟩,?_⟩|((first|apply zb|apply za|apply zc)<;>intro h<;>try (exfalso;omega))|refine pay ?_|refine And.intro (by first|exact ⟨rfl,rfl,_,rfl⟩) ?_|intro _));(all_goals (conv=>whnf))
  exact ⟨⟨_,Ref.refl _,a,c,rfl,rfl⟩⟩
 have hs:x∉0::L:=by
  intro h
  rcases List.mem_cons.1 h with h|h
  ·exact hm (.inl h)
  ·exact hm (.inr h)
 have hm2:=ztU hs
 have hs2:=zvC hs
 unfold jr;rw [if_neg hm]
 (repeat' ((conv=>whnf);first|rw [hs2]|refine zfS hm2 ?_|refine ⟨.mp 19 _,⟨rfl,rfl⟩,?_⟩|refine ⟨.sl 13 _ _ _,⟨rfl,rfl,rfl,rfl⟩,?_⟩|((first|apply zb|apply za|apply zc)<;>intro h<;>try (exfalso;omega))|refine pay ?_|refine And.intro (by first|exact ⟨rfl,rfl,_,rfl⟩|exact ⟨by unfold maxLen;omega,by omega⟩) ?_|intro _));(all_goals (conv=>whnf))
 rename_i a' c'
 have hMl:(L++[x]).length=L.length+1:=by simp
 refine ⟨⟨_,?_,a',c',rfl,rfl⟩⟩
 unfold viL
 rw [hMl,←Go.EG.ints_snoc]
 exact Ref.takes [6,7,19,13] rfl (.refl _)
def rcQ (key b:Nat) (S:Sto) (rs:List Int) (v:Value) (L1:List Ent):Prop :=
 ∃ L a c fp',v=.tuple #[.slice a (L:List Int).length c,.nilIface]/\L.length<=S.E.length/\(∀ x,Rc S rs x->x∈L)/\((∀ x∈L,Rc S rs x)/\L.Nodup/\L.Pairwise (fun x y=>decide (x<=y)=true))/\L1=[packE key fp' (fS b S),.own 813 a L.length c zr 1 (zt .i64 L)]
structure RcG where
 i:Nat
 L:List Int
 a:Option Addr
 c:Nat
 fp:List Nat
theorem zqP (hs:zaw Tryz.prog zo) (hn:zbz Tryz.prog zo) (b:Nat) (S:Sto) (hw:WF S) (rs:List Int) (hrs:∀ x∈rs,0<=x/\x<=S.E.length) (hrl:rs.length<=1048576) (ar:Option Addr) (cr key:Nat) (fp:List Nat) (w:World) (hR:StR w key fp b S) (hin:In w fp ar (zt .i64 rs)) :
 Calls Tryz.prog zaO #[pS b,.slice ar rs.length cr] w fun e w'=>∃ v L1,e=.returned v/\R w fp L1 w'/\rcQ key b S rs v L1:=by
 refine zf [.v (pS b),.v (.slice ar rs.length cr)] zkb (by simp) (hR.key 77) ?_
 have hsm:=hw.small
 have m0:uF ([]:List (Value × Value)) (.int .i64 0) (.bool true)=zaD [0]:=rfl
 (repeat' ((conv=>whnf);first|rw [m0]|((first|apply zb|apply za|apply zc)<;>intro h<;>try (exfalso;omega))|refine pay ?_|refine And.intro (by first|exact ⟨rfl,rfl,_,rfl⟩) ?_|intro _));(all_goals (conv=>whnf))
 rename_i b6 bm b7
 have cV:=fun (L:List Int) (hl:L.length<=1048576) a c x fp w h=>zqO b6 b7 bm L a c x hl fp w h
 refine zP RcG (fun x=>[(0,.v (pS b)),(6,.ptr 6 b6 0),(8,.v (.func (.func kj) #[] #[pS b7,pS b6])),(22,.v (.slice ar rs.length cr)),(23,.v (.int .i64 rs.length)),(24,.v (.int .i64 x.i))])
  (fun x=>[.box 6 b6 [.slice x.a x.L.length x.c] jU,.box 7 b7 [.map (some bm)] km,.mapE 19 bm (.int .i64) (zaD (0::x.L)),.own 13 x.a x.L.length x.c zr 1 (zt .i64 x.L),packE 77 x.fp (fS b S)])
  (fun x=>x.i<=rs.length/\Bf S rs 0 x.L/\∀ y∈rs.take x.i,y≠0->y∈x.L) (fun x=>rs.length - x.i) ⟨0,[],none,0,fp⟩ ⟨Nat.zero_le _,⟨fun _ h=>by simp at h,by simp,fun _ h=>by simp at h,fun j hj=>absurd hj (Nat.not_lt_zero j)⟩,fun _ h=>by simp at h⟩ (by (repeat ((conv=>whnf);refine vS ?_));exact trivial) ((Ref.ownNil 13 zr 1).trans (Ref.takes [6,7,19,13,77] rfl (.refl _))) ?_
 rintro ⟨i,L,a,c,fpx⟩ ⟨hi,hB,hL⟩
 dsimp only at hi hB hL ⊢
 have hlen:=hB.len
 by_cases hlt:i<rs.length
 ·have rd:=fun {L:List Ent}=>rdI (L:=L) hin (i:=i) hlt
  have nr:ar≠none:=hin.ne' (k:=i) (by rw [y7];exact hlt)
  have q0:((i:Nat):Int).toNat=i:=by omega
  have hm:rs.getD i 0∈rs:=zg9 hlt
  have hx:=hrs _ hm
  have htk:rs.take (i+1)=rs.take i++[rs.getD i 0]:=zmV hlt
  generalize rs.getD i 0=x at *
  have c1:=zpR b S x hx
  (repeat' ((conv=>whnf);first|rw [q0]|refine ⟨_,rd,?_⟩|refine SC.go 77 c1 rfl fun fp'=>?_|(refine zh [6,7,19,13] rfl (fun w hR hR0=>cV L (by omega) a c x _ w hR0) ?_;rintro _ _ ⟨a',c',rfl,rfl⟩;refine ⟨.v _,rfl,?_⟩)|refine zg ?_|((first|apply zb|apply za|apply zc)<;>intro h<;>try (exfalso;omega))|refine pay ?_|intro _));(all_goals (conv=>whnf))
  all_goals try (exfalso;omega)
  refine zm ⟨i+1,jr L x,a',c',_⟩ ⟨hlt,hB.add (Nat.zero_le _) hx (fun h0=>.root hm h0),fun y hy h0=>?_⟩ (by ((try dsimp only);omega)) (by (repeat ((conv=>whnf);refine vS ?_));exact trivial) (Ref.takes [6,7,19,13,77] rfl (.refl _))
  rw [htk] at hy
  rcases List.mem_append.1 hy with hy|hy
  ·exact zhq (hL y hy h0)
  ·rw [List.mem_singleton] at hy;subst hy;exact zpQ h0
 obtain rfl:i=rs.length:=by omega
 rw [List.take_length] at hL
 (repeat' ((conv=>whnf);first|((first|apply zb|apply za|apply zc)<;>intro h<;>try (exfalso;omega))|refine pay ?_|intro _));(all_goals (conv=>whnf))
 refine zP RcG (fun x=>[(0,.v (pS b)),(6,.ptr 6 b6 0),(8,.v (.func (.func kj) #[] #[pS b7,pS b6])),(11,.v (.int .i64 x.i))])
  (fun x=>[.box 6 b6 [.slice x.a x.L.length x.c] jU,.box 7 b7 [.map (some bm)] km,.mapE 19 bm (.int .i64) (zaD (0::x.L)),.own 13 x.a x.L.length x.c zr 1 (zt .i64 x.L),packE 77 x.fp (fS b S)])
  (fun x=>x.i<=x.L.length/\Bf S rs x.i x.L/\∀ y∈rs,y≠0->y∈x.L) (fun x=>S.E.length - x.i) ⟨0,L,a,c,fpx⟩ ⟨Nat.zero_le _,hB,hL⟩ (by (repeat ((conv=>whnf);refine vS ?_));exact trivial) (Ref.takes [6,7,19,13,77] rfl (.refl _)) ?_
 clear hlen hB hL hi hlt L a c fpx
 rintro ⟨i,L,a,c,fpx⟩ ⟨hi,hB,hL⟩
 dsimp only at hi hB hL ⊢
 have hlen:=hB.len
 by_cases hlt:i<L.length
 ·have hmem:=zg9 hlt
  obtain ⟨p1,p2⟩:=hB.pos _ hmem
  have hxr:=hB.rch _ hmem
  have q0:((i:Nat):Int).toNat=i:=by omega
  generalize hx:L.getD i 0=x at *
  have c1:=qZ b S x hsm
  rw [yy p1 p2] at c1
  have c2:=zr6 (atE S.E x).r
  have hok:=hw.okAt p1 p2
  have hrl:=zto (atE S.E x).r
  have hrr:=zoH hok
  generalize hzs:yZ (atE S.E x).r=zs at *
  have q1:Go.EG.intOf (atL (zt .i64 L) i)=x:=by rw [zgM hlt,hx]
  have k1:=zjI (k:=.i64) hlt
  have hin2:(zt .i64 L)[i]?=some (.int .i64 x):=by rw [←hx];exact xY hlt
  (repeat' ((conv=>whnf);first|rw [q0]|rw [Nat.mul_one]|rw [q1]|refine SC.go 77 c1 rfl fun fp'=>?_|refine zcg 900 (fun w hR=>c2 w) ?_|refine ⟨.sl 13 _ _ _,⟨rfl,rfl,rfl,rfl⟩,?_⟩|refine zg ?_|((first|apply zb|apply za|apply zc)<;>intro h<;>try (exfalso;omega))|refine pay ?_|refine And.intro (by first|exact k1) ?_|intro _));(all_goals (conv=>whnf))
  all_goals try (exfalso;omega)
  rename_i a9 c9
  refine zP RcG (fun y=>[(0,.v (pS b)),(6,.ptr 6 b6 0),(8,.v (.func (.func kj) #[] #[pS b7,pS b6])),(11,.v (.int .i64 i)),(56,.sl 900 a9 zs.length c9),(57,.v (.int .i64 zs.length)),(58,.v (.int .i64 y.i))])
   (fun y=>[.own 900 a9 zs.length c9 zr 1 (zt .i64 zs),.box 6 b6 [.slice y.a y.L.length y.c] jU,.box 7 b7 [.map (some bm)] km,.mapE 19 bm (.int .i64) (zaD (0::y.L)),.own 13 y.a y.L.length y.c zr 1 (zt .i64 y.L),packE 77 y.fp (fS b S)])
   (fun y=>y.i<=zs.length/\Bf S rs i y.L/\(∀ z∈rs,z≠0->z∈y.L)/\(i<y.L.length/\y.L.getD i 0=x)/\∀ k,k<y.i->zs.getD k 0∈y.L) (fun y=>zs.length - y.i) ⟨0,L,a,c,_⟩ ⟨Nat.zero_le _,hB,hL,⟨hlt,hx⟩,fun k hk=>absurd hk (Nat.not_lt_zero k)⟩ (by (repeat ((conv=>whnf);refine vS ?_));exact trivial) (Ref.takes [900,6,7,19,13,77] rfl (.refl _)) ?_
  clear hB hL hlen hlt hx q1 k1 hin2 hmem hi
  rintro ⟨j,M,am,cm,fpm⟩ ⟨hj,hB,hL,⟨hiM,hxM⟩,hM⟩
  dsimp only at hj hB hL hiM hxM hM ⊢
  have hlen:=hB.len
  by_cases hlj:j<zs.length
  ·have hy:=hrr j hlj
   have hyr:Rc S rs (zs.getD j 0):=.ref hxr (by rw [hzs];exact zg9 hlj)
   generalize hyx:zs.getD j 0=y at *
   have q1:Go.EG.intOf (atL (zt .i64 zs) j)=y:=by rw [zgM hlj,hyx]
   have k1:=zjI (k:=.i64) hlj
   have q2:((j:Nat):Int).toNat=j:=by omega
   (repeat' ((conv=>whnf);first|rw [q2]|rw [Nat.mul_one]|rw [q1]|(refine zh [6,7,19,13] rfl (fun w hR hR0=>cV M (by omega) am cm y _ w hR0) ?_;rintro _ _ ⟨a',c',rfl,rfl⟩;refine ⟨.v _,rfl,?_⟩)|refine zg ?_|((first|apply zb|apply za|apply zc)<;>intro h<;>try (exfalso;omega))|refine pay ?_|refine And.intro (by first|exact k1) ?_|intro _));(all_goals (conv=>whnf))
   all_goals try (exfalso;omega)
   refine zm ⟨j+1,jr M y,a',c',_⟩ ⟨hlj,hB.add (by omega) (by omega) (fun _=>hyr),fun z hz h0=>zhq (hL z hz h0),⟨Nat.lt_of_lt_of_le hiM (zwJ _ _),by rw [zm8 hiM];exact hxM⟩,fun k hk=>?_⟩ (by ((try dsimp only);omega)) (by (repeat ((conv=>whnf);refine vS ?_));exact trivial) (Ref.takes [900,6,7,19,13,77] rfl (.refl _))
   rcases (show k<j∨k=j by have:k<j+1:=hk;omega) with hk|rfl
   ·exact zhq (hM k hk)
   ·rw [hyx];exact zpQ (by omega)
  ·obtain rfl:j=zs.length:=by omega
   (repeat' ((conv=>whnf);first|((first|apply zb|apply za|apply zc)<;>intro h<;>try (exfalso;omega))|refine pay ?_|intro _));(all_goals (conv=>whnf))
   refine zm ⟨i+1,M,am,cm,fpm⟩ ⟨hiM,hB.next fun y hy=>?_,hL⟩ (by ((try dsimp only);omega)) (by (repeat ((conv=>whnf);refine vS ?_));exact trivial) (Ref.takes [6,7,19,13,77] rfl (.refl _))
   rw [hxM,hzs] at hy
   obtain ⟨k,hk,rfl⟩:=List.getElem_of_mem hy
   have:=hM k (by omega)
   rwa [g1q,g2q hk] at this
 ·obtain rfl:i=L.length:=by omega
  have hall:=fun x (k:Rc S rs x)=>hB.all hL k
  rcases Nat.eq_zero_or_pos L.length with h0|h0
  ·obtain rfl:L=[]:=List.length_eq_zero_iff.1 h0
   have cN:=fun w=>hn a c w
   (repeat' ((conv=>whnf);first|(refine zv (.v _) (fun w' hR=>(cN w').mono fun e w' ⟨h1,h2⟩=>⟨h1,h2 ▸ Ext.refl _⟩) ?_)|refine zg ?_|((first|apply zb|apply za|apply zc)<;>intro h<;>try (exfalso;omega))|refine pay ?_|intro _));(all_goals (conv=>whnf))
   all_goals try (exfalso;omega)
   exact ⟨⟨_,(Ref.takes [77,13] rfl (.packE (.own (k':=813) rfl rfl (.nil _)))).trans (Ref.refl _),[],a,c,_,rfl,Nat.zero_le _,hall,⟨fun x h=>by simp at h,by simp,by simp⟩,rfl⟩⟩
  ·(repeat' ((conv=>whnf);first|refine zsr (key:=13) (zs:=L) hs rfl rfl h0 (by omega) ?_|refine zg ?_|((first|apply zb|apply za|apply zc)<;>intro h<;>try (exfalso;omega))|refine pay ?_|intro _));(all_goals (conv=>whnf))
   all_goals try (exfalso;omega)
   have hml:(L.mergeSort (fun x y=>decide (x<=y))).length=L.length:=List.length_mergeSort L
   have hp:(L.mergeSort (fun x y=>decide (x<=y))).Perm L:=List.mergeSort_perm L _
   exact ⟨⟨_,(Ref.takes [77,13] rfl (.packE (.own (k':=813) hml.symm rfl (.nil _)))).trans (Ref.refl _),L.mergeSort (fun x y=>decide (x<=y)),a,c,_,by rw [hml],by rw [hml];exact hlen,fun x k=>hp.mem_iff.2 (hall x k),⟨fun x h=>hB.rch x (hp.mem_iff.1 h),hp.nodup_iff.2 hB.nod,List.pairwise_mergeSort (fun a b c h1 h2=>by simp at h1 h2 ⊢;omega) (fun a b=>by simp;omega) L⟩,rfl⟩⟩
end
end Go.Proofs.YtdcbghoalnlcmaaGreatDoor
namespace Go.Proofs
open Go.Shelf
def Tryz.laysSlgm5_f93_ren:Go.Shelf.Ren:=⟨fun | 5=>93 | 8=>110 | 7=>109 | 19=>137 | 20=>123 | 10=>128 | 11=>129 | 12=>130 | 13=>131 | 14=>132 | 15=>133 | 16=>134 | 17=>135 | 18=>136 | 30=>148 | 31=>149 | 32=>150 | 33=>151 | 34=>152 | 35=>153 | 40=>159|n=>n,fun | 23=>25 | 25=>37 | 3=>3 | 32=>193 | 22=>25 | 0=>0 | 44=>220 | 46=>44 | 4=>4 | 36=>213 | 35=>212 | 41=>158 | 5=>5 | 9=>9 | 53=>229 | 57=>233 | 63=>240 | 64=>241|n=>n,fun|n=>n⟩
theorem Tryz.laysSlgm5_f93:Go.Proofs.SlLaysM.n5 Tryz.prog Tryz.laysSlgm5_f93_ren:={
 mixed:=by kernel_rfl
 f5:=⟨Tryz.f93.name,by decide,Tryz.func93.trans (congrArg some (by kernel_rfl))⟩
 f7:=⟨Tryz.f109.name,by decide,Tryz.func109.trans (congrArg some (by kernel_rfl))⟩
 f8:=Tryz.func110.trans (congrArg some (by kernel_rfl))
 f10:=⟨Tryz.f128.name,by decide,Tryz.func128.trans (congrArg some (by kernel_rfl))⟩
 f11:=⟨Tryz.f129.name,by decide,Tryz.func129.trans (congrArg some (by kernel_rfl))⟩
 f12:=⟨Tryz.f130.name,by decide,Tryz.func130.trans (congrArg some (by kernel_rfl))⟩
 f13:=⟨Tryz.f131.name,by decide,Tryz.func131.trans (congrArg some (by kernel_rfl))⟩
 f14:=⟨Tryz.f132.name,by decide,Tryz.func132.trans (congrArg some (by kernel_rfl))⟩
 f15:=⟨Tryz.f133.name,by decide,Tryz.func133.trans (congrArg some (by kernel_rfl))⟩
 f16:=⟨Tryz.f134.name,by decide,Tryz.func134.trans (congrArg some (by kernel_rfl))⟩
 f17:=⟨Tryz.f135.name,by decide,Tryz.func135.trans (congrArg some (by kernel_rfl))⟩
 f18:=⟨Tryz.f136.name,by decide,Tryz.func136.trans (congrArg some (by kernel_rfl))⟩
 f19:=Tryz.func137.trans (congrArg some (by kernel_rfl))
 f20:=Tryz.func123.trans (congrArg some (by kernel_rfl))
 f30:=⟨Tryz.f148.name,by decide,Tryz.func148.trans (congrArg some (by kernel_rfl))⟩
 f31:=Tryz.func149.trans (congrArg some (by kernel_rfl))
 f32:=Tryz.func150.trans (congrArg some (by kernel_rfl))
 f33:=⟨Tryz.f151.name,by decide,Tryz.func151.trans (congrArg some (by kernel_rfl))⟩
 f34:=⟨Tryz.f152.name,by decide,Tryz.func152.trans (congrArg some (by kernel_rfl))⟩
 f35:=⟨Tryz.f153.name,by decide,Tryz.func153.trans (congrArg some (by kernel_rfl))⟩
 f40:=⟨Tryz.f159.name,by decide,Tryz.func159.trans (congrArg some (by kernel_rfl))⟩
 t0:=Tryz.underlying0
 a0:=Tryz.isAgg0
 z0:=Tryz.sizeOf0
 v0:=Tryz.zeroValue0
 t3:=Tryz.underlying3
 a3:=Tryz.isAgg3
 z3:=Tryz.sizeOf3
 v3:=Tryz.zeroValue3
 t4:=Tryz.underlying4
 a4:=Tryz.isAgg4
 z4:=Tryz.sizeOf4
 v4:=Tryz.zeroValue4
 t5:=Tryz.underlying5
 a5:=Tryz.isAgg5
 z5:=Tryz.sizeOf5
 v5:=Tryz.zeroValue5
 t9:=Tryz.underlying9
 a9:=Tryz.isAgg9
 z9:=Tryz.sizeOf9
 v9:=Tryz.zeroValue9
 t22:=Tryz.underlying25
 a22:=Tryz.isAgg25
 z22:=Tryz.sizeOf25
 v22:=Tryz.zeroValue25
 t23:=Tryz.underlying25
 a23:=Tryz.isAgg25
 z23:=Tryz.sizeOf25
 v23:=Tryz.zeroValue25
 t25:=Tryz.underlying37
 a25:=Tryz.isAgg37
 z25:=Tryz.sizeOf37
 v25:=Tryz.zeroValue37
 t32:=Tryz.underlying193
 a32:=Tryz.isAgg193
 z32:=Tryz.sizeOf193
 v32:=Tryz.zeroValue193
 t35:=Tryz.underlying212
 a35:=Tryz.isAgg212
 z35:=Tryz.sizeOf212
 v35:=Tryz.zeroValue212
 t36:=Tryz.underlying213
 a36:=Tryz.isAgg213
 z36:=Tryz.sizeOf213
 v36:=Tryz.zeroValue213
 t41:=Tryz.underlying158
 a41:=Tryz.isAgg158
 z41:=Tryz.sizeOf158
 v41:=Tryz.zeroValue158
 t44:=Tryz.underlying220
 a44:=Tryz.isAgg220
 z44:=Tryz.sizeOf220
 v44:=Tryz.zeroValue220
 t46:=Tryz.underlying44
 a46:=Tryz.isAgg44
 z46:=Tryz.sizeOf44
 v46:=Tryz.zeroValue44
 t53:=Tryz.underlying229
 a53:=Tryz.isAgg229
 z53:=Tryz.sizeOf229
 v53:=Tryz.zeroValue229
 t57:=Tryz.underlying233
 a57:=Tryz.isAgg233
 z57:=Tryz.sizeOf233
 v57:=Tryz.zeroValue233
 t63:=Tryz.underlying240
 a63:=Tryz.isAgg240
 z63:=Tryz.sizeOf240
 v63:=Tryz.zeroValue240
 t64:=Tryz.underlying241
 a64:=Tryz.isAgg241
 z64:=Tryz.sizeOf241
 v64:=Tryz.zeroValue241 }
end Go.Proofs
namespace Go.Proofs.YtdcbghoalnlcmaaGreatDoor
section
open Go.EG
theorem zw9:zaw Tryz.prog zo:=fun blk off cap zs w hH hb hs=>AnyM.slices_Sort_int Tryz.laysSlgm5_f93 blk off cap zs w hH hb hs
theorem zxa:zbz Tryz.prog zo:=fun p cap w=>AnyM.slices_Sort_int_none Tryz.laysSlgm5_f93 p cap w
end
section
open Go.EG
attribute [local irreducible] z8 yN Go.Calls
set_option maxRecDepth 20000
set_option maxHeartbeats 4000000
theorem In.offB {w0:World} {fp0:List Nat} {a:Option Addr} {xs:List Value} (h:In w0 fp0 a xs) {c i:Nat} (n:Nat) (hc:xs.length<=c):In w0 fp0 (xc a c i 1) ((xs.drop i).take n):=by
 by_cases hi:i<xs.length
 ·rcases h with rfl|⟨b,off,rfl,h1,h2,h3⟩
  ·simp at hi
  ·refine .inr ⟨b,off+i,?_,h1,h2,fun j v hv=>?_⟩
   ·unfold xc
    rw [if_neg (by omega),Nat.mul_one]
    simp [Addr.add]
    try omega
   ·rw [Nat.add_assoc]
    refine h3 _ v ?_
    rw [List.getElem?_take] at hv
    split at hv
    ·simpa using hv
    ·cases hv
 ·exact .inl (by rw [List.drop_eq_nil_of_le (by omega)];simp)
def byL (t:List Nat):List Value:=zt .u8 (t.map Int.ofNat)
theorem zrC (t:List Nat):(byL t).length=t.length:=by simp [byL,zt]
theorem zrD (t:List Nat) (i n:Nat):((byL t).drop i).take n=byL ((t.drop i).take n):=by
 unfold byL zt
 rw [←List.map_drop,←List.map_drop,←List.map_take,←List.map_take]
def IsD (n d:Nat):Prop:=n<=2 ^ d/\(d=0∨2 ^ (d - 1)<n)
theorem zxb {n m d e:Nat} (h:IsD n d) (k:IsD m e) (hnm:n<=m) (h1:1<=n):d<=e:=by
 apply Nat.le_of_not_lt
 intro hlt
 rcases h.2 with h0|h0
 ·omega
 ·have:=k.1
  have:(2:Nat) ^ e<=2 ^ (d - 1):=Nat.pow_le_pow_right (by omega) (by omega)
  omega
theorem zvD {n m d e:Nat} (h:IsD n d) (k:IsD m e) (hnm:m<=n+1) (h1:1<=n):e<=d+1:=by
 apply Nat.le_of_not_lt
 intro hlt
 rcases k.2 with h0|h0
 ·omega
 ·have h2:=h.1
  have:(2:Nat) ^ (d+1)<=2 ^ (e - 1):=Nat.pow_le_pow_right (by omega) (by omega)
  have h4:(2:Nat) ^ (d+1)=2 ^ d*2:=Nat.pow_succ _ _
  omega
theorem zvE {n a b d e:Nat} (ha:a=n/2) (hb:b=n - n/2) (hn:2<=n) (h:IsD a d) (k:IsD b e):IsD n (1+max d e)/\d<=e/\e<=d+1:=by
 have h1:=zxb h k (by omega) (by omega)
 have h2:=zvD h k (by omega) (by omega)
 refine ⟨?_,h1,h2⟩
 rw [Nat.max_eq_right h1]
 have k1:=k.1
 have e1:(2:Nat) ^ (1+e)=2*2 ^ e:=by rw [Nat.add_comm,Nat.pow_succ,Nat.mul_comm]
 refine ⟨by omega,.inr ?_⟩
 rw [Nat.add_sub_cancel_left]
 rcases k.2 with h0|h0
 ·subst h0;simp at k1 ⊢;omega
 ·obtain ⟨q,rfl⟩:∃ q,e=q+1:=by
   cases e with
   | zero=>simp at h0 k1;exact absurd h0 (by omega)
   | succ q=>exact ⟨q,rfl⟩
  rw [Nat.add_sub_cancel] at h0
  rw [Nat.pow_succ]
  omega
def btQ (key b:Nat) (S:Sto) (t:List Nat) (v:Value) (L1:List Ent):Prop :=
 ∃ S' x fp',v=.tuple #[.int .i64 x,.nilIface]/\WF S'/\Grow S S'/\1<=x/\x<=S'.E.length/\(tm S'.E x).txt=t/\(tm S'.E x).evn=true/\IsD t.length (tm S'.E x).dep/\S'.E.length+1<=S.E.length+2*t.length/\L1=[packE key fp' (fS b S')]
theorem zfG (b:Nat):∀ (m:Nat) (t:List Nat),t.length<=m->0<t.length->t.length<=LM->(∀ x∈t,x<256)->∀ (S:Sto),WF S->S.E.length+2*t.length<=S.most->∀ (a:Option Addr) (c:Nat),t.length<=c->c<=9223372036854775807->∀ (key:Nat) (fp:List Nat) (w:World),StR w key fp b S->In w fp a (byL t) ->
 Calls Tryz.prog vJ #[pS b,.slice a t.length c] w fun e w'=>∃ v L1,e=.returned v/\R w fp L1 w'/\btQ key b S t v L1
 | 0,t,hm,h0,_,_,_,_,_,_,_,_,_,_,_,_,_,_=>absurd h0 (by omega)
 | m + 1,t,hm,h0,hLt,ht,S,hw,hroom,a,c,hc,hc2,key,fp,w,hR,hin => by
   refine zf [.v (pS b),.v (.slice a t.length c)] zlj (by simp) (hR.key 77) ?_
   have hLM:LM=1152921504606846976:=rfl
   by_cases h1:t.length=1
   ·obtain ⟨l,rfl⟩:=List.length_eq_one_iff.1 h1
    have hl:l<256:=ht l (by simp)
    obtain ⟨S',x,e1,hMd⟩:=zv4 hw hl (by rw [h1] at hroom;omega)
    have c1:=zid b S l hl hw.small
    rw [e1] at c1
    have rd:=fun {L:List Ent}=>rdI (L:=L) (k:=.u8) (zs:=[(l:Int)]) hin (i:=0) (by simp)
    have nr:a≠none:=hin.ne' (k:=0) (by simp [byL,zt])
    have z0:([(l:Int)]:List Int).getD 0 0=(l:Int):=rfl
    rw [z0] at rd
    (repeat' ((conv=>whnf);first|refine ⟨_,rd,?_⟩|refine SC.go 77 c1 rfl fun fp'=>?_|refine zg ?_|((first|apply zb|apply za|apply zc)<;>intro h<;>try (exfalso;omega))|refine pay ?_|intro _));(all_goals (conv=>whnf))
    all_goals try (exfalso;omega)
    exact ⟨⟨_,Thin.ref (.packE (.nil _)),S',x,_,rfl,hMd.wf,hMd.grow,hMd.pos,hMd.le,by rw [hMd.tm];rfl,by rw [hMd.tm];rfl,by rw [hMd.tm];exact ⟨Nat.le_refl 1,.inl rfl⟩,by have:=hMd.len;rw [h1];omega,rfl⟩⟩
   ·obtain ⟨hf,hhf⟩:∃ hf,t.length/2=hf:=⟨_,rfl⟩
    have tl1:(t.take hf).length=hf:=by rw [List.length_take];omega
    have tl2:(t.drop hf).length=t.length - hf:=List.length_drop
    have in1:In w fp a (byL (t.take hf)):=by
     have:=In.offB hin (c:=c) (i:=0) hf (by rw [zrC];exact hc)
     rw [zrD,List.drop_zero,uy] at this
     exact this
    have in2:In w fp (xc a c hf 1) (byL (t.drop hf)):=by
     have:=In.offB hin (c:=c) (i:=hf) (t.length - hf) (by rw [zrC];exact hc)
     rw [zrD,List.take_of_length_le (by rw [tl2];exact Nat.le_refl _)] at this
     exact this
    have ih1:=zfG b m (t.take hf) (by omega) (by omega) (by omega) (fun x hx=>ht x (List.mem_of_mem_take hx)) S hw (by omega) a c (by omega) hc2
    have ih2:=fun S' hw' hr'=>zfG b m (t.drop hf) (by omega) (by omega) (by omega) (fun x hx=>ht x (List.mem_of_mem_drop hx)) S' hw' hr' (xc a c hf 1) (c - hf) (by omega) (by omega)
    rw [tl1] at ih1
    rw [tl2] at ih2
    have q1:((t.length:Int)/2)=(hf:Int):=by omega
    have q2:((hf:Nat):Int).toNat=hf:=by omega
    have hsp:t=t.take hf++t.drop hf:=(List.take_append_drop hf t).symm
    have hz:xc a c (Int.toNat 0) 1=a:=uy a c 1
    (repeat' ((conv=>whnf);first|rw [q1]|rw [q2]|rw [hz]|(refine qx (key:=77) rfl (fun w' hR' h0=>ih1 _ _ w' h0 (in1.cast hR' (fun b hb=>List.mem_append_left _ hb))) ?_;rintro _ _ ⟨S1,x1,f1,rfl,w1,g1,p1,k1,t1,v1,d1,l1,rfl⟩;refine ⟨.v _,rfl,?_⟩)|refine zg ?_|((first|apply zb|apply za|apply zc)<;>intro h<;>try (exfalso;omega))|refine pay ?_|intro _));(all_goals (conv=>whnf))
    all_goals try (exfalso;omega)
    have gm1:=g1.most
    have ih2:=ih2 S1 w1 (by rw [gm1];omega)
    (repeat' ((conv=>whnf);first|rw [q1]|rw [q2]|(refine qx (key:=77) rfl (fun w' hR' h0=>ih2 _ _ w' h0 (in2.cast hR' (fun b hb=>List.mem_append_left _ hb))) ?_;rintro _ _ ⟨S2,x2,f2,rfl,w2,g2,p2,k2,t2,v2,d2,l2,rfl⟩;refine ⟨.v _,rfl,?_⟩)|refine zg ?_|((first|apply zb|apply za|apply zc)<;>intro h<;>try (exfalso;omega))|refine pay ?_|intro _));(all_goals (conv=>whnf))
    all_goals try (exfalso;omega)
    have gm2:=g2.most
    have gl2:=g2.len
    have tx1:tm S2.E x1=tm S1.E x1:=g2.tm k1
    obtain ⟨S',x,e1,hMd⟩:=jQ w2 p1 (by omega) p2 k2 (by rw [tx1];unfold Tm.len;rw [t1,t2,tl1,tl2];omega) (by rw [gm2,gm1];omega)
    have c3:=xk b S2 w2 x1 x2
    rw [e1] at c3
    have hm:=hMd.tm
    rw [tx1] at hm
    rw [tl1] at d1
    rw [tl2] at d2
    obtain ⟨i1,i2,i3⟩:=zvE (n:=t.length) (by omega) (by omega) (by omega) d1 d2
    (repeat' ((conv=>whnf);first|refine SC.go 77 c3 rfl fun fp'=>?_|refine zg ?_|((first|apply zb|apply za|apply zc)<;>intro h<;>try (exfalso;omega))|refine pay ?_|intro _));(all_goals (conv=>whnf))
    all_goals try (exfalso;omega)
    exact ⟨⟨_,Thin.ref (.packE (.nil _)),S',x,_,rfl,hMd.wf,(g1.trans g2).trans hMd.grow,hMd.pos,hMd.le,by rw [hm,Tm.txt,t1,t2,←hsp],by rw [hm,xr];exact ⟨v1,v2,by omega,by omega⟩,by rw [hm,ye];exact i1,by have:=hMd.len;omega,rfl⟩⟩
theorem zqQ (b:Nat) (t:List Nat) (h0:0<t.length) (hl:t.length<=65536) (ht:∀ x∈t,x<256) (S:Sto) (hw:WF S) (hroom:S.E.length+2*t.length<=S.most) (a:Option Addr) (c:Nat) (hc:t.length<=c) (hc2:c<=9223372036854775807) (key:Nat) (fp:List Nat) (w:World) (hR:StR w key fp b S) (hin:In w fp a (byL t)) :
 Calls Tryz.prog vI #[pS b,.slice a t.length c] w fun e w'=>∃ v L1,e=.returned v/\R w fp L1 w'/\btQ key b S t v L1:=by
 refine zf [.v (pS b),.v (.slice a t.length c)] zeY (by simp) (hR.key 77) ?_
 have hLM:LM=1152921504606846976:=rfl
 have ih1:=zfG b t.length t (Nat.le_refl _) h0 (by omega) ht S hw hroom a c hc hc2
 (repeat' ((conv=>whnf);first|(refine qx (key:=77) rfl (fun w' hR' h0=>ih1 _ _ w' h0 (hin.cast hR' (fun b hb=>List.mem_append_left _ hb))) ?_;rintro _ _ ⟨S1,x1,f1,rfl,w1,g1,p1,k1,t1,v1,d1,l1,rfl⟩;refine ⟨.v _,rfl,?_⟩)|refine zg ?_|((first|apply zb|apply za|apply zc)<;>intro h<;>try (exfalso;omega))|refine pay ?_|intro _));(all_goals (conv=>whnf))
 all_goals try (exfalso;omega)
 exact ⟨⟨_,Thin.ref (.packE (.nil _)),S1,x1,_,rfl,w1,g1,p1,k1,t1,v1,d1,l1,rfl⟩⟩
def cps (n:Nat) (t:List Nat):List Nat:=(List.replicate n t).flatten
theorem zdI (m n:Nat) (t:List Nat):cps m t++cps n t=cps (m+n) t:=by
 unfold cps;rw [←List.flatten_append,List.replicate_append_replicate]
theorem zca (n:Nat) (t:List Nat):(cps n t).length=n*t.length:=by
 induction n with
 | zero=>simp [cps]
 | succ n ih =>
   have:cps (n+1) t=t++cps n t:=by unfold cps;rw [List.replicate_succ,List.flatten_cons]
   rw [this,g6q,ih,Nat.succ_mul,Nat.add_comm]
structure RpG where
 S:Sto
 x:Int
 k:Nat
 r:Int
 fp:List Nat
structure RpI (S0 S:Sto) (t:List Nat) (K:Nat) (x:Int) (k:Nat) (r:Int):Prop where
 wf:WF S
 grow:Grow S0 S
 ex:∃ m e q,EvI S r (cps m t)/\EvI S x (cps e t)/\m+k*e=K/\k<2 ^ q/\S.E.length+206*q<=S0.E.length+1854/\1<=k/\1<=e
def rpQ (key b:Nat) (S:Sto) (t:List Nat) (v:Value) (L1:List Ent):Prop:=∃ S' z fp',v=.tuple #[.int .i64 z,.nilIface]/\EvJ S S' z t 1854/\L1=[packE key fp' (fS b S')]
theorem zhy (b:Nat) (S:Sto) (hw:WF S) (x:Int) (t:List Nat) (K:Nat) (hx:EvI S x t) (hK:1<=K) (hK2:K<=511) (hl:K*t.length<=511) (hroom:S.E.length+1854<=S.most) (key:Nat) (fp:List Nat) (w:World) (hR:StR w key fp b S) :
 Calls Tryz.prog uh #[pS b,.int .i64 x,.int .i64 K] w fun e w'=>∃ v L1,e=.returned v/\R w fp L1 w'/\rpQ key b S (cps K t) v L1:=by
 refine zf [.v (pS b),.v (.int .i64 x),.v (.int .i64 K)] zi7 (by simp) (hR.key 77) ?_
 have hs0:RpI S S t K x K 0:=⟨hw,Grow.refl S,0,1,9,.inl ⟨rfl,rfl⟩,by have:cps 1 t=t:=(by simp [cps]);rw [this];exact hx,by omega,by omega,by omega,hK,by omega⟩
 (repeat' ((conv=>whnf);first|refine zg ?_|((first|apply zb|apply za|apply zc)<;>intro h<;>try (exfalso;omega))|refine pay ?_|intro _));(all_goals (conv=>whnf))
 refine zP RpG (fun y=>[(0,.v (pS b)),(1,.v (.int .i64 y.x)),(2,.v (.int .i64 y.k)),(8,.v (.int .i64 y.r))]) (fun y=>[packE 77 y.fp (fS b y.S)])
  (fun y=>RpI S y.S t K y.x y.k y.r) (fun y=>y.k) ⟨S,x,K,0,fp⟩ hs0 (by (repeat ((conv=>whnf);refine vS ?_));exact trivial) (Ref.takes [77] rfl (.refl _)) ?_
 clear hR
 rintro ⟨S1,x1,k,r,g1⟩ hI
 dsimp only at hI ⊢
 obtain ⟨w1,gr,m,e,q,hr,hx1,hme,hkq,hc,hk1,he1⟩:=hI
 have hmo:=gr.most
 have hgl:=gr.len
 have q1:((k:Nat):Int)/2=((k/2:Nat):Int):=by omega
 have q2:((k:Nat):Int)%2=((k%2:Nat):Int):=by omega
 obtain ⟨p,rfl⟩:∃ p,q=p+1:=by
  cases q with
  | zero=>simp at hkq;omega
  | succ p=>exact ⟨p,rfl⟩
 have hkp:k/2<2 ^ p:=by rw [Nat.pow_succ] at hkq;omega
 have hek:e<=k*e:=Nat.le_mul_of_pos_left e hk1
 have hlm:∀ j,j<=K->(cps j t).length<=511:=fun j hj=>by
  rw [zca];exact Nat.le_trans (Nat.mul_le_mul_right _ hj) hl
 have hsm:=w1.small
 have hkK:k<=511:=by
  have:=Nat.le_mul_of_pos_right k he1
  omega
 by_cases hodd:k%2=1
 ·obtain ⟨h,rfl⟩:∃ h,k=2*h+1:=⟨k/2,by omega⟩
  have hd:(2*h+1)/2=h:=by omega
  have hmul:(2*h+1)*e=2*(h*e)+e:=by rw [Nat.succ_mul,Nat.mul_assoc]
  have hme2:m+e<=K:=by omega
  obtain ⟨S2,r2,cj,hJ⟩:=kW S1 w1 r x1 (cps m t) (cps e t) hr hx1 (by rw [←g6q,zdI];exact hlm _ hme2) (by omega)
  have cj:=cj b
  have hev:=hJ.ev
  rw [zdI] at hev
  have hm2:=hJ.grow.most
  have hc2:=hJ.cnt
  have hx2:=hx1.grow hJ.grow
  rw [hd] at q1 hkp
  by_cases h0:h=0
  ·subst h0
   have hK':m+e=K:=by simpa using hme
   rw [hK'] at hev
   (repeat' ((conv=>whnf);first|rw [q1]|refine SC.go 77 cj rfl fun fp'=>?_|refine zg ?_|((first|apply zb|apply za|apply zc)<;>intro h<;>try (exfalso;omega))|refine pay ?_|intro _));(all_goals (conv=>whnf))
   all_goals try (exfalso;omega)
   all_goals exact ⟨⟨_,Thin.ref (.packE (.nil _)),S2,r2,_,rfl,⟨hJ.wf,gr.trans hJ.grow,hev,by omega⟩,rfl⟩⟩
  ·have hhe:e<=h*e:=Nat.le_mul_of_pos_left e (by omega)
   obtain ⟨S3,x3,cj2,hJ2⟩:=kW S2 hJ.wf x1 x1 (cps e t) (cps e t) hx2 hx2 (by rw [←g6q,zdI];exact hlm _ (by omega)) (by omega)
   have cj2:=cj2 b
   have hev2:=hJ2.ev
   rw [zdI] at hev2
   have hc3:=hJ2.cnt
   have hN:RpI S S3 t K x3 h r2:=⟨hJ2.wf,(gr.trans hJ.grow).trans hJ2.grow,m+e,e+e,p,hev.grow hJ2.grow,hev2,by rw [Nat.mul_add];omega,hkp,by omega,by omega,by omega⟩
   (repeat' ((conv=>whnf);first|rw [q1]|refine SC.go 77 cj rfl fun fp'=>?_|refine SC.go 77 cj2 rfl fun fp'=>?_|refine zg ?_|((first|apply zb|apply za|apply zc)<;>intro h<;>try (exfalso;omega))|refine pay ?_|intro _));(all_goals (conv=>whnf))
   all_goals try (exfalso;omega)
   all_goals exact zm (⟨S3,x3,_,r2,_⟩:RpG) hN (by dsimp only;omega) (by (repeat ((conv=>whnf);refine vS ?_));exact trivial) (Ref.takes [77] rfl (.refl _))
 ·obtain ⟨h,rfl⟩:∃ h,k=2*h:=⟨k/2,by omega⟩
  have hd:2*h/2=h:=by omega
  have hmul:2*h*e=2*(h*e):=by rw [Nat.mul_assoc]
  have hhe:e<=h*e:=Nat.le_mul_of_pos_left e (by omega)
  rw [hd] at q1 hkp
  obtain ⟨S3,x3,cj2,hJ2⟩:=kW S1 w1 x1 x1 (cps e t) (cps e t) hx1 hx1 (by rw [←g6q,zdI];exact hlm _ (by omega)) (by omega)
  have cj2:=cj2 b
  have hev2:=hJ2.ev
  rw [zdI] at hev2
  have hc3:=hJ2.cnt
  have hN:RpI S S3 t K x3 h r:=⟨hJ2.wf,gr.trans hJ2.grow,m,e+e,p,hr.grow hJ2.grow,hev2,by rw [Nat.mul_add];omega,hkp,by omega,by omega,by omega⟩
  (repeat' ((conv=>whnf);first|rw [q1]|refine SC.go 77 cj2 rfl fun fp'=>?_|refine zg ?_|((first|apply zb|apply za|apply zc)<;>intro h<;>try (exfalso;omega))|refine pay ?_|intro _));(all_goals (conv=>whnf))
  all_goals try (exfalso;omega)
  all_goals exact zm (⟨S3,x3,_,r,_⟩:RpG) hN (by dsimp only;omega) (by (repeat ((conv=>whnf);refine vS ?_));exact trivial) (Ref.takes [77] rfl (.refl _))
end
section
open Go.EG
def kvM (M:List (Int × Int)):List (Value × Value):=M.map fun p=>(.int .i64 p.1,.int .i64 p.2)
theorem zcb:∀ {M:List (Int × Int)} {y:Int},y∈M.map Prod.fst->∃ v,(y,v)∈M/\uE (kvM M) (.int .i64 y)=some (.int .i64 v)
 | [],y,h=>by simp at h
 | (k,v) :: M,y,h => by
   by_cases hk:y=k
   ·subst hk
    exact ⟨v,g5q ..,by simp only [kvM,List.map_cons,uE];rw [if_pos (keyEq_int.2 rfl)]⟩
   ·have h':y∈M.map Prod.fst:=by
     rw [List.map_cons] at h
     rcases List.mem_cons.1 h with h|h
     ·exact absurd h hk
     ·exact h
    obtain ⟨u,h1,h2⟩:=zcb h'
    exact ⟨u,g4q _ h1,by
     simp only [kvM,List.map_cons,uE]
     rw [if_neg (fun he=>hk (keyEq_int.1 he))];exact h2⟩
theorem zmq {M:List (Int × Int)} {y:Int} (h:y∉M.map Prod.fst):uE (kvM M) (.int .i64 y)=none:=by
 induction M with
 | nil=>rfl
 | cons p M ih =>
   rw [List.map_cons,List.mem_cons] at h
   simp only [kvM,List.map_cons,uE]
   rw [if_neg (fun he=>h (.inl (keyEq_int.1 he)))]
   exact ih (fun hm=>h (.inr hm))
theorem ztW {M:List (Int × Int)} {y v:Int} (h:y∉M.map Prod.fst):uF (kvM M) (.int .i64 y) (.int .i64 v)=kvM (M++[(y,v)]):=by
 induction M with
 | nil=>rfl
 | cons p M ih =>
   rw [List.map_cons,List.mem_cons] at h
   have hx:¬y9 (.int .i64 y) (.int .i64 p.1)=true:=fun he=>h (.inl (keyEq_int.1 he))
   have ih:=ih (fun hm=>h (.inr hm))
   simp only [kvM,List.map_cons,uF,if_neg hx,List.cons_append] at ih ⊢
   rw [ih]
theorem zrE {L:List Int} {i:Nat} (h:i<L.length):L.drop i=L.getD i 0::L.drop (i+1):=by
 rw [List.drop_eq_getElem_cons h,g1q,g2q h,Option.getD_some]
theorem zvF {S:Sto} (hw:WF S) {y:Int} (h1:1<=y) (h2:y<=S.E.length) (he:(tm S.E y).evn=true):∀ j∈yZ (atE S.E y).r,(tm S.E j).evn=true:=by
 obtain ⟨ho,_,ht,_⟩:=hw.at_ h1 h2
 rw [ht] at he
 intro j hj
 unfold mkT at he
 rcases ho with ho|⟨k2,_⟩|⟨k3,_⟩
 ·unfold yZ at hj;rw [if_neg (by omega),if_neg (by omega)] at hj;simp at hj
 ·rw [if_neg (by omega),if_pos k2,xr] at he
  rw [zvc k2] at hj
  simp only [List.mem_cons,List.not_mem_nil,or_false] at hj
  rcases hj with rfl|rfl
  ·exact he.1
  ·exact he.2.1
 ·rw [if_neg (by omega),if_neg (by omega)] at he
  simp [Tm.evn] at he
structure PwI (S:Sto) (x a:Int) (n:Nat) (u:List Nat):Prop where
 k1:1<=x
 k2:x<=S.E.length
 kd:(atE S.E x).r.k=3
 ka:(atE S.E x).r.a=a
 kt:(atE S.E x).r.t=n
 n2:2<=n
 a1:1<=a
 ax:a<x
 ev:EvI S a u
theorem PwI.odd {S:Sto} (hw:WF S) {x a:Int} {n:Nat} {u:List Nat} (h:PwI S x a n u):(tm S.E x).evn=false:=by
 obtain ⟨_,_,ht,_⟩:=hw.at_ h.k1 h.k2
 have:=h.kd
 rw [ht,mkT,if_neg (by omega),if_neg (by omega)]
 rfl
theorem PwI.reach {S:Sto} (hw:WF S) {x a:Int} {n:Nat} {u:List Nat} (h:PwI S x a n u) {y:Int} (hy:Rc S [x] y):y=x∨(tm S.E y).evn=true:=by
 induction hy with
 | root h1 _=>rw [List.mem_singleton] at h1;exact .inl h1
 | ref h1 h2 ih =>
   rcases ih with rfl|ih
   ·rw [zo7 h.kd,List.mem_singleton,h.ka] at h2
    subst h2
    exact .inr h.ev.txt.2
   ·have hk:=h1.known hw (rs:=[x]) (fun z hz=>by rw [List.mem_singleton] at hz;subst hz;have:=h.k1;have:=h.k2;omega)
    exact .inr (zvF hw hk.1 hk.2 ih _ h2)
theorem PwI.left {S:Sto} {x a:Int} {n:Nat} {u:List Nat} (h:PwI S x a n u):Rc S [x] a:=by
 have:=h.k1
 exact .ref (.root (List.mem_singleton.2 rfl) (by omega)) (by rw [zo7 h.kd,h.ka];simp)
theorem PwI.len {S:Sto} (hw:WF S) {x a:Int} {n:Nat} {u:List Nat} (h:PwI S x a n u):n<=(cps n u).length:=by
 have:=h.ax
 have:=h.k2
 have hp:=hw.pos1 h.a1 (by omega)
 unfold Tm.len at hp
 rw [h.ev.txt.1] at hp
 rw [zca]
 exact Nat.le_mul_of_pos_right _ hp
theorem zlx {L:List Int} (hp:L.Pairwise (fun x y=>decide (x<=y)=true)) {i:Nat} {a:Int} (ha:a∈L) (hi:i<L.length) (hlt:a<L.getD i 0):a∈L.take i:=by
 obtain ⟨j,hj,rfl⟩:=List.getElem_of_mem ha
 by_cases hji:j<i
 ·exact List.mem_take_iff_getElem.2 ⟨j,by omega,rfl⟩
 ·exfalso
  rw [g1q,g2q hi,Option.getD_some] at hlt
  rcases Nat.lt_or_eq_of_le (Nat.le_of_not_lt hji) with h|h
  ·have:=List.pairwise_iff_getElem.1 hp i j hi hj h
   simp at this;omega
  ·subst h;omega
structure BdI (S:Sto) (L:List Int) (i:Nat) (M:List (Int × Int)) (x:Int) (t:List Nat):Prop where
 keys:M.map Prod.fst=L.take i
 same:∀ p∈M,p.1≠x->p.2=p.1
 ev:∀ p∈M,p.1=x->EvI S p.2 t
theorem BdI.next {S S':Sto} {L:List Int} {i:Nat} {M:List (Int × Int)} {x:Int} {t:List Nat} (h:BdI S L i M x t) (hi:i<L.length) (g:Grow S S') {v:Int} (h1:L.getD i 0≠x->v=L.getD i 0) (h2:L.getD i 0=x->EvI S' v t):BdI S' L (i+1) (M++[(L.getD i 0,v)]) x t:=by
 refine ⟨?_,?_,?_⟩
 ·rw [List.map_append,h.keys,zmV hi];rfl
 ·intro p hp
  rcases List.mem_append.1 hp with hp|hp
  ·exact h.same p hp
  ·rw [List.mem_singleton] at hp;subst hp;exact h1
 ·intro p hp he
  rcases List.mem_append.1 hp with hp|hp
  ·exact (h.ev p hp he).grow g
  ·rw [List.mem_singleton] at hp;subst hp;exact h2 he
end
section
open Go.EG
attribute [local irreducible] z8 yN Go.Calls
set_option maxRecDepth 20000
set_option maxHeartbeats 4000000
theorem xu (S:Sto) (hw:WF S) (x:Int) (hk:known S x) (b:Nat):SC yQ #[pS b,.int .i64 x] b S S (.tuple #[.int .i64 (tm S.E x).txt.length,.nilIface]):=by
 intro key fp w hR
 refine zf [.v (pS b),.v (.int .i64 x)] znB (by simp) (hR.key 77) ?_
 have c1:=yd b S x hw.small
 rw [vj hk] at c1
 (repeat' ((conv=>whnf);first|refine SC.go 77 c1 rfl fun fp'=>?_|refine zg ?_|((first|apply zb|apply za|apply zc)<;>intro h<;>try (exfalso;omega))|refine pay ?_|intro _));(all_goals (conv=>whnf))
 all_goals exact ⟨qe (by (repeat (first|exact Thin.nil _|exact Thin.refl _|refine Thin.keep rfl (fun _ h=>h) ?_|refine Thin.skip ?_))) rfl⟩
theorem zbA {S:Sto} (hw:WF S) {x:Int} (h1:1<=x) (h2:x<=S.E.length) (he:(tm S.E x).evn=true) (hl:2<=(tm S.E x).txt.length):1<=(tm S.E x).dep:=by
 rcases zcS hw h1 h2 with ⟨k,l,h⟩|⟨k,h,_⟩|⟨k,h,_⟩
 ·rw [h] at hl;simp [Tm.txt] at hl
 ·rw [h];simp [Tm.dep]
 ·rw [h] at he;simp [Tm.evn] at he
theorem zqR:∀ (n:Nat) (S:Sto) (hw:WF S) (x:Int) (hx:1<=x/\x<=S.E.length) (he:(tm S.E x).evn=true) (hl:(tm S.E x).txt.length<=511) (k:Nat) (hk:k<=(tm S.E x).txt.length) (hroom:S.E.length+103*n<=S.most) (hd:(tm S.E x).dep<=n),
 ∃ S' z,(∀ b,SC xQ #[pS b,.int .i64 x,.int .i64 k] b S S' (.tuple #[.int .i64 z,.nilIface]))/\EvJ S S' z ((tm S.E x).txt.take k) (103*n):=by
 intro n
 induction n with
 | zero =>
   intro S hw x hx he hl k hk hroom hd
   have hkx:known S x:=⟨by omega,hx.2⟩
   have cs:=xu S hw x hkx
   have hlen:(tm S.E x).txt.length<=1:=by
    apply Nat.le_of_not_lt
    intro h
    have:=zbA hw hx.1 hx.2 he (by omega)
    omega
   by_cases h0:k=0
   ·subst h0
    refine ⟨S,0,fun b=>?_,hw,Grow.refl S,.inl ⟨rfl,rfl⟩,by omega⟩
    intro key fp w hR
    refine zf [.v (pS b),.v (.int .i64 x),.v (.int .i64 (0:Nat))] xS (by simp) (hR.key 77) ?_
    (repeat' ((conv=>whnf);first|((first|apply zb|apply za|apply zc)<;>intro h<;>try (exfalso;omega))|refine pay ?_|intro _));(all_goals (conv=>whnf))
    all_goals try (exfalso;omega)
    all_goals exact ⟨qe (by (repeat (first|exact Thin.nil _|exact Thin.refl _|refine Thin.keep rfl (fun _ h=>h) ?_|refine Thin.skip ?_))) rfl⟩
   ·have hkl:k=(tm S.E x).txt.length:=by omega
    refine ⟨S,x,fun b=>?_,hw,Grow.refl S,.inr ⟨hx.1,hx.2,he,by rw [hkl,List.take_length]⟩,by omega⟩
    intro key fp w hR
    refine zf [.v (pS b),.v (.int .i64 x),.v (.int .i64 k)] xS (by simp) (hR.key 77) ?_
    have cs:=cs b
    (repeat' ((conv=>whnf);first|refine SC.go 77 cs rfl fun fp'=>?_|refine zg ?_|((first|apply zb|apply za|apply zc)<;>intro h<;>try (exfalso;omega))|refine pay ?_|intro _));(all_goals (conv=>whnf))
    all_goals try (exfalso;omega)
    all_goals exact ⟨qe (by (repeat (first|exact Thin.nil _|exact Thin.refl _|refine Thin.keep rfl (fun _ h=>h) ?_|refine Thin.skip ?_))) rfl⟩
 | succ n ih =>
   intro S hw x hx he hl k hk hroom hd
   have hkx:known S x:=⟨by omega,hx.2⟩
   have cs:=xu S hw x hkx
   by_cases h0:k=0
   ·subst h0
    refine ⟨S,0,fun b=>?_,hw,Grow.refl S,.inl ⟨rfl,rfl⟩,by omega⟩
    intro key fp w hR
    refine zf [.v (pS b),.v (.int .i64 x),.v (.int .i64 (0:Nat))] xS (by simp) (hR.key 77) ?_
    (repeat' ((conv=>whnf);first|((first|apply zb|apply za|apply zc)<;>intro h<;>try (exfalso;omega))|refine pay ?_|intro _));(all_goals (conv=>whnf))
    all_goals try (exfalso;omega)
    all_goals exact ⟨qe (by (repeat (first|exact Thin.nil _|exact Thin.refl _|refine Thin.keep rfl (fun _ h=>h) ?_|refine Thin.skip ?_))) rfl⟩
   by_cases hkl:k=(tm S.E x).txt.length
   ·refine ⟨S,x,fun b=>?_,hw,Grow.refl S,.inr ⟨hx.1,hx.2,he,by rw [hkl,List.take_length]⟩,by omega⟩
    intro key fp w hR
    refine zf [.v (pS b),.v (.int .i64 x),.v (.int .i64 k)] xS (by simp) (hR.key 77) ?_
    have cs:=cs b
    (repeat' ((conv=>whnf);first|refine SC.go 77 cs rfl fun fp'=>?_|refine zg ?_|((first|apply zb|apply za|apply zc)<;>intro h<;>try (exfalso;omega))|refine pay ?_|intro _));(all_goals (conv=>whnf))
    all_goals try (exfalso;omega)
    all_goals exact ⟨qe (by (repeat (first|exact Thin.nil _|exact Thin.refl _|refine Thin.keep rfl (fun _ h=>h) ?_|refine Thin.skip ?_))) rfl⟩
   obtain ⟨l,r,hP⟩:=vL hw hx.1 hx.2 he (zbA hw hx.1 hx.2 he (by omega))
   have htx:(tm S.E x).txt=(tm S.E l).txt++(tm S.E r).txt:=by rw [hP.trm];rfl
   have hlen:(tm S.E x).txt.length=(tm S.E l).txt.length+(tm S.E r).txt.length:=by rw [htx,g6q]
   have hdp:=hP.dep
   have hkl':known S l:=⟨by have:=hP.l1.1;omega,hP.l1.2⟩
   have csl:=xu S hw l hkl'
   have cr:=fun b=>qZ b S x hw.small
   have hva:=hP.a
   have hvb:=hP.b
   rw [yy hx.1 hx.2] at cr
   by_cases hm:k<=(tm S.E l).txt.length
   ·obtain ⟨S',z,cz,hZ⟩:=ih S hw l hP.l1 hP.el (by omega) k hm (by omega) (by omega)
    refine ⟨S',z,fun b=>?_,hZ.wf,hZ.grow,?_,by have:=hZ.cnt;omega⟩
    ·intro key fp w hR
     refine zf [.v (pS b),.v (.int .i64 x),.v (.int .i64 k)] xS (by simp) (hR.key 77) ?_
     have cs:=cs b
     have csl:=csl b
     have cr:=cr b
     have cz:=cz b
     (repeat' ((conv=>whnf);first|refine SC.go 77 cs rfl fun fp'=>?_|refine SC.go 77 cr rfl fun fp'=>?_|rw [hva]|refine SC.go 77 csl rfl fun fp'=>?_|refine SC.go 77 cz rfl fun fp'=>?_|refine zg ?_|((first|apply zb|apply za|apply zc)<;>intro h<;>try (exfalso;omega))|refine pay ?_|intro _));(all_goals (conv=>whnf))
     all_goals try (exfalso;omega)
     all_goals exact ⟨qe (by (repeat (first|exact Thin.nil _|exact Thin.refl _|refine Thin.keep rfl (fun _ h=>h) ?_|refine Thin.skip ?_))) rfl⟩
    ·rw [htx,List.take_append_of_le_length hm];exact hZ.ev
   ·obtain ⟨S1,z,cz,hZ⟩:=ih S hw r hP.r1 hP.er (by omega) (k - (tm S.E l).txt.length) (by omega) (by omega) (by omega)
    have hc1:=hZ.cnt
    have hmo:=hZ.grow.most
    have hel:EvI S1 l (tm S.E l).txt:=(show EvI S l (tm S.E l).txt from .inr ⟨hP.l1.1,hP.l1.2,hP.el,rfl⟩).grow hZ.grow
    obtain ⟨S2,u,cj,hJ⟩:=kW S1 hZ.wf l z _ _ hel hZ.ev (by rw [List.length_take];omega) (by omega)
    have ek:(k:Int) - ((tm S.E l).txt.length:Int)=((k - (tm S.E l).txt.length:Nat):Int):=by omega
    refine ⟨S2,u,fun b=>?_,hJ.wf,hZ.grow.trans hJ.grow,?_,by have:=hJ.cnt;omega⟩
    ·intro key fp w hR
     refine zf [.v (pS b),.v (.int .i64 x),.v (.int .i64 k)] xS (by simp) (hR.key 77) ?_
     have cs:=cs b
     have csl:=csl b
     have cr:=cr b
     have cz:=cz b
     have cj:=cj b
     (repeat' ((conv=>whnf);first|refine SC.go 77 cs rfl fun fp'=>?_|refine SC.go 77 cr rfl fun fp'=>?_|rw [hva]|rw [hvb]|rw [ek]|refine SC.go 77 csl rfl fun fp'=>?_|refine SC.go 77 cz rfl fun fp'=>?_|refine SC.go 77 cj rfl fun fp'=>?_|refine zg ?_|((first|apply zb|apply za|apply zc)<;>intro h<;>try (exfalso;omega))|refine pay ?_|intro _));(all_goals (conv=>whnf))
     all_goals try (exfalso;omega)
     all_goals exact ⟨qe (by (repeat (first|exact Thin.nil _|exact Thin.refl _|refine Thin.keep rfl (fun _ h=>h) ?_|refine Thin.skip ?_))) rfl⟩
    ·rw [htx,List.take_append,List.take_of_length_le (by omega)];exact hJ.ev
theorem zsI:∀ (n:Nat) (S:Sto) (hw:WF S) (x:Int) (hx:1<=x/\x<=S.E.length) (he:(tm S.E x).evn=true) (hl:(tm S.E x).txt.length<=511) (k:Nat) (hk:k<=(tm S.E x).txt.length) (hroom:S.E.length+103*n<=S.most) (hd:(tm S.E x).dep<=n),
 ∃ S' z,(∀ b,SC yP #[pS b,.int .i64 x,.int .i64 k] b S S' (.tuple #[.int .i64 z,.nilIface]))/\EvJ S S' z ((tm S.E x).txt.drop k) (103*n):=by
 have base0:∀ (S:Sto) (hw:WF S) (x:Int) (hx:1<=x/\x<=S.E.length) (he:(tm S.E x).evn=true) (c:Nat),∃ S' z,(∀ b,SC yP #[pS b,.int .i64 x,.int .i64 (0:Nat)] b S S' (.tuple #[.int .i64 z,.nilIface]))/\EvJ S S' z ((tm S.E x).txt.drop 0) c:=by
  intro S hw x hx he c
  refine ⟨S,x,fun b=>?_,hw,Grow.refl S,.inr ⟨hx.1,hx.2,he,by rw [List.drop_zero]⟩,by omega⟩
  intro key fp w hR
  refine zf [.v (pS b),.v (.int .i64 x),.v (.int .i64 (0:Nat))] jc (by simp) (hR.key 77) ?_
  (repeat' ((conv=>whnf);first|((first|apply zb|apply za|apply zc)<;>intro h<;>try (exfalso;omega))|refine pay ?_|intro _));(all_goals (conv=>whnf))
  all_goals try (exfalso;omega)
  all_goals exact ⟨qe (by (repeat (first|exact Thin.nil _|exact Thin.refl _|refine Thin.keep rfl (fun _ h=>h) ?_|refine Thin.skip ?_))) rfl⟩
 have baseL:∀ (S:Sto) (hw:WF S) (x:Int) (hx:1<=x/\x<=S.E.length) (k:Nat) (h0:k≠0) (hk:k=(tm S.E x).txt.length) (hl:k<=511) (c:Nat),∃ S' z,(∀ b,SC yP #[pS b,.int .i64 x,.int .i64 k] b S S' (.tuple #[.int .i64 z,.nilIface]))/\EvJ S S' z ((tm S.E x).txt.drop k) c:=by
  intro S hw x hx k h0 hk hl c
  have cs:=xu S hw x ⟨by omega,hx.2⟩
  refine ⟨S,0,fun b=>?_,hw,Grow.refl S,.inl ⟨rfl,by rw [hk,List.drop_length]⟩,by omega⟩
  intro key fp w hR
  refine zf [.v (pS b),.v (.int .i64 x),.v (.int .i64 k)] jc (by simp) (hR.key 77) ?_
  have cs:=cs b
  (repeat' ((conv=>whnf);first|refine SC.go 77 cs rfl fun fp'=>?_|refine zg ?_|((first|apply zb|apply za|apply zc)<;>intro h<;>try (exfalso;omega))|refine pay ?_|intro _));(all_goals (conv=>whnf))
  all_goals try (exfalso;omega)
  all_goals exact ⟨qe (by (repeat (first|exact Thin.nil _|exact Thin.refl _|refine Thin.keep rfl (fun _ h=>h) ?_|refine Thin.skip ?_))) rfl⟩
 intro n
 induction n with
 | zero =>
   intro S hw x hx he hl k hk hroom hd
   have hlen:(tm S.E x).txt.length<=1:=by
    apply Nat.le_of_not_lt
    intro h
    have:=zbA hw hx.1 hx.2 he (by omega)
    omega
   by_cases h0:k=0
   ·subst h0;exact base0 S hw x hx he _
   ·exact baseL S hw x hx k h0 (by omega) (by omega) _
 | succ n ih =>
   intro S hw x hx he hl k hk hroom hd
   have hkx:known S x:=⟨by omega,hx.2⟩
   have cs:=xu S hw x hkx
   by_cases h0:k=0
   ·subst h0;exact base0 S hw x hx he _
   by_cases hkl:k=(tm S.E x).txt.length
   ·exact baseL S hw x hx k h0 hkl (by omega) _
   obtain ⟨l,r,hP⟩:=vL hw hx.1 hx.2 he (zbA hw hx.1 hx.2 he (by omega))
   have htx:(tm S.E x).txt=(tm S.E l).txt++(tm S.E r).txt:=by rw [hP.trm];rfl
   have hlen:(tm S.E x).txt.length=(tm S.E l).txt.length+(tm S.E r).txt.length:=by rw [htx,g6q]
   have hdp:=hP.dep
   have hkl':known S l:=⟨by have:=hP.l1.1;omega,hP.l1.2⟩
   have csl:=xu S hw l hkl'
   have cr:=fun b=>qZ b S x hw.small
   have hva:=hP.a
   have hvb:=hP.b
   rw [yy hx.1 hx.2] at cr
   by_cases hm:(tm S.E l).txt.length<=k
   ·obtain ⟨S',z,cz,hZ⟩:=ih S hw r hP.r1 hP.er (by omega) (k - (tm S.E l).txt.length) (by omega) (by omega) (by omega)
    have ek:(k:Int) - ((tm S.E l).txt.length:Int)=((k - (tm S.E l).txt.length:Nat):Int):=by omega
    refine ⟨S',z,fun b=>?_,hZ.wf,hZ.grow,?_,by have:=hZ.cnt;omega⟩
    ·intro key fp w hR
     refine zf [.v (pS b),.v (.int .i64 x),.v (.int .i64 k)] jc (by simp) (hR.key 77) ?_
     have cs:=cs b
     have csl:=csl b
     have cr:=cr b
     have cz:=cz b
     (repeat' ((conv=>whnf);first|refine SC.go 77 cs rfl fun fp'=>?_|refine SC.go 77 cr rfl fun fp'=>?_|rw [hva]|rw [hvb]|rw [ek]|refine SC.go 77 csl rfl fun fp'=>?_|refine SC.go 77 cz rfl fun fp'=>?_|refine zg ?_|((first|apply zb|apply za|apply zc)<;>intro h<;>try (exfalso;omega))|refine pay ?_|intro _));(all_goals (conv=>whnf))
     all_goals try (exfalso;omega)
     all_goals exact ⟨qe (by (repeat (first|exact Thin.nil _|exact Thin.refl _|refine Thin.keep rfl (fun _ h=>h) ?_|refine Thin.skip ?_))) rfl⟩
    ·rw [htx,List.drop_append,List.drop_eq_nil_of_le hm,List.nil_append];exact hZ.ev
   ·obtain ⟨S1,z,cz,hZ⟩:=ih S hw l hP.l1 hP.el (by omega) k (by omega) (by omega) (by omega)
    have hc1:=hZ.cnt
    have hmo:=hZ.grow.most
    have her:EvI S1 r (tm S.E r).txt:=(show EvI S r (tm S.E r).txt from .inr ⟨hP.r1.1,hP.r1.2,hP.er,rfl⟩).grow hZ.grow
    obtain ⟨S2,u,cj,hJ⟩:=kW S1 hZ.wf z r _ _ hZ.ev her (by rw [List.length_drop];omega) (by omega)
    refine ⟨S2,u,fun b=>?_,hJ.wf,hZ.grow.trans hJ.grow,?_,by have:=hJ.cnt;omega⟩
    ·intro key fp w hR
     refine zf [.v (pS b),.v (.int .i64 x),.v (.int .i64 k)] jc (by simp) (hR.key 77) ?_
     have cs:=cs b
     have csl:=csl b
     have cr:=cr b
     have cz:=cz b
     have cj:=cj b
     (repeat' ((conv=>whnf);first|refine SC.go 77 cs rfl fun fp'=>?_|refine SC.go 77 cr rfl fun fp'=>?_|rw [hva]|rw [hvb]|refine SC.go 77 csl rfl fun fp'=>?_|refine SC.go 77 cz rfl fun fp'=>?_|refine SC.go 77 cj rfl fun fp'=>?_|refine zg ?_|((first|apply zb|apply za|apply zc)<;>intro h<;>try (exfalso;omega))|refine pay ?_|intro _));(all_goals (conv=>whnf))
     all_goals try (exfalso;omega)
     all_goals exact ⟨qe (by (repeat (first|exact Thin.nil _|exact Thin.refl _|refine Thin.keep rfl (fun _ h=>h) ?_|refine Thin.skip ?_))) rfl⟩
    ·rw [htx,List.drop_append_of_le_length (by omega)];exact hJ.ev
theorem ve (S:Sto) (hw:WF S) (x:Int) (hk:known S x) (b:Nat):SC ky #[pS b,.int .i64 x] b S S (.tuple #[.bool (tm S.E x).evn,.nilIface]):=by
 intro key fp w hR
 refine zf [.v (pS b),.v (.int .i64 x)] zlg (by simp) (hR.key 77) ?_
 have c1:=xV b S x hk hw.small
 have c2:=zhp b S x hk hw.small
 (repeat' ((conv=>whnf);first|refine SC.go 77 c1 rfl fun fp'=>?_|refine SC.go 77 c2 rfl fun fp'=>?_|refine zg ?_|((first|apply zb|apply za|apply zc)<;>intro h<;>try (exfalso;omega))|refine pay ?_|intro _));(all_goals (conv=>whnf))
 all_goals exact ⟨qe (by (repeat (first|exact Thin.nil _|exact Thin.refl _|refine Thin.keep rfl (fun _ h=>h) ?_|refine Thin.skip ?_))) rfl⟩
theorem zhz (S:Sto) (hw:WF S) (x:Int) (t:List Nat) (hx:EvI S x t) (b:Nat):SC zai #[pS b,.int .i64 x] b S S (.tuple #[.int .i64 t.length,.nilIface]):=by
 intro key fp w hR
 refine zf [.v (pS b),.v (.int .i64 x)] zmi (by simp) (hR.key 77) ?_
 have c1:=ve S hw x hx.known b
 have c2:=xu S hw x hx.known b
 rw [hx.txt.2] at c1
 rw [hx.txt.1] at c2
 (repeat' ((conv=>whnf);first|refine SC.go 77 c1 rfl fun fp'=>?_|refine SC.go 77 c2 rfl fun fp'=>?_|refine zg ?_|((first|apply zb|apply za|apply zc)<;>intro h<;>try (exfalso;omega))|refine pay ?_|intro _));(all_goals (conv=>whnf))
 all_goals exact ⟨qe (by (repeat (first|exact Thin.nil _|exact Thin.refl _|refine Thin.keep rfl (fun _ h=>h) ?_|refine Thin.skip ?_))) rfl⟩
theorem EvJ.mono {S S':Sto} {z:Int} {t:List Nat} {c d:Nat} (h:EvJ S S' z t c) (hcd:c<=d):EvJ S S' z t d:=⟨h.wf,h.grow,h.ev,by have:=h.cnt;omega⟩
theorem ziB (S:Sto) (hw:WF S) (x:Int) (t:List Nat) (hx:EvI S x t) (hl:t.length<=511) (k:Nat) (hk:k<=t.length) (hroom:S.E.length+1751<=S.most) :
 ∃ S' z,(∀ b,SC xQ #[pS b,.int .i64 x,.int .i64 k] b S S' (.tuple #[.int .i64 z,.nilIface]))/\EvJ S S' z (t.take k) 1751:=by
 rcases hx with ⟨rfl,rfl⟩|⟨h1,h2,h3,rfl⟩
 ·have:k=0:=by simpa using hk
  subst this
  refine ⟨S,0,fun b=>?_,hw,Grow.refl S,.inl ⟨rfl,rfl⟩,by omega⟩
  intro key fp w hR
  refine zf [.v (pS b),.v (.int .i64 0),.v (.int .i64 (0:Nat))] xS (by simp) (hR.key 77) ?_
  (repeat' ((conv=>whnf);first|((first|apply zb|apply za|apply zc)<;>intro h<;>try (exfalso;omega))|refine pay ?_|intro _));(all_goals (conv=>whnf))
  all_goals try (exfalso;omega)
  all_goals exact ⟨qe (by (repeat (first|exact Thin.nil _|exact Thin.refl _|refine Thin.keep rfl (fun _ h=>h) ?_|refine Thin.skip ?_))) rfl⟩
 ·have hd:=za3 (hw.pos_ h1 h2) h3 hl
  exact zqR 17 S hw x ⟨h1,h2⟩ h3 hl k hk (by omega) hd
theorem zjx (S:Sto) (hw:WF S) (x:Int) (t:List Nat) (hx:EvI S x t) (hl:t.length<=511) (k:Nat) (hk:k<=t.length) (hroom:S.E.length+1751<=S.most) :
 ∃ S' z,(∀ b,SC yP #[pS b,.int .i64 x,.int .i64 k] b S S' (.tuple #[.int .i64 z,.nilIface]))/\EvJ S S' z (t.drop k) 1751:=by
 rcases hx with ⟨rfl,rfl⟩|⟨h1,h2,h3,rfl⟩
 ·have:k=0:=by simpa using hk
  subst this
  refine ⟨S,0,fun b=>?_,hw,Grow.refl S,.inl ⟨rfl,rfl⟩,by omega⟩
  intro key fp w hR
  refine zf [.v (pS b),.v (.int .i64 0),.v (.int .i64 (0:Nat))] jc (by simp) (hR.key 77) ?_
  (repeat' ((conv=>whnf);first|((first|apply zb|apply za|apply zc)<;>intro h<;>try (exfalso;omega))|refine pay ?_|intro _));(all_goals (conv=>whnf))
  all_goals try (exfalso;omega)
  all_goals exact ⟨qe (by (repeat (first|exact Thin.nil _|exact Thin.refl _|refine Thin.keep rfl (fun _ h=>h) ?_|refine Thin.skip ?_))) rfl⟩
 ·have hd:=za3 (hw.pos_ h1 h2) h3 hl
  exact zsI 17 S hw x ⟨h1,h2⟩ h3 hl k hk (by omega) hd
theorem zqS (S:Sto) (hw:WF S) (x:Int) (t:List Nat) (hx:EvI S x t) (hl:t.length<=511) (k:Nat) (hk:k<=t.length) (hroom:S.E.length+3502<=S.most) :
 ∃ S' y z,(∀ b,SC zb5 #[pS b,.int .i64 x,.int .i64 k] b S S' (.tuple #[.int .i64 y,.int .i64 z,.nilIface]))/\EvJ S S' y (t.take k) 3502/\EvI S' z (t.drop k):=by
 obtain ⟨S1,y,cy,hY⟩:=ziB S hw x t hx hl k hk (by omega)
 have hc:=hY.cnt
 have hm:=hY.grow.most
 obtain ⟨S2,z,cz,hZ⟩:=zjx S1 hY.wf x t (hx.grow hY.grow) hl k hk (by omega)
 refine ⟨S2,y,z,fun b=>?_,⟨hZ.wf,hY.grow.trans hZ.grow,hY.ev.grow hZ.grow,by have:=hZ.cnt;omega⟩,hZ.ev⟩
 intro key fp w hR
 refine zf [.v (pS b),.v (.int .i64 x),.v (.int .i64 k)] zmk (by simp) (hR.key 77) ?_
 have c1:=zhz S hw x t hx b
 have cy:=cy b
 have cz:=cz b
 (repeat' ((conv=>whnf);first|refine SC.go 77 c1 rfl fun fp'=>?_|refine SC.go 77 cy rfl fun fp'=>?_|refine SC.go 77 cz rfl fun fp'=>?_|refine zg ?_|((first|apply zb|apply za|apply zc)<;>intro h<;>try (exfalso;omega))|refine pay ?_|intro _));(all_goals (conv=>whnf))
 all_goals try (exfalso;omega)
 all_goals exact ⟨qe (by (repeat (first|exact Thin.nil _|exact Thin.refl _|refine Thin.keep rfl (fun _ h=>h) ?_|refine Thin.skip ?_))) rfl⟩
def zxc (key b:Nat) (S:Sto) (t:List Nat) (v:Value) (L1:List Ent):Prop:=∃ S' z fp',v=.tuple #[.int .i64 z,.nilIface]/\EvJ S S' z t 3605/\L1=[packE key fp' (fS b S')]
structure SeG where
 x:Int
 f:Nat
 fp:List Nat
theorem znH (b:Nat) (S:Sto) (hw:WF S) (x0:Int) (t0:List Nat) (hx0:EvI S x0 t0) (hl:t0.length<=511) (f0 n:Nat) (hfn:f0+n<=t0.length) (hroom:S.E.length+3605<=S.most) (key:Nat) (fp:List Nat) (w:World) (hR:StR w key fp b S) :
 Calls Tryz.prog zaN #[pS b,.int .i64 x0,.int .i64 f0,.int .i64 n] w fun e w'=>∃ v L1,e=.returned v/\R w fp L1 w'/\zxc key b S ((t0.drop f0).take n) v L1:=by
 refine zf [.v (pS b),.v (.int .i64 x0),.v (.int .i64 f0),.v (.int .i64 n)] zj5 (by simp) (hR.key 77) ?_
 by_cases hn:n=0
 ·subst hn
  (repeat' ((conv=>whnf);first|((first|apply zb|apply za|apply zc)<;>intro h<;>try (exfalso;omega))|refine pay ?_|intro _));(all_goals (conv=>whnf))
  all_goals try (exfalso;omega)
  all_goals exact ⟨⟨_,Thin.ref (.packE (.nil _)),S,0,_,rfl,⟨hw,Grow.refl S,.inl ⟨rfl,by simp⟩,by omega⟩,rfl⟩⟩
 have h1:1<=x0/\x0<=S.E.length/\(tm S.E x0).evn=true:=by
  rcases hx0 with ⟨_,rfl⟩|h
  ·simp at hfn;omega
  ·exact ⟨h.1,h.2.1,h.2.2.1⟩
 have ht0:=hx0.txt.1
 have hs0:(1<=x0/\x0<=S.E.length)/\(tm S.E x0).evn=true/\(tm S.E x0).txt.length<=511/\f0+n<=(tm S.E x0).txt.length/\((tm S.E x0).txt.drop f0).take n=(t0.drop f0).take n:=⟨⟨h1.1,h1.2.1⟩,h1.2.2,by rw [ht0];exact hl,by rw [ht0];exact hfn,by rw [ht0]⟩
 (repeat' ((conv=>whnf);first|((first|apply zb|apply za|apply zc)<;>intro h<;>try (exfalso;omega))|refine pay ?_|intro _));(all_goals (conv=>whnf))
 all_goals try (exfalso;omega)
 refine zP SeG (fun y=>[(0,.v (pS b)),(1,.v (.int .i64 y.x)),(2,.v (.int .i64 y.f)),(3,.v (.int .i64 n))]) (fun y=>[packE 77 y.fp (fS b S)])
  (fun y=>(1<=y.x/\y.x<=S.E.length)/\(tm S.E y.x).evn=true/\(tm S.E y.x).txt.length<=511/\y.f+n<=(tm S.E y.x).txt.length/\((tm S.E y.x).txt.drop y.f).take n=(t0.drop f0).take n) (fun y=>(tm S.E y.x).txt.length) ⟨x0,f0,fp⟩ hs0 (by (repeat ((conv=>whnf);refine vS ?_));exact trivial) (Ref.takes [77] rfl (.refl _)) ?_
 clear hR
 rintro ⟨x,f,g1⟩ ⟨hx,he,hlx,hf,htg⟩
 dsimp only at hx he hlx hf htg ⊢
 have hsm:=hw.small
 have cs:=xu S hw x ⟨by omega,hx.2⟩ b
 by_cases hnt:n=(tm S.E x).txt.length
 ·have hf0:f=0:=by omega
  subst hf0
  (repeat' ((conv=>whnf);first|refine SC.go 77 cs rfl fun fp'=>?_|refine zg ?_|((first|apply zb|apply za|apply zc)<;>intro h<;>try (exfalso;omega))|refine pay ?_|intro _));(all_goals (conv=>whnf))
  all_goals try (exfalso;omega)
  all_goals exact ⟨⟨_,Thin.ref (.packE (.nil _)),S,x,_,rfl,⟨hw,Grow.refl S,.inr ⟨hx.1,hx.2,he,by rw [←htg,List.drop_zero,hnt,List.take_length]⟩,by omega⟩,rfl⟩⟩
 obtain ⟨l,r,hP⟩:=vL hw hx.1 hx.2 he (zbA hw hx.1 hx.2 he (by omega))
 have htx:(tm S.E x).txt=(tm S.E l).txt++(tm S.E r).txt:=by rw [hP.trm];rfl
 have hlen:(tm S.E x).txt.length=(tm S.E l).txt.length+(tm S.E r).txt.length:=by rw [htx,g6q]
 have hpl:=(hw.pos_ hP.l1.1 hP.l1.2).len
 have hpr:=(hw.pos_ hP.r1.1 hP.r1.2).len
 unfold Tm.len at hpl hpr
 have csl:=xu S hw l ⟨by have:=hP.l1.1;omega,hP.l1.2⟩ b
 have cr:=qZ b S x hw.small
 have hva:=hP.a
 have hvb:=hP.b
 rw [yy hx.1 hx.2] at cr
 by_cases hA:f+n<=(tm S.E l).txt.length
 ·have hN:(1<=l/\l<=S.E.length)/\(tm S.E l).evn=true/\(tm S.E l).txt.length<=511/\f+n<=(tm S.E l).txt.length/\((tm S.E l).txt.drop f).take n=(t0.drop f0).take n:=⟨hP.l1,hP.el,by omega,hA,by
   rw [←htg,htx,List.drop_append_of_le_length (by omega),List.take_append_of_le_length (by rw [List.length_drop];omega)]⟩
  (repeat' ((conv=>whnf);first|refine SC.go 77 cs rfl fun fp'=>?_|refine SC.go 77 cr rfl fun fp'=>?_|rw [hva]|rw [hvb]|refine SC.go 77 csl rfl fun fp'=>?_|refine zg ?_|((first|apply zb|apply za|apply zc)<;>intro h<;>try (exfalso;omega))|refine pay ?_|intro _));(all_goals (conv=>whnf))
  all_goals try (exfalso;omega)
  all_goals exact zm (⟨l,f,_⟩:SeG) hN (by dsimp only;omega) (by (repeat ((conv=>whnf);refine vS ?_));exact trivial) (Ref.takes [77] rfl (.refl _))
 by_cases hB:(tm S.E l).txt.length<=f
 ·have ek:(f:Int) - ((tm S.E l).txt.length:Int)=((f - (tm S.E l).txt.length:Nat):Int):=by omega
  have hN:(1<=r/\r<=S.E.length)/\(tm S.E r).evn=true/\(tm S.E r).txt.length<=511/\(f - (tm S.E l).txt.length)+n<=(tm S.E r).txt.length/\((tm S.E r).txt.drop (f - (tm S.E l).txt.length)).take n=(t0.drop f0).take n:=⟨hP.r1,hP.er,by omega,by omega,by
   rw [←htg,htx,List.drop_append,List.drop_eq_nil_of_le hB,List.nil_append]⟩
  (repeat' ((conv=>whnf);first|refine SC.go 77 cs rfl fun fp'=>?_|refine SC.go 77 cr rfl fun fp'=>?_|rw [hva]|rw [hvb]|rw [ek]|refine SC.go 77 csl rfl fun fp'=>?_|refine zg ?_|((first|apply zb|apply za|apply zc)<;>intro h<;>try (exfalso;omega))|refine pay ?_|intro _));(all_goals (conv=>whnf))
  all_goals try (exfalso;omega)
  all_goals exact zm (⟨r,f - (tm S.E l).txt.length,_⟩:SeG) hN (by dsimp only;omega) (by (repeat ((conv=>whnf);refine vS ?_));exact trivial) (Ref.takes [77] rfl (.refl _))
 have hel:EvI S l (tm S.E l).txt:=.inr ⟨hP.l1.1,hP.l1.2,hP.el,rfl⟩
 have her:EvI S r (tm S.E r).txt:=.inr ⟨hP.r1.1,hP.r1.2,hP.er,rfl⟩
 obtain ⟨S1,y,cy,hY⟩:=zjx S hw l _ hel (by omega) f (by omega) (by omega)
 have hc1:=hY.cnt
 have hm1:=hY.grow.most
 obtain ⟨S2,z,cz,hZ⟩:=ziB S1 hY.wf r _ (her.grow hY.grow) (by omega) (f+n - (tm S.E l).txt.length) (by omega) (by omega)
 have hc2:=hZ.cnt
 have hm2:=hZ.grow.most
 obtain ⟨S3,u,cj,hJ⟩:=kW S2 hZ.wf y z _ _ (hY.ev.grow hZ.grow) hZ.ev (by rw [List.length_drop,List.length_take];omega) (by omega)
 have hc3:=hJ.cnt
 have cy:=cy b
 have cz:=cz b
 have cj:=cj b
 have ek:(f:Int)+(n:Int) - ((tm S.E l).txt.length:Int)=((f+n - (tm S.E l).txt.length:Nat):Int):=by omega
 have hres:(tm S.E l).txt.drop f++(tm S.E r).txt.take (f+n - (tm S.E l).txt.length)=(t0.drop f0).take n:=by
  have e1:((tm S.E l).txt.drop f).take n=(tm S.E l).txt.drop f:=List.take_of_length_le (by rw [List.length_drop];omega)
  have e2:n - ((tm S.E l).txt.length - f)=f+n - (tm S.E l).txt.length:=by omega
  rw [←htg,htx,List.drop_append_of_le_length (by omega),List.take_append,e1,List.length_drop,e2]
 have hev:=hJ.ev
 rw [hres] at hev
 (repeat' ((conv=>whnf);first|refine SC.go 77 cs rfl fun fp'=>?_|refine SC.go 77 cr rfl fun fp'=>?_|rw [hva]|rw [hvb]|rw [ek]|refine SC.go 77 csl rfl fun fp'=>?_|refine SC.go 77 cy rfl fun fp'=>?_|refine SC.go 77 cz rfl fun fp'=>?_|refine SC.go 77 cj rfl fun fp'=>?_|refine zg ?_|((first|apply zb|apply za|apply zc)<;>intro h<;>try (exfalso;omega))|refine pay ?_|intro _));(all_goals (conv=>whnf))
 all_goals try (exfalso;omega)
 all_goals exact ⟨⟨_,Thin.ref (.packE (.nil _)),S3,u,_,rfl,⟨hJ.wf,(hY.grow.trans hZ.grow).trans hJ.grow,hev,by omega⟩,rfl⟩⟩
theorem znI (b:Nat) (S:Sto) (hw:WF S) (x0:Int) (t0:List Nat) (hx0:EvI S x0 t0) (hl:t0.length<=511) (f0 n:Nat) (hfn:f0+n<=t0.length) (hroom:S.E.length+3605<=S.most) (key:Nat) (fp:List Nat) (w:World) (hR:StR w key fp b S) :
 Calls Tryz.prog zaM #[pS b,.int .i64 x0,.int .i64 f0,.int .i64 n] w fun e w'=>∃ v L1,e=.returned v/\R w fp L1 w'/\zxc key b S ((t0.drop f0).take n) v L1:=by
 refine zf [.v (pS b),.v (.int .i64 x0),.v (.int .i64 f0),.v (.int .i64 n)] zj3 (by simp) (hR.key 77) ?_
 have c1:=zhz S hw x0 t0 hx0 b
 have hLM:LM=1152921504606846976:=rfl
 have c2:=fun w=>zig f0 n t0.length (by omega) w
 unfold zha at c2
 rw [if_pos ⟨by omega,by omega,by omega,by omega⟩] at c2
 have c3:=fun key fp w hR=>znH b S hw x0 t0 hx0 hl f0 n hfn hroom key fp w hR
 (repeat' ((conv=>whnf);first|refine SC.go 77 c1 rfl fun fp'=>?_|(first|refine puK c2 ?_|refine quK c2 ?_)|(refine qx (key:=77) rfl (fun w' hR' h0=>c3 _ _ w' h0) ?_;rintro _ _ ⟨S1,z,f1,rfl,hJ,rfl⟩;refine ⟨.v _,rfl,?_⟩)|refine zg ?_|((first|apply zb|apply za|apply zc)<;>intro h<;>try (exfalso;omega))|refine pay ?_|intro _));(all_goals (conv=>whnf))
 all_goals try (exfalso;omega)
 all_goals exact ⟨⟨_,Thin.ref (.packE (.nil _)),S1,z,_,rfl,hJ,rfl⟩⟩
theorem znJ (b:Nat) (S:Sto) (hw:WF S) (x:Int) (t:List Nat) (K:Nat) (hx:EvI S x t) (hK2:K<=511) (hl:K*t.length<=511) (hl1:t.length<=511) (hroom:S.E.length+1854<=S.most) (key:Nat) (fp:List Nat) (w:World) (hR:StR w key fp b S) :
 Calls Tryz.prog zao #[pS b,.int .i64 x,.int .i64 K] w fun e w'=>∃ v L1,e=.returned v/\R w fp L1 w'/\rpQ key b S (cps K t) v L1:=by
 refine zf [.v (pS b),.v (.int .i64 x),.v (.int .i64 K)] zi5 (by simp) (hR.key 77) ?_
 have hLM:LM=1152921504606846976:=rfl
 have hk:=hx.known
 have c1:=ve S hw x hk b
 rw [hx.txt.2] at c1
 have c2:=yd b S x hw.small
 rw [vj hk,hx.txt.1] at c2
 have hcm:t.length*K<=511:=by rw [Nat.mul_comm];exact hl
 have c3:=fun w=>zdq t.length K (by omega) (by omega) w
 have hmv:zjV t.length K=.tuple #[.int .i64 ((t.length*K:Nat):Int),.nilIface]:=by
  unfold zjV;rw [if_pos (by omega)]
 rw [hmv] at c3
 by_cases h0:K=0∨x=0
 ·have ht:cps K t=[]:=by
   rcases h0 with rfl|h0
   ·rfl
   ·rcases hx with ⟨_,rfl⟩|h
    ·have:=zca K []
     exact List.eq_nil_of_length_eq_zero (by rw [this];simp)
    ·omega
  rw [ht]
  (repeat' ((conv=>whnf);first|refine SC.go 77 c1 rfl fun fp'=>?_|refine SC.go 77 c2 rfl fun fp'=>?_|(first|refine puK c3 ?_|refine quK c3 ?_)|refine zg ?_|((first|apply zb|apply za|apply zc)<;>intro h<;>try (exfalso;omega))|refine pay ?_|intro _));(all_goals (conv=>whnf))
  all_goals try (exfalso;omega)
  all_goals exact ⟨⟨_,Thin.ref (.skip (.packE (.nil _))),S,0,_,rfl,⟨hw,Grow.refl S,.inl ⟨rfl,rfl⟩,by omega⟩,rfl⟩⟩
 ·have c4:=fun key fp w hR=>zhy b S hw x t K hx (by omega) hK2 hl hroom key fp w hR
  (repeat' ((conv=>whnf);first|refine SC.go 77 c1 rfl fun fp'=>?_|refine SC.go 77 c2 rfl fun fp'=>?_|(first|refine puK c3 ?_|refine quK c3 ?_)|(refine qx (key:=77) rfl (fun w' hR' h0=>c4 _ _ w' h0) ?_;rintro _ _ ⟨S1,z,f1,rfl,hJ,rfl⟩;refine ⟨.v _,rfl,?_⟩)|refine zg ?_|((first|apply zb|apply za|apply zc)<;>intro h<;>try (exfalso;omega))|refine pay ?_|intro _));(all_goals (conv=>whnf))
  all_goals try (exfalso;omega)
  all_goals exact ⟨⟨_,Thin.ref (.packE (.nil _)),S1,z,_,rfl,hJ,rfl⟩⟩
theorem zpS (S:Sto) (hw:WF S) (y:Int) (hy:known S y) (he:(tm S.E y).evn=true) (b bm:Nat):SC jy #[pS b,.int .i64 y,.map (some bm)] b S S (.tuple #[.int .i64 y,.nilIface]):=by
 intro key fp w hR
 refine zf [.v (pS b),.v (.int .i64 y),.v (.map (some bm))] zeZ (by simp) (hR.key 77) ?_
 have c1:=ve S hw y hy b
 rw [he] at c1
 (repeat' ((conv=>whnf);first|refine SC.go 77 c1 rfl fun fp'=>?_|refine zg ?_|((first|apply zb|apply za|apply zc)<;>intro h<;>try (exfalso;omega))|refine pay ?_|intro _));(all_goals (conv=>whnf))
 all_goals exact ⟨qe (by (repeat (first|exact Thin.nil _|exact Thin.refl _|refine Thin.keep rfl (fun _ h=>h) ?_|refine Thin.skip ?_))) rfl⟩
abbrev dnE (bm:Nat) (M:List (Int × Int)):Ent:=.mapE 35 bm (.int .i64) (kvM M)
theorem zpT (b:Nat) (S:Sto) (hw:WF S) (x a:Int) (n:Nat) (u:List Nat) (hx:PwI S x a n u) (hl:(cps n u).length<=511) (hroom:S.E.length+1854<=S.most) (bm:Nat) (M:List (Int × Int)) (hM:uE (kvM M) (.int .i64 a)=some (.int .i64 a)) (f1 fp:List Nat) (w:World) (hR:R w fp [packE 77 f1 (fS b S),dnE bm M] w) :
 Calls Tryz.prog jy #[pS b,.int .i64 x,.map (some bm)] w fun e w'=>∃ v L1,e=.returned v/\R w fp L1 w'/\∃ S' z g1,v=.tuple #[.int .i64 z,.nilIface]/\EvJ S S' z (cps n u) 1854/\L1=[packE 77 g1 (fS b S'),dnE bm M]:=by
 refine zf [.v (pS b),.v (.int .i64 x),.mp 35 bm] zeZ (by simp) hR ?_
 have hk:known S x:=⟨by have:=hx.k1;omega,hx.k2⟩
 have c1:=ve S hw x hk b
 rw [hx.odd hw] at c1
 have c2:=qZ b S x hw.small
 rw [yy hx.k1 hx.k2] at c2
 have e1:=hx.kd
 have e2:=hx.ka
 have e3:=hx.kt
 have hn:=hx.len hw
 have hn2:=hx.n2
 have c3:=fun key fp w hR=>zhy b S hw a u n hx.ev (by omega) (by omega) (by rw [←zca];exact hl) hroom key fp w hR
 (repeat' ((conv=>whnf);first|refine SC.go 77 c1 rfl fun fp'=>?_|refine SC.go 77 c2 rfl fun fp'=>?_|rw [e1]|rw [e2]|rw [e3]|refine j6 hM ?_|(refine qx (key:=77) rfl (fun w' hR' h0=>c3 _ _ w' h0) ?_;rintro _ _ ⟨S1,z,f1,rfl,hJ,rfl⟩;refine ⟨.v _,rfl,?_⟩)|refine ⟨.mp 35 _,⟨rfl,rfl⟩,?_⟩|refine zg ?_|((first|apply zb|apply za|apply zc)<;>intro h<;>try (exfalso;omega))|refine pay ?_|refine And.intro (by first|exact ⟨rfl,rfl,_,rfl⟩) ?_|intro _));(all_goals (conv=>whnf))
 all_goals try (exfalso;omega)
 all_goals exact ⟨⟨_,Ref.takes [77,35] rfl (.refl _),S1,z,_,rfl,hJ,rfl⟩⟩
structure BoG where
 i:Nat
 S:Sto
 M:List (Int × Int)
 fp:List Nat
theorem ztX (hs:zaw Tryz.prog zo) (hn:zbz Tryz.prog zo) (b:Nat) (S:Sto) (hw:WF S) (x:Int) (t:List Nat) (hx:EvI S x t∨∃ a n u,PwI S x a n u/\t=cps n u) (hl:t.length<=511) (hroom:S.E.length+1854<=S.most) (key:Nat) (fp:List Nat) (w:World) (hR:StR w key fp b S) :
 Calls Tryz.prog zc8 #[pS b,.int .i64 x] w fun e w'=>∃ v L1,e=.returned v/\R w fp L1 w'/\rpQ key b S t v L1:=by
 refine zf [.v (pS b),.v (.int .i64 x)] znz (by simp) (hR.key 77) ?_
 rcases hx with hx|⟨a,n,u,hx,rfl⟩
 ·have c1:=ve S hw x hx.known b
  rw [hx.txt.2] at c1
  (repeat' ((conv=>whnf);first|refine SC.go 77 c1 rfl fun fp'=>?_|refine zg ?_|((first|apply zb|apply za|apply zc)<;>intro h<;>try (exfalso;omega))|refine pay ?_|intro _));(all_goals (conv=>whnf))
  all_goals try (exfalso;omega)
  all_goals exact ⟨⟨_,Thin.ref (.packE (.nil _)),S,x,_,rfl,⟨hw,Grow.refl S,hx,by omega⟩,rfl⟩⟩
 have hk:known S x:=⟨by have:=hx.k1;omega,hx.k2⟩
 have c1:=ve S hw x hk b
 rw [hx.odd hw] at c1
 have hrs:∀ y∈[x],0<=y/\y<=(S.E.length:Int):=fun y hy=>by rw [List.mem_singleton] at hy;subst hy;exact hk
 have c2:=fun a c key fp w hR hin=>zqP hs hn b S hw [x] hrs (by simp) a c key fp w hR hin
 (repeat' ((conv=>whnf);first|refine SC.go 77 c1 rfl fun fp'=>?_|(refine qx (key:=77) rfl (fun w' hR' h0=>c2 _ _ _ _ w' h0 (In.beside (key:=26) hR' rfl)) ?_;rintro _ _ ⟨L,a9,c9,f9,rfl,hlen,hall,⟨hrc,hnd,hsr⟩,rfl⟩;refine ⟨.v _,rfl,?_⟩)|refine zg ?_|((first|apply zb|apply za|apply zc)<;>intro h<;>try (exfalso;omega))|refine pay ?_|intro _));(all_goals (conv=>whnf))
 all_goals try (exfalso;omega)
 rename_i bm
 have hsm:=hw.small
 have hxL:x∈L:=hall x (.root (List.mem_singleton.2 rfl) (by have:=hx.k1;omega))
 have haL:a∈L:=hall a hx.left
 refine zP BoG (fun y=>[(0,.v (pS b)),(1,.v (.int .i64 x)),(9,.mp 35 bm),(36,.sl 813 a9 L.length c9),(37,.v (.int .i64 L.length)),(38,.v (.int .i64 y.i))])
  (fun y=>[packE 77 y.fp (fS b y.S),dnE bm y.M,.own 813 a9 L.length c9 zr 1 (zt .i64 L)])
  (fun y=>y.i<=L.length/\WF y.S/\Grow S y.S/\BdI y.S L y.i y.M x (cps n u)/\y.S.E.length<=S.E.length+1854/\(x∈L.drop y.i->y.S=S)) (fun y=>L.length - y.i) ⟨0,S,[],f9⟩ ⟨Nat.zero_le _,hw,Grow.refl S,⟨rfl,fun p hp=>by simp at hp,fun p hp=>by simp at hp⟩,by dsimp only;omega,fun _=>rfl⟩ (by (repeat ((conv=>whnf);refine vS ?_));exact trivial) (Ref.takes [77,35,813] rfl (.refl _)) ?_
 clear hR
 rintro ⟨i,S1,M,g1⟩ ⟨hi,w1,gr,hD,hc,hS⟩
 dsimp only at hi w1 gr hD hc hS ⊢
 by_cases hlt:i<L.length
 ·have hm:=zg9 hlt
  have hr:=hx.reach hw (hrc _ hm)
  have hky:=(hrc _ hm).known hw hrs
  have hnk:L.getD i 0∉M.map Prod.fst:=by
   rw [hD.keys]
   intro h
   obtain ⟨j,hj,he⟩:=List.mem_take_iff_getElem.1 h
   rw [g1q,g2q hlt,Option.getD_some] at he
   have hjl:j<L.length:=(Nat.lt_min.1 hj).2
   exact List.pairwise_iff_getElem.1 hnd j i hjl hlt (Nat.lt_min.1 hj).1 he
  have hset:=fun v=>ztW (v:=v) hnk
  have q1:=zgM (k:=.i64) hlt
  have k1:=zjI (k:=.i64) hlt
  have q0:((i:Nat):Int).toNat=i:=by omega
  by_cases hxx:L.getD i 0=x
  ·have hdr:L.drop i=L.getD i 0::L.drop (i+1):=zrE hlt
   obtain rfl:S1=S:=hS (by rw [hdr,hxx];simp)
   have hat:a∈M.map Prod.fst:=by
    rw [hD.keys]
    exact zlx hsr haL hlt (by rw [hxx];exact hx.ax)
   obtain ⟨v,hv1,hv2⟩:=zcb hat
   have hva:=hD.same _ hv1 (by have:=hx.ax;show a≠x;omega)
   rw [show v=a from hva] at hv2
   have cs:=fun f1 fp w hR=>zpT b S1 w1 x a n u hx hl hroom bm M hv2 f1 fp w hR
   have hnx:∀ S2:Sto,x∈L.drop (i+1)->S2=S1:=fun S2 h=>by
    exfalso
    have:(L.drop i).Nodup:=hnd.sublist (List.drop_sublist i L)
    rw [hdr,hxx,List.nodup_cons] at this
    exact this.1 h
   have hN:=fun (S2:Sto) (z:Int) (g:Grow S1 S2) (h:EvI S2 z (cps n u))=>hD.next hlt g (v:=z) (fun h=>absurd hxx h) (fun _=>h)
   rw [hxx] at hset q1 hN
   (repeat' ((conv=>whnf);first|rw [q0]|rw [Nat.mul_one]|rw [q1]|rw [hset]|(refine zh [77,35] rfl (fun w hR h0=>cs _ _ w h0) ?_;rintro _ _ ⟨S2,z,g2,rfl,hJ,rfl⟩;refine ⟨.v _,rfl,?_⟩)|refine ⟨.sl 813 _ _ _,⟨rfl,rfl,rfl,rfl⟩,?_⟩|refine ⟨.mp 35 _,⟨rfl,rfl⟩,?_⟩|refine zg ?_|((first|apply zb|apply za|apply zc)<;>intro h<;>try (exfalso;omega))|refine pay ?_|refine And.intro (by first|exact k1|exact ⟨rfl,rfl,_,rfl⟩) ?_|intro _));(all_goals (conv=>whnf))
   all_goals try (exfalso;omega)
   exact zm ⟨i+1,S2,M++[(x,z)],_⟩ ⟨hlt,hJ.wf,hJ.grow,hN _ _ hJ.grow hJ.ev,hJ.cnt,hnx _⟩ (by ((try dsimp only);omega)) (by (repeat ((conv=>whnf);refine vS ?_));exact trivial) (Ref.takes [77,35,813] rfl (.refl _))
  ·have he:=hr.resolve_left hxx
   have hgl:=gr.len
   have cs:=zpS S1 w1 (L.getD i 0) ⟨by omega,by omega⟩ (by rw [gr.tm hky.2];exact he) b bm
   have hN:=hD.next hlt (Grow.refl S1) (v:=L.getD i 0) (fun _=>rfl) (fun h=>absurd h hxx)
   have hS2:x∈L.drop (i+1)->S1=S:=fun h=>hS (by rw [zrE hlt];exact g4q _ h)
   generalize L.getD i 0=y at *
   (repeat' ((conv=>whnf);first|rw [q0]|rw [Nat.mul_one]|rw [q1]|rw [hset]|refine SC.go 77 cs rfl fun fp'=>?_|refine ⟨.sl 813 _ _ _,⟨rfl,rfl,rfl,rfl⟩,?_⟩|refine ⟨.mp 35 _,⟨rfl,rfl⟩,?_⟩|refine zg ?_|((first|apply zb|apply za|apply zc)<;>intro h<;>try (exfalso;omega))|refine pay ?_|refine And.intro (by first|exact k1|exact ⟨rfl,rfl,_,rfl⟩) ?_|intro _));(all_goals (conv=>whnf))
   all_goals try (exfalso;omega)
   exact zm ⟨i+1,S1,M++[(y,y)],_⟩ ⟨hlt,w1,gr,hN,hc,hS2⟩ (by ((try dsimp only);omega)) (by (repeat ((conv=>whnf);refine vS ?_));exact trivial) (Ref.takes [77,35,813] rfl (.refl _))
 ·obtain rfl:i=L.length:=by omega
  have hkx:x∈M.map Prod.fst:=by rw [hD.keys,List.take_length];exact hxL
  obtain ⟨z,hz1,hz2⟩:=zcb hkx
  have hev:=hD.ev _ hz1 rfl
  (repeat' ((conv=>whnf);first|refine j6 hz2 ?_|refine ⟨.mp 35 _,⟨rfl,rfl⟩,?_⟩|refine zg ?_|((first|apply zb|apply za|apply zc)<;>intro h<;>try (exfalso;omega))|refine pay ?_|refine And.intro (by first|exact ⟨rfl,rfl,_,rfl⟩) ?_|intro _));(all_goals (conv=>whnf))
  all_goals try (exfalso;omega)
  exact ⟨⟨_,Thin.ref (.packE (.skip (.skip (.nil _)))),S1,z,_,rfl,⟨w1,gr,hev,hc⟩,rfl⟩⟩
end
end Go.Proofs.YtdcbghoalnlcmaaGreatDoor
