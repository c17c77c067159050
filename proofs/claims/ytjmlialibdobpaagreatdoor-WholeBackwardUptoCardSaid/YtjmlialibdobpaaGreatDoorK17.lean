/- What is written out has the expression's language. Plain Lean: no program in sight. -/
import Derived.Test.YtjmlialibdobpaaGreatDoorK16
import Derived.Test.YtjmlialibdobpaaGreatDoorK6
set_option linter.unusedSectionVars false
set_option linter.unusedVariables false
set_option linter.unusedSimpArgs false
namespace Go.Proofs.YtjmlialibdobpaaGreatDoor
open Go.EG
theorem PwL.one {L:List Nat->Prop} {t:List Nat} (h:L t):PwL L 1 t:=⟨t,[],(List.append_nil t).symm,h,rfl⟩
theorem Lgp.ne {st:WS} {p:Pz} {t:List Nat} (h:Lgp st p t):t≠[]:=by
 obtain ⟨i,j,_,_,hp⟩:=h
 exact hp.ne
theorem WrOk.pz {st0 st:WS} {p:Pz} {L:List Nat->Prop} (h:WrOk st0 st p L):PzOk st.1.length p :=
 ⟨Nat.lt_pow_two_of_testBit _ fun i hi=>Bool.eq_false_iff.2 fun hb=>by have:=(h.fs i hb).2;omega,Nat.lt_pow_two_of_testBit _ fun i hi=>Bool.eq_false_iff.2 fun hb=>by have:=(h.lt i hb).2;omega⟩
theorem WrOk.opt {st st':WS} {p:Pz} {L:List Nat->Prop} (h:WrOk st st' p L):WrOk st st' { p with nl:=true } fun t=>t=[]∨L t:=by
 refine ⟨h.len,h.ss,h.fol,h.fs,h.lt,h.cl,h.fl,fun t=>?_⟩
 rw [←h.lg]
 unfold Lg
 have e:Lgp st' { p with nl:=true } t↔Lgp st' p t:=Iff.rfl
 rw [e]
 constructor
 ·rintro (⟨h1,_⟩|h1)
  ·exact .inl h1
  ·exact .inr (.inr h1)
 ·rintro (h1|⟨h1,_⟩|h1)
  ·exact .inl ⟨h1,rfl⟩
  ·exact .inl ⟨h1,rfl⟩
  ·exact .inr h1
theorem WrOk.star {st0 st:WS} {a:Pz} {L:List Nat->Prop} (h1:WrOk st0 st a L):WrOk st0 (st.1,qv st.2 a.lt a.fs) a fun t=>∃ k,1<=k/\PwL L k t:=by
 have hfl:=h1.fl
 have hlen:=h1.len
 have hE:∀ i k,EL (st.1,qv st.2 a.lt a.fs) i k↔EL st i k∨(i<st.2.length/\bt a.lt i/\bt a.fs k):=fun i k=>zqO
 have hSL:SL (st.1,qv st.2 a.lt a.fs)=SL st:=rfl
 refine ⟨hlen,h1.ss,fun i hi=>?_,h1.fs,h1.lt,fun i k hi1 hi2 he=>?_,by dsimp only;rw [xF,hfl],fun t=>?_⟩
 ·dsimp only
  rw [jV _ _ _ _ (by omega),if_neg (fun h=>by have:=(h1.lt i h).1;omega),h1.fol i hi]
 ·rcases (hE i k).1 he with h|⟨_,_,h⟩
  ·exact h1.cl i k hi1 hi2 h
  ·exact h1.fs k h
 ·have fwd:∀ (n:Nat) (t:List Nat) (i j:Nat),t.length<=n->bt a.fs i->bt a.lt j->Pth (SL st) (EL (st.1,qv st.2 a.lt a.fs)) t i j->∃ k,1<=k/\PwL (Lgp st a) k t:=by
   intro n
   induction n with
   | zero =>
     intro t i j hl hi hj hp
     exact absurd (List.length_eq_zero_iff.1 (by omega)) hp.ne
   | succ n ih =>
     intro t i j hl hi hj hp
     rcases Pth.split (P:=fun i=>bt a.lt i) (Q:=fun k=>bt a.fs k) (fun i k he=>((hE i k).1 he).imp id (fun h=>⟨h.2.1,h.2.2⟩)) hp with hp|⟨u,v,x,y,rfl,hu,hx,hy,hv⟩
     ·exact ⟨1,Nat.le_refl _,PwL.one ⟨i,j,hi,hj,hp⟩⟩
     ·have hul:0<u.length:=List.length_pos_iff.2 hu.ne
      rw [g6q] at hl
      obtain ⟨k,hk,hkp⟩:=ih v y j (by omega) hy hj hv
      exact ⟨k+1,by omega,u,v,rfl,⟨i,x,hi,hx,hu⟩,hkp⟩
  have bwd:∀ (k:Nat) (t:List Nat),PwL (Lgp st a) (k+1) t->Lgp (st.1,qv st.2 a.lt a.fs) a t:=by
   intro k
   induction k with
   | zero =>
     rintro t ⟨u,v,rfl,⟨i,j,hi,hj,hp⟩,rfl⟩
     rw [List.append_nil]
     exact ⟨i,j,hi,hj,Pth.mono (fun i k h=>(hE i k).2 (.inl h)) hp⟩
   | succ k ih =>
     rintro t ⟨u,v,rfl,⟨i,x,hi,hx,hp⟩,hv⟩
     obtain ⟨y,j,hy,hj,hq⟩:=ih v hv
     refine ⟨i,j,hi,hj,Pth.join (fun i k h=>(hE i k).2 (.inl h)) hp ((hE x y).2 (.inr ⟨?_,hx,hy⟩)) hq⟩
     have:=(h1.lt x hx).2
     omega
  constructor
  ·rintro (⟨rfl,hn⟩|⟨i,j,hi,hj,hp⟩)
   ·exact ⟨1,Nat.le_refl _,PwL.one ((h1.lg []).1 (.inl ⟨rfl,hn⟩))⟩
   ·obtain ⟨k,hk,hkp⟩:=fwd t.length t i j (Nat.le_refl _) hi hj hp
    exact ⟨k,hk,PwL.mono (fun t h=>(h1.lg t).1 (.inr h)) hkp⟩
  ·rintro ⟨k,hk,hp⟩
   rcases PwL.drop (Lp:=Lgp st a) (fun t h=>((h1.lg t).2 h).imp (fun h=>h.1) id) hp with rfl|⟨k',hk',hp'⟩
   ·rcases (h1.lg []).2 (PwL.nil hk hp) with ⟨_,h⟩|h
    ·exact .inl ⟨rfl,h⟩
    ·exact absurd rfl h.ne
   ·obtain ⟨q,rfl⟩:∃ q,k'=q+1:=⟨k' - 1,by omega⟩
    exact .inr (bwd q t hp')
def zuO (L:List Nat->Prop):List Pz->WS->WS->Prop
 | [],st,st'=>st'=st
 | c::cs,st,st'=>∃ st1,WrOk st st1 c L/\zuO L cs st1 st'
theorem zte {f:WS->WS × Pz} {p:Nat} {L:List Nat->Prop} (hok:∀ st,WOk st->st.1.length+p<=64->WOk (f st).1/\PzOk (f st).1.1.length (f st).2/\(f st).1.1.length<=st.1.length+p/\st.1.length<=(f st).1.1.length)
 (hf:∀ st,WOk st->st.1.length+p<=64->WrOk st (f st).1 (f st).2 L):∀ (n:Nat) (st:WS),WOk st->st.1.length+p*n<=64->zuO L (itW f n st).2 st (itW f n st).1
 | 0,st,hw,hl=>rfl
 | n + 1,st,hw,hl => by
   rw [Nat.mul_succ] at hl
   obtain ⟨k1,k2,k3,k4⟩:=hok st hw (by omega)
   rw [itW]
   exact ⟨(f st).1,hf st hw (by omega),zte hok hf n _ k1 (by omega)⟩
def Wl (L:List Nat->Prop) (mn:Int) (inf:Bool):Nat->Nat->List Nat->Prop
 | _,0,t=>t=[]
 | i,m+1,t=>(mn<=(i:Int)/\t=[])∨∃ u v,t=u++v/\(if (inf&&m == 0)=true then ∃ k,1<=k/\PwL L k u else L u)/\Wl L mn inf (i+1) m v
theorem zqP {L:List Nat->Prop} {mn:Int} {inf:Bool}:∀ (cs:List Pz) (i:Nat) (st st':WS),st.2.length=st.1.length->zuO L cs st st'->WrOk st (st'.1,(xx mn inf i cs st'.2).1) (xx mn inf i cs st'.2).2 (Wl L mn inf i cs.length)
 | [],i,st,st',hf,h => by
   have h:st'=st:=h
   subst h
   rw [xx]
   exact WrOk.eps hf
 | c :: cs,i,st,st',hf,⟨st1,h1,h2⟩ => by
   have ih:=zqP (mn:=mn) (inf:=inf) cs (i+1) st1 st' h1.fl h2
   rw [xx]
   unfold zfL
   have key:∃ g,(if (inf&&cs.isEmpty)=true then qv (xx mn inf (i+1) cs st'.2).1 c.lt c.fs else (xx mn inf (i+1) cs st'.2).1)=g/\WrOk st (st'.1,(yV g c (xx mn inf (i+1) cs st'.2).2).1) (yV g c (xx mn inf (i+1) cs st'.2).2).2 fun t=>∃ u v,t=u++v/\(if (inf&&cs.length == 0)=true then ∃ k,1<=k/\PwL L k u else L u)/\Wl L mn inf (i+1) cs.length v:=by
    refine ⟨_,rfl,?_⟩
    have hem:cs.isEmpty=(cs.length == 0):=by cases cs<;>rfl
    rw [hem]
    by_cases hb:(inf&&cs.length == 0)=true
    ·simp only [if_pos hb]
     rw [Bool.and_eq_true] at hb
     have hcs:cs=[]:=List.length_eq_zero_iff.1 (by simpa using hb.2)
     subst hcs
     have h2:st'=st1:=h2
     subst h2
     simp only [xx] at ih ⊢
     have hs:=h1.star
     exact WrOk.seq hs (WrOk.eps hs.fl)
    ·simp only [if_neg hb]
     exact WrOk.seq h1 ih
   obtain ⟨g,hg,hk⟩:=key
   rw [hg]
   dsimp only
   rw [List.length_cons]
   by_cases hm:mn<=(i:Int)
   ·rw [if_pos hm]
    refine hk.opt.congr fun t=>?_
    rw [Wl]
    constructor
    ·rintro (h|h)
     ·exact .inl ⟨hm,h⟩
     ·exact .inr h
    ·rintro (⟨_,h⟩|h)
     ·exact .inl h
     ·exact .inr h
   ·rw [if_neg hm]
    refine hk.congr fun t=>?_
    rw [Wl]
    constructor
    ·exact .inr
    ·rintro (⟨h,_⟩|h)
     ·exact absurd h hm
     ·exact h
theorem ztf {L:List Nat->Prop} {mn:Int}:∀ (m i:Nat) (t:List Nat),mn<=(i:Int)+m->(Wl L mn false i m t↔∃ k,(mn - i).toNat<=k/\k<=m/\PwL L k t)
 | 0,i,t,h => by
   rw [Wl]
   constructor
   ·intro ht;exact ⟨0,by omega,Nat.le_refl _,ht⟩
   ·rintro ⟨k,_,hk,hp⟩
    obtain rfl:k=0:=by omega
    exact hp
 | m + 1,i,t,h => by
   rw [Wl]
   have ih:=fun v=>ztf (L:=L) (mn:=mn) m (i+1) v (by omega)
   simp only [Bool.false_and,Bool.false_eq_true,if_false]
   constructor
   ·rintro (⟨h1,rfl⟩|⟨u,v,rfl,hu,hv⟩)
    ·exact ⟨0,by omega,Nat.zero_le _,rfl⟩
    ·obtain ⟨k,h1,h2,h3⟩:=(ih v).1 hv
     exact ⟨k+1,by omega,by omega,u,v,rfl,hu,h3⟩
   ·rintro ⟨k,h1,h2,h3⟩
    cases k with
    | zero=>exact .inl ⟨by omega,h3⟩
    | succ k =>
      obtain ⟨u,v,e,hu,hv⟩:=h3
      exact .inr ⟨u,v,e,hu,(ih v).2 ⟨k,by omega,by omega,hv⟩⟩
theorem ztg {L:List Nat->Prop} {mn:Int}:∀ (m i:Nat) (t:List Nat),mn<=(i:Int)+m+1->(Wl L mn true i (m+1) t↔∃ k,(mn - i).toNat<=k/\PwL L k t)
 | 0,i,t,h => by
   rw [Wl]
   simp only [Bool.true_and,beq_self_eq_true,if_true]
   constructor
   ·rintro (⟨h1,rfl⟩|⟨u,v,rfl,⟨k,hk,hu⟩,hv⟩)
    ·exact ⟨0,by omega,rfl⟩
    ·have hv:v=[]:=hv
     subst hv
     exact ⟨k,by omega,by rw [List.append_nil];exact hu⟩
   ·rintro ⟨k,h1,h2⟩
    by_cases hk:k=0
    ·subst hk;exact .inl ⟨by omega,h2⟩
    ·exact .inr ⟨t,[],(List.append_nil t).symm,⟨k,by omega,h2⟩,rfl⟩
 | m + 1,i,t,h => by
   rw [Wl]
   have ih:=fun v=>ztg (L:=L) (mn:=mn) m (i+1) v (by omega)
   have hb:(true&&m+1 == 0)=false:=rfl
   rw [hb]
   simp only [Bool.false_eq_true,if_false]
   constructor
   ·rintro (⟨h1,rfl⟩|⟨u,v,rfl,hu,hv⟩)
    ·exact ⟨0,by omega,rfl⟩
    ·obtain ⟨k,h1,h3⟩:=(ih v).1 hv
     exact ⟨k+1,by omega,u,v,rfl,hu,h3⟩
   ·rintro ⟨k,h1,h3⟩
    cases k with
    | zero=>exact .inl ⟨by omega,h3⟩
    | succ k =>
      obtain ⟨u,v,e,hu,hv⟩:=h3
      exact .inr ⟨u,v,e,hu,(ih v).2 ⟨k,by omega,hv⟩⟩
theorem WrOk.set {st:WS} (s:Ls) (hf:st.2.length=st.1.length):WrOk st (st.1++[s],st.2++[0]) ⟨false,2 ^ st.1.length,2 ^ st.1.length⟩ fun t=>∃ b,t=[b]/\s.has b=true:=by
 have hb:∀ i,bt (2 ^ st.1.length) i↔i=st.1.length:=fun i=>by unfold bt;rw [Nat.testBit_two_pow,decide_eq_true_eq];exact eq_comm
 have hl:(st.1++[s]).length=st.1.length+1:=by simp
 have hn:(st.1++[s]).getD st.1.length default=s:=by rw [g1q,List.getElem?_append_right (Nat.le_refl _),Nat.sub_self];rfl
 have he:∀ k,¬EL (st.1++[s],st.2++[0]) st.1.length k:=fun k h=>by
  unfold EL at h
  have e:(st.2++[0]).getD st.1.length 0=0:=by rw [g1q,←hf,List.getElem?_append_right (Nat.le_refl _),Nat.sub_self];rfl
  dsimp only at h
  rw [e] at h
  simp at h
 refine ⟨by dsimp only;omega,fun i hi=>?_,fun i hi=>?_,fun i hi=>?_,fun i hi=>?_,fun i k h1 h2 h3=>?_,by dsimp only;simp [hf],fun t=>?_⟩
 ·dsimp only
  rw [g1q,List.getElem?_append_left hi,←g1q]
 ·dsimp only
  rw [g1q,List.getElem?_append_left (by omega),←g1q]
 ·have:=(hb i).1 hi;dsimp only;omega
 ·have:=(hb i).1 hi;dsimp only;omega
 ·dsimp only at h2
  obtain rfl:i=st.1.length:=by omega
  exact absurd h3 (he k)
 ·unfold Lg Lgp
  constructor
  ·rintro (⟨_,h⟩|⟨i,j,hi,hj,hp⟩)
   ·cases h
   ·obtain rfl:=(hb i).1 hi
    cases t with
    | nil=>exact hp.elim
    | cons b t =>
      obtain ⟨⟨_,h1⟩,⟨rfl,_⟩|⟨k,hk,_⟩⟩:=hp
      ·dsimp only at h1
       rw [hn] at h1
       exact ⟨b,rfl,h1⟩
      ·exact absurd hk (he k)
  ·rintro ⟨b,rfl,h1⟩
   refine .inr ⟨st.1.length,st.1.length,(hb _).2 rfl,(hb _).2 rfl,⟨?_,?_⟩,.inl ⟨rfl,rfl⟩⟩
   ·dsimp only;omega
   ·dsimp only;rw [hn];exact h1
theorem zv0 {L:List Nat->Prop} (t:List Nat):L t↔∃ u v,t=u++v/\L u/\v=[] :=
 ⟨fun h=>⟨t,[],(List.append_nil t).symm,h,rfl⟩,fun ⟨u,v,e,h,hv⟩=>by subst hv;rw [List.append_nil] at e;rw [e];exact h⟩
theorem zme {A B C:List Nat->Prop} (t:List Nat):(∃ u v,t=u++v/\(∃ x y,u=x++y/\A x/\B y)/\C v)↔∃ u v,t=u++v/\A u/\∃ x y,v=x++y/\B x/\C y:=by
 constructor
 ·rintro ⟨u,v,rfl,⟨x,y,rfl,hx,hy⟩,hv⟩
  exact ⟨x,y++v,by rw [List.append_assoc],hx,y,v,rfl,hy,hv⟩
 ·rintro ⟨u,v,rfl,hu,x,y,rfl,hx,hy⟩
  exact ⟨u++x,y,by rw [List.append_assoc],⟨u,x,rfl,hu,hx⟩,hy⟩
mutual
theorem RT.wr_lg:∀ (r:RT) (st:WS),r.Vl->WOk st->st.1.length+r.pos<=64->WrOk st (r.wr st).1 (r.wr st).2 r.Mt
 | .mk k s mn mx ps a c,st,hV,hw,hl => by
   rw [RT.Vl] at hV
   obtain ⟨⟨_,_,hN⟩,hV⟩:=hV
   rw [RT.wr]
   by_cases h2:k=2
   ·rw [if_pos h2]
    refine (WrOk.set s hw.len).congr fun t=>?_
    rw [RT.Mt,if_pos h2]
   ·rw [if_neg h2]
    by_cases h3:k=3
    ·rw [if_pos h3]
     rw [RT.poso h2 (by omega)] at hl
     refine (RT.wrS_lg ps ⟨true,0,0⟩ st st _ hV hw hl (WrOk.eps hw.len)).congr fun t=>?_
     rw [RT.Mt,if_neg h2,if_pos h3]
     constructor
     ·rintro ⟨u,v,rfl,rfl,h⟩;exact h
     ·intro h;exact ⟨[],t,rfl,rfl,h⟩
    ·rw [if_neg h3]
     by_cases h4:k=4
     ·rw [if_pos h4]
      rw [RT.poso h2 (by omega)] at hl
      refine (RT.wrA_lg ps ⟨false,0,0⟩ st st _ hV hw hl (WrOk.none hw.len)).congr fun t=>?_
      rw [RT.Mt,if_neg h2,if_neg h3,if_pos h4]
      constructor
      ·rintro (h|h)
       ·exact h.elim
       ·exact h
      ·exact .inr
     ·rw [if_neg h4]
      by_cases h5:k=5
      ·rw [if_pos h5]
       rw [RT.pos5 h5] at hl
       obtain ⟨hp1,hmn,hmn2,hmx⟩:ps.length=1/\0<=mn/\mn<=64/\(mx=-1∨(mn<=mx/\mx<=64)):=by
        rcases hN with ⟨h,_⟩|⟨h,_⟩|⟨_,h⟩
        ·omega
        ·omega
        ·exact h
       match ps,hp1,hV,hl with
       | [p],_,hV,hl =>
         rw [RT.Vls] at hV
         rw [RT.poss,RT.poss,Nat.add_zero] at hl
         rw [RT.wrR]
         have hcp:=zte (fun st h1 h2=>RT.wr_ok p st h1 h2) (fun st h1 h2=>RT.wr_lg p st hV.1 h1 h2) (cpN mn mx) st hw hl
         have hlen:(itW p.wr (cpN mn mx) st).2.length=cpN mn mx:=(zg4 (fun st h1 h2=>RT.wr_ok p st h1 h2) (cpN mn mx) st hw hl).2.2.2.2
         have h:=zqP (mn:=mn) (inf:=mx == -1) (itW p.wr (cpN mn mx) st).2 0 st (itW p.wr (cpN mn mx) st).1 hw.len hcp
         rw [hlen] at h
         refine h.congr fun t=>?_
         rw [RT.Mt,if_neg h2,if_neg h3,if_neg h4,if_pos h5,RT.MtR]
         by_cases hi:mx=-1
         ·have hn:cpN mn mx=max mn.toNat 1:=by unfold cpN;rw [if_pos hi]
          obtain ⟨q,hq⟩:∃ q,cpN mn mx=q+1:=⟨cpN mn mx - 1,by omega⟩
          have hb:(mx == -1)=true:=by rw [hi];rfl
          rw [hq,hb,ztg q 0 t (by omega)]
          constructor
          ·rintro ⟨k',h1,h2⟩;exact ⟨k',by omega,.inl hi,h2⟩
          ·rintro ⟨k',h1,_,h2⟩;exact ⟨k',by omega,h2⟩
         ·have hn:cpN mn mx=mx.toNat:=by unfold cpN;rw [if_neg hi]
          have hb:(mx == -1)=false:=beq_eq_false_iff_ne.2 hi
          rw [hb,ztf (cpN mn mx) 0 t (by omega)]
          constructor
          ·rintro ⟨k',h1,h2,h3⟩;exact ⟨k',by omega,.inr (by omega),h3⟩
          ·rintro ⟨k',h1,h2,h3⟩;exact ⟨k',by omega,by omega,h3⟩
      ·rw [if_neg h5]
       refine (WrOk.eps hw.len).congr fun t=>?_
       rw [RT.Mt,if_neg h2,if_neg h3,if_neg h4,if_neg h5]
theorem RT.wrS_lg:∀ (ps:List RT) (a:Pz) (st0 st:WS) (L1:List Nat->Prop),RT.Vls ps->WOk st->st.1.length+RT.poss ps<=64->WrOk st0 st a L1->WrOk st0 (RT.wrS ps a st).1 (RT.wrS ps a st).2 fun t=>∃ u v,t=u++v/\L1 u/\RT.MtS ps v
 | [],a,st0,st,L1,hV,hw,hl,h => by
   rw [RT.wrS]
   refine h.congr fun t=>?_
   simp only [RT.MtS]
   exact zv0 t
 | p :: ps,a,st0,st,L1,hV,hw,hl,h => by
   rw [RT.Vls] at hV
   rw [RT.poss] at hl
   rw [RT.wrS]
   have h1:=RT.wr_lg p st hV.1 hw (by omega)
   obtain ⟨k1,k2,k3,k4⟩:=RT.wr_ok p st hw (by omega)
   obtain ⟨j1,j2⟩:=zhs k1 (by omega) (h.pz.mono k4) k2
   refine (RT.wrS_lg ps _ st0 _ _ hV.2 j1 (by dsimp only;omega) (h.seq h1)).congr fun t=>?_
   simp only [RT.MtS]
   exact zme t
theorem RT.wrA_lg:∀ (ps:List RT) (a:Pz) (st0 st:WS) (L1:List Nat->Prop),RT.Vls ps->WOk st->st.1.length+RT.poss ps<=64->WrOk st0 st a L1->WrOk st0 (RT.wrA ps a st).1 (RT.wrA ps a st).2 fun t=>L1 t∨RT.MtA ps t
 | [],a,st0,st,L1,hV,hw,hl,h => by
   rw [RT.wrA]
   refine h.congr fun t=>?_
   simp only [RT.MtA,or_false]
 | p :: ps,a,st0,st,L1,hV,hw,hl,h => by
   rw [RT.Vls] at hV
   rw [RT.poss] at hl
   rw [RT.wrA]
   have h1:=RT.wr_lg p st hV.1 hw (by omega)
   obtain ⟨k1,k2,k3,k4⟩:=RT.wr_ok p st hw (by omega)
   refine (RT.wrA_lg ps _ st0 _ _ hV.2 k1 (by omega) (h.alt h1)).congr fun t=>?_
   simp only [RT.MtA,or_assoc]
end
theorem Wz.runO_app (z:Wz) (sr:Bool):∀ (s t:List Nat) (o:Option Nat),z.runO sr o (s++t)=z.runO sr (z.runO sr o s) t
 | [],t,o=>rfl
 | b::s,t,o=>Wz.runO_app z sr s t _
def Wz.st (z:Wz):WS:=(z.ss,z.fol)
theorem zfR {z:Wz} {b j:Nat}:bt (zfQ z.ss b) j↔SL z.st j b:=by
 unfold bt
 rw [zo5,Bool.and_eq_true,decide_eq_true_eq];rfl
theorem zqQ {z:Wz} {S j:Nat}:bt (aft z.fol S) j↔∃ i,bt S i/\EL z.st i j:=by
 unfold bt
 rw [zeI]
 constructor
 ·rintro ⟨i,_,h1,h2⟩;exact ⟨i,h1,h2⟩
 ·rintro ⟨i,h1,h2⟩
  refine ⟨i,?_,h1,h2⟩
  rcases Nat.lt_or_ge i z.fol.length with h|h
  ·exact h
  ·have h2:((z.fol).getD i 0).testBit j=true:=h2
   rw [g1q,List.getElem?_eq_none h] at h2
   simp at h2
theorem bt_and {x y i:Nat}:bt (x&&&y) i↔bt x i/\bt y i:=by unfold bt;rw [Nat.testBit_and,Bool.and_eq_true]
theorem zuP {z:Wz}:∀ (n:Nat) (t:List Nat) (b:Nat),t.length=n->∃ S,z.runO false none (t++[b])=some S/\∀ j,bt S j↔∃ i,bt z.p.fs i/\Pth (SL z.st) (EL z.st) (t++[b]) i j:=by
 intro n
 induction n with
 | zero =>
   intro t b hl
   obtain rfl:=List.length_eq_zero_iff.1 hl
   refine ⟨_,rfl,fun j=>?_⟩
   rw [bt_and,zfR]
   constructor
   ·rintro ⟨h1,h2⟩;exact ⟨j,h1,h2,.inl ⟨rfl,rfl⟩⟩
   ·rintro ⟨i,h1,h2,⟨_,rfl⟩|⟨_,_,h⟩⟩
    ·exact ⟨h1,h2⟩
    ·exact h.elim
 | succ n ih =>
   intro t b hl
   rcases List.eq_nil_or_concat t with rfl|⟨t',c,rfl⟩
   ·simp at hl
   ·rw [List.concat_eq_append] at hl ⊢
    obtain ⟨S,hS,hb⟩:=ih t' c (by simpa using hl)
    refine ⟨_,by rw [Wz.runO_app,hS];rfl,fun j=>?_⟩
    have e:z.nxO false (some S)=aft z.fol S:=rfl
    rw [e,bt_and,zfR,zqQ]
    constructor
    ·rintro ⟨⟨i,h1,h2⟩,h3⟩
     obtain ⟨x,hx,hp⟩:=(hb i).1 h1
     exact ⟨x,hx,(Pth.snoc (by simp)).2 ⟨i,hp,h2,h3⟩⟩
    ·rintro ⟨x,hx,hp⟩
     obtain ⟨i,h1,h2,h3⟩:=(Pth.snoc (by simp)).1 hp
     exact ⟨⟨i,(hb i).2 ⟨x,hx,h1⟩,h2⟩,h3⟩
theorem zuQ {z:Wz}:∀ (n:Nat) (t:List Nat) (b:Nat),t.length=n->∃ S,z.runO true none (t++[b])=some S/\∀ j,bt S j↔∃ u,u <:+ t++[b]/\∃ i,bt z.p.fs i/\Pth (SL z.st) (EL z.st) u i j:=by
 intro n
 induction n with
 | zero =>
   intro t b hl
   obtain rfl:=List.length_eq_zero_iff.1 hl
   refine ⟨_,rfl,fun j=>?_⟩
   rw [bt_and,zfR]
   constructor
   ·rintro ⟨h1,h2⟩;exact ⟨[b],List.suffix_refl _,j,h1,h2,.inl ⟨rfl,rfl⟩⟩
   ·rintro ⟨u,hu,i,h1,hp⟩
    rcases zoS hu with rfl|⟨u',rfl,hu'⟩
    ·exact hp.elim
    ·obtain rfl:=List.suffix_nil.1 hu'
     obtain ⟨h2,⟨_,rfl⟩|⟨_,_,h⟩⟩:=hp
     ·exact ⟨h1,h2⟩
     ·exact h.elim
 | succ n ih =>
   intro t b hl
   rcases List.eq_nil_or_concat t with rfl|⟨t',c,rfl⟩
   ·simp at hl
   ·rw [List.concat_eq_append] at hl ⊢
    obtain ⟨S,hS,hb⟩:=ih t' c (by simpa using hl)
    refine ⟨_,by rw [Wz.runO_app,hS];rfl,fun j=>?_⟩
    have e:z.nxO true (some S)=(aft z.fol S|||z.p.fs):=rfl
    rw [e,bt_and,zfR,bt_or,zqQ]
    constructor
    ·rintro ⟨⟨i,h1,h2⟩|h1,h3⟩
     ·obtain ⟨u,hu,x,hx,hp⟩:=(hb i).1 h1
      exact ⟨u++[b],zoT b hu,x,hx,(Pth.snoc hp.ne).2 ⟨i,hp,h2,h3⟩⟩
     ·exact ⟨[b],zoT b List.nil_suffix,j,h1,h3,.inl ⟨rfl,rfl⟩⟩
    ·rintro ⟨u,hu,x,hx,hp⟩
     rcases zoS hu with rfl|⟨u',rfl,hu'⟩
     ·exact hp.elim
     ·by_cases h0:u'=[]
      ·subst h0
       obtain ⟨h2,⟨_,rfl⟩|⟨_,_,h⟩⟩:=hp
       ·exact ⟨.inr hx,h2⟩
       ·exact h.elim
      ·obtain ⟨i,h1,h2,h3⟩:=(Pth.snoc h0).1 hp
       exact ⟨.inl ⟨i,(hb i).2 ⟨u',hu',x,hx,h1⟩,h2⟩,h3⟩
theorem zth {S T:Nat}:S&&&T≠0↔∃ j,bt S j/\bt T j:=by
 constructor
 ·intro h
  obtain ⟨j,hj⟩:=Nat.exists_testBit_of_ne_zero h
  exact ⟨j,bt_and.1 hj⟩
 ·rintro ⟨j,h1,h2⟩ h
  have:=bt_and.2 ⟨h1,h2⟩
  rw [h] at this
  exact zaT this
theorem RT.z_lg {r:RT} (hV:r.Vl) (hp:r.pos<=64) (t:List Nat):Lg r.z.st r.z.p t↔r.Mt t :=
 (RT.wr_lg r ([],[]) hV ⟨rfl,fun x h=>by cases h⟩ (by simpa using hp)).lg t
theorem zxT {r:RT} (hV:r.Vl) (hp:r.pos<=64) (t:List Nat):r.z.accO false (r.z.runO false none t)=true↔r.Mt t:=by
 rw [←RT.z_lg hV hp]
 rcases List.eq_nil_or_concat t with rfl|⟨t',b,rfl⟩
 ·constructor
  ·intro h;exact .inl ⟨rfl,h⟩
  ·rintro (⟨_,h⟩|h)
   ·exact h
   ·exact absurd rfl h.ne
 ·rw [List.concat_eq_append]
  obtain ⟨S,hS,hb⟩:=zuP (z:=r.z) t'.length t' b rfl
  rw [hS]
  have e:r.z.accO false (some S)=(decide (S&&&r.z.p.lt≠0)||(false&&r.z.p.nl)):=rfl
  rw [e,Bool.false_and,Bool.or_false,decide_eq_true_eq,zth]
  constructor
  ·rintro ⟨j,h1,h2⟩
   obtain ⟨i,hi,hp⟩:=(hb j).1 h1
   exact .inr ⟨i,j,hi,h2,hp⟩
  ·rintro (⟨h,_⟩|⟨i,j,hi,hj,hp⟩)
   ·simp at h
   ·exact ⟨j,(hb j).2 ⟨i,hi,hp⟩,hj⟩
theorem zxU {r:RT} (hV:r.Vl) (hp:r.pos<=64) (t:List Nat):r.z.accO true (r.z.runO true none t)=true↔∃ u,u <:+ t/\r.Mt u:=by
 have hz:=fun u=>RT.z_lg hV hp u
 rcases List.eq_nil_or_concat t with rfl|⟨t',b,rfl⟩
 ·constructor
  ·intro h;exact ⟨[],List.suffix_refl _,(hz []).1 (.inl ⟨rfl,h⟩)⟩
  ·rintro ⟨u,hu,h⟩
   obtain rfl:=List.suffix_nil.1 hu
   rcases (hz []).2 h with ⟨_,h⟩|h
   ·exact h
   ·exact absurd rfl h.ne
 ·rw [List.concat_eq_append]
  obtain ⟨S,hS,hb⟩:=zuQ (z:=r.z) t'.length t' b rfl
  rw [hS]
  have e:r.z.accO true (some S)=(decide (S&&&r.z.p.lt≠0)||(true&&r.z.p.nl)):=rfl
  rw [e,Bool.true_and,Bool.or_eq_true,decide_eq_true_eq,zth]
  constructor
  ·rintro (⟨j,h1,h2⟩|h)
   ·obtain ⟨u,hu,i,hi,hp⟩:=(hb j).1 h1
    exact ⟨u,hu,(hz u).1 (.inr ⟨i,j,hi,h2,hp⟩)⟩
   ·exact ⟨[],List.nil_suffix,(hz []).1 (.inl ⟨rfl,h⟩)⟩
  ·rintro ⟨u,hu,h⟩
   rcases (hz u).2 h with ⟨_,h'⟩|⟨i,j,hi,hj,hp⟩
   ·exact .inr h'
   ·exact .inl ⟨j,(hb j).2 ⟨u,hu,i,hi,hp⟩,hj⟩
mutual
def RT.Rv:RT->RT->Prop
 | .mk k s mn mx ps _ _,.mk k' s' mn' mx' qs _ _=>k'=k/\s'=s/\mn'=mn/\mx'=mx/\RT.Rvs ps (if k=3 then qs.reverse else qs)
def RT.Rvs:List RT->List RT->Prop
 | [],[]=>True
 | p::ps,q::qs=>p.Rv q/\RT.Rvs ps qs
 | [],_::_=>False
 | _::_,[]=>False
end
theorem RT.Rvs_len:∀ {ps qs:List RT},RT.Rvs ps qs->ps.length=qs.length
 | [],[],_=>rfl
 | p :: ps,q :: qs,h => by
   rw [RT.Rvs] at h
   rw [List.length_cons,List.length_cons,RT.Rvs_len h.2]
 | [],_::_,h=>by rw [RT.Rvs] at h;exact h.elim
 | _::_,[],h=>by rw [RT.Rvs] at h;exact h.elim
theorem RT.Rvs_snoc:∀ {ps qs:List RT} {p q:RT},RT.Rvs ps qs->p.Rv q->RT.Rvs (ps++[p]) (qs++[q])
 | [],[],p,q,_,h=>by rw [List.nil_append,List.nil_append,RT.Rvs,RT.Rvs];exact ⟨h,trivial⟩
 | x :: ps,y :: qs,p,q,hs,h => by
   rw [RT.Rvs] at hs
   rw [List.cons_append,List.cons_append,RT.Rvs]
   exact ⟨hs.1,RT.Rvs_snoc hs.2 h⟩
 | [],_::_,_,_,h,_=>by rw [RT.Rvs] at h;exact h.elim
 | _::_,[],_,_,h,_=>by rw [RT.Rvs] at h;exact h.elim
theorem RT.sizes_cat:∀ l l':List RT,RT.sizes (l++l')=RT.sizes l+RT.sizes l'
 | [],l'=>by rw [List.nil_append,RT.sizes,Nat.zero_add]
 | p::l,l'=>by rw [List.cons_append,RT.sizes,RT.sizes,RT.sizes_cat l l'];omega
theorem RT.sizes_rev:∀ l:List RT,RT.sizes l.reverse=RT.sizes l
 | []=>rfl
 | p::l=>by rw [List.reverse_cons,RT.sizes_cat,RT.sizes_rev l,RT.sizes,RT.sizes,RT.sizes];omega
mutual
theorem RT.Rv_size:∀ (r q:RT),r.Rv q->q.size=r.size
 | .mk k s mn mx ps a c,.mk k' s' mn' mx' qs a' c',h => by
   rw [RT.Rv] at h
   obtain ⟨_,_,_,_,h⟩:=h
   rw [RT.size,RT.size]
   have h2:=RT.Rvs_size ps _ h
   by_cases h3:k=3
   ·rw [if_pos h3,RT.sizes_rev] at h2;rw [h2]
   ·rw [if_neg h3] at h2;rw [h2]
theorem RT.Rvs_size:∀ (ps qs:List RT),RT.Rvs ps qs->RT.sizes qs=RT.sizes ps
 | [],[],_=>rfl
 | p :: ps,q :: qs,h => by
   rw [RT.Rvs] at h
   rw [RT.sizes,RT.sizes,RT.Rv_size p q h.1,RT.Rvs_size ps qs h.2]
 | [],_::_,h=>by rw [RT.Rvs] at h;exact h.elim
 | _::_,[],h=>by rw [RT.Rvs] at h;exact h.elim
end
theorem PwL.snoc {L:List Nat->Prop}:∀ {k:Nat} {t:List Nat},PwL L (k+1) t↔∃ u v,t=u++v/\PwL L k u/\L v
 | 0,t => by
   constructor
   ·rintro ⟨u,v,rfl,hu,hv⟩
    have hv:v=[]:=hv
    subst hv
    exact ⟨[],u,List.append_nil u,rfl,hu⟩
   ·rintro ⟨u,v,rfl,hu,hv⟩
    have hu:u=[]:=hu
    subst hu
    exact ⟨v,[],(List.append_nil v).symm,hv,rfl⟩
 | k + 1,t => by
   constructor
   ·rintro ⟨u,v,rfl,hu,hv⟩
    obtain ⟨x,y,rfl,hx,hy⟩:=PwL.snoc.1 hv
    exact ⟨u++x,y,(List.append_assoc ..).symm,⟨u,x,rfl,hu,hx⟩,hy⟩
   ·rintro ⟨u,v,rfl,⟨x,y,rfl,hx,hy⟩,hv⟩
    exact ⟨x,y++v,List.append_assoc ..,hx,PwL.snoc.2 ⟨y,v,rfl,hy,hv⟩⟩
theorem PwL.rev {L L2:List Nat->Prop} (h:∀ t,L2 t↔L t.reverse):∀ {k:Nat} {t:List Nat},PwL L2 k t↔PwL L k t.reverse
 | 0,t => by
   show t=[]↔t.reverse=[]
   simp
 | k + 1,t => by
   rw [PwL.snoc (L:=L2)]
   constructor
   ·rintro ⟨u,v,rfl,hu,hv⟩
    rw [List.reverse_append]
    exact ⟨v.reverse,u.reverse,rfl,(h v).1 hv,(PwL.rev h).1 hu⟩
   ·rintro ⟨u,v,e,hu,hv⟩
    have e2:t=v.reverse++u.reverse:=by rw [←List.reverse_append,←e,List.reverse_reverse]
    exact ⟨v.reverse,u.reverse,e2,(PwL.rev h).2 (by rw [List.reverse_reverse];exact hv),(h _).2 (by rw [List.reverse_reverse];exact hu)⟩
theorem zqR:∀ (l l':List RT) (t:List Nat),RT.MtS (l++l') t↔∃ u v,t=u++v/\RT.MtS l u/\RT.MtS l' v
 | [],l',t => by
   rw [List.nil_append]
   constructor
   ·intro h;exact ⟨[],t,rfl,by rw [RT.MtS],h⟩
   ·rintro ⟨u,v,rfl,hu,hv⟩
    rw [RT.MtS] at hu
    subst hu;exact hv
 | p :: l,l',t => by
   rw [List.cons_append]
   simp only [RT.MtS,zqR l l']
   exact (zme t).symm
mutual
theorem RT.Rv_Mt:∀ (r q:RT),r.Rv q->∀ t,q.Mt t↔r.Mt t.reverse
 | .mk k s mn mx ps a c,.mk k' s' mn' mx' qs a' c',h => by
   intro t
   rw [RT.Rv] at h
   obtain ⟨rfl,rfl,rfl,rfl,h⟩:=h
   rw [RT.Mt,RT.Mt]
   by_cases h2:k'=2
   ·rw [if_pos h2,if_pos h2]
    constructor
    ·rintro ⟨b,rfl,hb⟩;exact ⟨b,rfl,hb⟩
    ·rintro ⟨b,e,hb⟩;exact ⟨b,by rw [←List.reverse_reverse t,e];rfl,hb⟩
   ·rw [if_neg h2,if_neg h2]
    by_cases h3:k'=3
    ·rw [if_pos h3,if_pos h3]
     rw [if_pos h3] at h
     have:=RT.Rvs_MtS ps qs.reverse h t
     rw [List.reverse_reverse] at this
     exact this
    ·rw [if_neg h3,if_neg h3]
     rw [if_neg h3] at h
     by_cases h4:k'=4
     ·rw [if_pos h4,if_pos h4];exact RT.Rvs_MtA ps qs h t
     ·rw [if_neg h4,if_neg h4]
      by_cases h5:k'=5
      ·rw [if_pos h5,if_pos h5];exact RT.Rvs_MtR ps qs h mn' mx' t
      ·rw [if_neg h5,if_neg h5];simp
theorem RT.Rvs_MtS:∀ (ps qs:List RT),RT.Rvs ps qs->∀ t,RT.MtS qs.reverse t↔RT.MtS ps t.reverse
 | [],[],_ => fun t => by
   show RT.MtS [] t↔_
   rw [RT.MtS,RT.MtS];simp
 | p :: ps,q :: qs,h => fun t => by
   rw [RT.Rvs] at h
   have ih:=RT.Rvs_MtS ps qs h.2
   have hp:=RT.Rv_Mt p q h.1
   rw [List.reverse_cons,zqR]
   simp only [RT.MtS]
   constructor
   ·rintro ⟨u,v,rfl,hu,x,y,rfl,hx,rfl⟩
    rw [List.append_nil,List.reverse_append]
    exact ⟨x.reverse,u.reverse,rfl,(hp x).1 hx,(ih u).1 hu⟩
   ·rintro ⟨u,v,e,hu,hv⟩
    have e2:t=v.reverse++u.reverse:=by rw [←List.reverse_append,←e,List.reverse_reverse]
    exact ⟨v.reverse,u.reverse,e2,(ih _).2 (by rw [List.reverse_reverse];exact hv),u.reverse,[],(List.append_nil _).symm,(hp _).2 (by rw [List.reverse_reverse];exact hu),rfl⟩
 | [],_::_,h=>by rw [RT.Rvs] at h;exact h.elim
 | _::_,[],h=>by rw [RT.Rvs] at h;exact h.elim
theorem RT.Rvs_MtA:∀ (ps qs:List RT),RT.Rvs ps qs->∀ t,RT.MtA qs t↔RT.MtA ps t.reverse
 | [],[],_=>fun t=>by rw [RT.MtA,RT.MtA]
 | p :: ps,q :: qs,h => fun t => by
   rw [RT.Rvs] at h
   rw [RT.MtA,RT.MtA,RT.Rv_Mt p q h.1 t,RT.Rvs_MtA ps qs h.2 t]
 | [],_::_,h=>by rw [RT.Rvs] at h;exact h.elim
 | _::_,[],h=>by rw [RT.Rvs] at h;exact h.elim
theorem RT.Rvs_MtR:∀ (ps qs:List RT),RT.Rvs ps qs->∀ mn mx t,RT.MtR qs mn mx t↔RT.MtR ps mn mx t.reverse
 | [],[],_=>fun mn mx t=>by rw [RT.MtR,RT.MtR];simp
 | p :: ps,q :: qs,h => fun mn mx t => by
   rw [RT.Rvs] at h
   have hp:=RT.Rv_Mt p q h.1
   rw [RT.MtR,RT.MtR]
   constructor
   ·rintro ⟨k,h1,h2,h3⟩;exact ⟨k,h1,h2,(PwL.rev hp).1 h3⟩
   ·rintro ⟨k,h1,h2,h3⟩;exact ⟨k,h1,h2,(PwL.rev hp).2 h3⟩
 | [],_::_,h=>by rw [RT.Rvs] at h;exact h.elim
 | _::_,[],h=>by rw [RT.Rvs] at h;exact h.elim
end
mutual
theorem RT.Rv_Vl:∀ (r q:RT),r.Rv q->q.Vl->r.Vl
 | .mk k s mn mx ps a c,.mk k' s' mn' mx' qs a' c',h,hv => by
   rw [RT.Rv] at h
   obtain ⟨rfl,rfl,rfl,rfl,h⟩:=h
   have hl:=RT.Rvs_len h
   have hl2:ps.length=qs.length:=by
    by_cases h3:k'=3
    ·rw [if_pos h3,List.length_reverse] at hl;exact hl
    ·rw [if_neg h3] at hl;exact hl
   rw [RT.Vl] at hv ⊢
   obtain ⟨hv1,hv2⟩:=hv
   refine ⟨?_,RT.Rvs_Vl ps _ h ?_⟩
   ·rw [RT.VN] at hv1 ⊢
    rw [hl2];exact hv1
   ·by_cases h3:k'=3
    ·rw [if_pos h3];exact RT.Vls_of fun p hp=>RT.Vl_mem hv2 (List.mem_reverse.1 hp)
    ·rw [if_neg h3];exact hv2
theorem RT.Rvs_Vl:∀ (ps qs:List RT),RT.Rvs ps qs->RT.Vls qs->RT.Vls ps
 | [],[],_,h=>h
 | p :: ps,q :: qs,h,hv => by
   rw [RT.Rvs] at h
   rw [RT.Vls] at hv ⊢
   exact ⟨RT.Rv_Vl p q h.1 hv.1,RT.Rvs_Vl ps qs h.2 hv.2⟩
 | [],_::_,h,_=>by rw [RT.Rvs] at h;exact h.elim
 | _::_,[],h,_=>by rw [RT.Rvs] at h;exact h.elim
end
theorem RT.poss_cat:∀ l l':List RT,RT.poss (l++l')=RT.poss l+RT.poss l'
 | [],l'=>by rw [List.nil_append,RT.poss,Nat.zero_add]
 | p::l,l'=>by rw [List.cons_append,RT.poss,RT.poss,RT.poss_cat l l'];omega
theorem RT.poss_rev:∀ l:List RT,RT.poss l.reverse=RT.poss l
 | []=>rfl
 | p::l=>by rw [List.reverse_cons,RT.poss_cat,RT.poss_rev l,RT.poss,RT.poss,RT.poss];omega
mutual
theorem RT.Rv_pos:∀ (r q:RT),r.Rv q->q.pos=r.pos
 | .mk k s mn mx ps a c,.mk k' s' mn' mx' qs a' c',h => by
   rw [RT.Rv] at h
   obtain ⟨rfl,rfl,rfl,rfl,h⟩:=h
   rw [RT.pos,RT.pos]
   have h2:=RT.Rvs_pos ps _ h
   by_cases h3:k'=3
   ·rw [if_pos h3,RT.poss_rev] at h2;rw [h2]
   ·rw [if_neg h3] at h2;rw [h2]
theorem RT.Rvs_pos:∀ (ps qs:List RT),RT.Rvs ps qs->RT.poss qs=RT.poss ps
 | [],[],_=>rfl
 | p :: ps,q :: qs,h => by
   rw [RT.Rvs] at h
   rw [RT.poss,RT.poss,RT.Rv_pos p q h.1,RT.Rvs_pos ps qs h.2]
 | [],_::_,h=>by rw [RT.Rvs] at h;exact h.elim
 | _::_,[],h=>by rw [RT.Rvs] at h;exact h.elim
end
def frP (key:Nat) (F:List Frz):Ent:=.abs key (vk F) fun w=>∀ f∈F,zie f.a f.xs w/\(f.xs≠[]->∀ ad:Addr,f.a=some ad->PlB w ad.block)
section
variable {w0 w:World} {fp0:List Nat} {L:List Ent}
theorem zv1 {key:Nat} {o:Own} (hR:R w0 fp0 L w) (h:zL key L=some o) (hx:o.xs≠[]):∃ g,o.a=some ⟨g,0,none⟩/\PlB w g:=by
 obtain ⟨g,cur,ha,hg,_⟩:=jI (xp hR h) (List.length_pos_iff.2 hx)
 exact ⟨g,ha,_,_,hg⟩
theorem R.frzP {k key n c T sz:Nat} {a:Option Addr} {xs:List Value} {F:List Frz} (h:R w0 fp0 (.own k a n c T sz xs::frP key F::L) w):R w0 fp0 (frP key (⟨a,n,c,xs⟩::F)::L) w:=by
 have e:fps (frP key (⟨a,n,c,xs⟩::F)::L)=fps (.own k a n c T sz xs::frP key F::L):=by
  simp only [zH,frP,Ent.fp,vk,List.flatMap_cons,List.append_assoc]
 have hro:∀ j v,xs[j]?=some v->∃ g,a=some ⟨g,0,none⟩/\w.cell? ⟨g,j,none⟩=some v:=fun j v hv=>by
  exact x9 (key:=k) (o:=⟨a,n,c,T,sz,xs⟩) h (by simp [zL]) hv
 have hpl:xs≠[]->∃ g,a=some ⟨g,0,none⟩/\PlB w g:=fun hx=>zv1 (key:=k) (o:=⟨a,n,c,T,sz,xs⟩) h (by simp [zL]) hx
 refine ⟨h.os,h.tape,h.output,h.drawn,h.size,h.old,by rw [e];exact h.nodup,by rw [e];exact h.range,fun x hx=>?_⟩
 rcases List.mem_cons.1 hx with rfl|hx
 ·intro w' hs f hf
  rcases List.mem_cons.1 hf with rfl|hf
  ·refine ⟨fun j v hv=>?_,fun hx ad ha=>?_⟩
   ·obtain ⟨g,ha,hc⟩:=hro j v hv
    dsimp only at ha ⊢
    refine ⟨g,ha,?_⟩
    rw [←hc]
    exact jw (hs g (by simp [vk,ha,Value.ownBlock]))
   ·obtain ⟨g,ha',cs,T',hp⟩:=hpl hx
    dsimp only at ha
    rw [ha'] at ha
    cases ha
    refine ⟨cs,T',?_⟩
    rw [hs g (by simp [vk,ha',Value.ownBlock])]
    exact hp
  ·have h2:=h.ok (frP key F) (by simp)
   exact h2 w' (fun b hb=>hs b (by simp only [vk,List.flatMap_cons];exact List.mem_append_right _ hb)) f hf
 ·exact h.ok x (g4q _ (g4q _ hx))
theorem R.frzP0 {key:Nat} (h:R w0 fp0 L w):R w0 fp0 (frP key []::L) w:=by
 have e:fps (frP key []::L)=fps L:=by simp [zH,frP,Ent.fp,vk]
 refine ⟨h.os,h.tape,h.output,h.drawn,h.size,h.old,by rw [e];exact h.nodup,by rw [e];exact h.range,fun x hx=>?_⟩
 rcases List.mem_cons.1 hx with rfl|hx
 ·intro w' _ f hf;cases hf
 ·exact h.ok x hx
theorem Ref.frzP {k key n c T sz:Nat} {a:Option Addr} {xs:List Value} {F:List Frz}:Ref w0 fp0 (.own k a n c T sz xs::frP key F::L) (frP key (⟨a,n,c,xs⟩::F)::L):=fun _ h=>R.frzP h
theorem Ref.frzP0 (key:Nat):Ref w0 fp0 L (frP key []::L):=fun _ h=>R.frzP0 h
theorem In.frP {key:Nat} {F:List Frz} {f:Frz} (hR:R w0 fp0 L w) (hm:frP key F∈L) (hf:f∈F):In w [] f.a f.xs:=by
 by_cases hx:f.xs=[]
 ·exact .inl hx
 ·have hro:=(Ent.abs_ok (hR.ok _ hm) f hf).1
  obtain ⟨g,ha,hc⟩:=hro 0 _ (g2q (List.length_pos_iff.2 hx))
  refine .inr ⟨g,0,ha,?_,by simp,fun j v hv=>?_⟩
  ·unfold World.cell? at hc
   rcases Nat.lt_or_ge g w.heap.size with h|h
   ·exact h
   ·rw [Array.getElem?_eq_none h] at hc
    simp at hc
  ·obtain ⟨g',ha',hc'⟩:=hro j v hv
   rw [ha] at ha'
   simp only [g3q,Addr.mk.injEq,and_true] at ha'
   subst ha'
   rw [Nat.zero_add];exact hc'
theorem PlB.frP {key:Nat} {F:List Frz} {f:Frz} {ad:Addr} (hR:R w0 fp0 L w) (hm:frP key F∈L) (hf:f∈F) (hx:f.xs≠[]) (ha:f.a=some ad):PlB w ad.block:=(Ent.abs_ok (hR.ok _ hm) f hf).2 hx ad ha
end
section
variable {w0 w:World} {fp0:List Nat} {L:List Ent}
theorem R.frzPm {key:Nat} {F G:List Frz} (h:R w0 fp0 (frP key F::frP key G::L) w):R w0 fp0 (frP key (F++G)::L) w:=by
 have e:fps (frP key (F++G)::L)=fps (frP key F::frP key G::L):=by
  simp only [zH,frP,Ent.fp,vk,List.flatMap_append,List.append_assoc]
 refine ⟨h.os,h.tape,h.output,h.drawn,h.size,h.old,by rw [e];exact h.nodup,by rw [e];exact h.range,fun x hx=>?_⟩
 rcases List.mem_cons.1 hx with rfl|hx
 ·intro w' hs f hf
  rcases List.mem_append.1 hf with hf|hf
  ·have h2:=h.ok (frP key F) (by simp)
   exact h2 w' (fun b hb=>hs b (by simp only [vk,List.flatMap_append];exact List.mem_append_left _ hb)) f hf
  ·have h2:=h.ok (frP key G) (by simp)
   exact h2 w' (fun b hb=>hs b (by simp only [vk,List.flatMap_append];exact List.mem_append_right _ hb)) f hf
 ·exact h.ok x (g4q _ (g4q _ hx))
theorem Ref.frzPm {key:Nat} {F G:List Frz}:Ref w0 fp0 (frP key F::frP key G::L) (frP key (F++G)::L):=fun _ h=>R.frzPm h
end
def RF (F:List Frz) (q:RT):Prop:=∀ x∈q.rows,x=(none,[])∨∃ f∈F,f.a=x.1/\f.xs=x.2/\f.xs≠[]
theorem RF.mono {F G:List Frz} {q:RT} (h:RF F q) (hs:∀ f∈F,f∈G):RF G q:=fun x hx=>(h x hx).imp id fun ⟨f,hf,h2⟩=>⟨f,hs f hf,h2⟩
theorem RF.in_ {w0 w:World} {L:List Ent} {key:Nat} {F:List Frz} {q:RT} (hR:R w0 [] L w) (hm:frP key F∈L) (h:RF F q):RIn w [] q/\RPl w q:=by
 refine ⟨fun x hx=>?_,fun x hx ad ha=>?_⟩
 ·rcases h x hx with rfl|⟨f,hf,h1,h2,_⟩
  ·exact .inl rfl
  ·rw [←h1,←h2];exact In.frP hR hm hf
 ·rcases h x hx with rfl|⟨f,hf,h1,h2,h3⟩
  ·cases ha
  ·exact PlB.frP hR hm hf h3 (h1.trans ha)
end Go.Proofs.YtjmlialibdobpaaGreatDoor
