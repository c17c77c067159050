/- An expression that came in is looked at, where rows may lie in frozen blocks: the program. Condition: it lies in memory as a tree, and no cell of it is frozen. -/
import Derived.Test.YtjmlialibdobpaaGreatDoorK16
import Derived.Test.YtjmlialibdobpaaGreatDoorK19
import Derived.Test.YtjmlialibdobpaaGreatDoorK17
import Derived.Test.YtjmlialibdobpaaGreatDoorK18
import Derived.Test.YtjmlialibdobpaaGreatDoorK8
import Derived.Test.YtjmlialibdobpaaGreatDoorRows
import Derived.Test.YtjmlialibdobpaaGreatDoorK11
import Derived.Test.YtjmlialibdobpaaGreatDoorK2
import Derived.ChangeSame
import Derived.ChangeVars
import Derived.JoinedOf
import Derived.RowKit
import Derived.LaidLaws
import Derived.LaidHandle
set_option linter.unusedSectionVars false
set_option linter.unusedVariables false
set_option linter.unusedSimpArgs false
namespace Go.Proofs.YtjmlialibdobpaaGreatDoor
section
open Go.EG
attribute [local irreducible] zT yE Go.Calls
set_option maxRecDepth 20000
set_option maxHeartbeats 4000000
theorem zfV {w w':World} {L:List Ent} {v:Value} (h:qX w v) (hR:R w [] L w'):qX w' v:=by
 intro ad he
 obtain ⟨cs,T,fz,hb,hf⟩:=h ad he
 have e:w'.heap[ad.block]?=w.heap[ad.block]?:=hR.old ad.block (Array.getElem?_eq_some_iff.1 hb).1 (by simp)
 refine ⟨cs,T,fz,by rw [e];exact hb,?_⟩
 unfold World.frozen? at hf ⊢
 rw [e];exact hf
theorem zm4 {b o k:Nat}:(SV.el (some ⟨b,o,none⟩) k).val=pV b (o+k):=by simp [SV.val,qo]
theorem zv2 {w w':World} {L:List Ent} {b o k:Nat} (h:qX w (pV b (o+k))) (hR:R w [] L w'):qX w' (SV.el (some ⟨b,o,none⟩) k).val:=by
 rw [zm4];exact zfV h hR
def RSf (w:World) (r:RT):Prop:=∀ x∈r.rows,∀ b o,x.1=some ⟨b,o,none⟩->∀ j,j<x.2.length->qX w (pV b (o+j))
theorem RSf.later {w w':World} {L:List Ent} {r:RT} (h:RSf w r) (hR:R w [] L w'):RSf w' r:=fun x hx b o ha j hj=>zfV (h x hx b o ha j hj) hR
structure NdS (w:World) (n:Nat × Nat × RT):Prop where
 inn:NdIn w [] n.1 n.2.1 n.2.2
 sf:qX w (pV n.1 n.2.1)
 rsf:RSf w n.2.2
 sz:n.2.2.size<=2199023255552
theorem NdS.kid {w:World} {b off j:Nat} {k:Int} {s:Ls} {mn mx:Int} {ps:List RT} {a:Option Addr} {c:Nat} {p:RT} (h:NdS w (b,off,.mk k s mn mx ps a c)) (hp:ps[j]?=some p):∃ b0 o0,a=some ⟨b0,o0,none⟩/\NdS w (b0,o0+j*8,p):=by
 obtain ⟨b0,o0,ha,hk⟩:=h.inn.kid hp
 have hm:=List.mem_of_getElem? hp
 have hjl:=(List.getElem?_eq_some_iff.1 hp).1
 have hsz:=h.sz
 have:=RT.size_mem hm
 dsimp only at hsz
 rw [RT.size] at hsz
 refine ⟨b0,o0,ha,hk,h.rsf (a,rtL ps) (by dsimp only;rw [RT.rows];exact g5q) _ _ ha _ (by dsimp only;rw [vG];omega),fun x hx=>h.rsf x (by dsimp only;rw [RT.rows];exact g4q _ (RT.rows_mem hx hm)),by dsimp only;omega⟩
def MS (w:World) (m:List (Value × Value)):Prop:=∀ p∈m,qX w p.1/\p.2=.bool true
theorem MS.set {w:World} {m m':List (Value × Value)} {u:Value} (h:MS w m) (hu:qX w u) (hm:zqV m u (.bool true) m'):MS w m':=by
 intro p hp
 obtain ⟨h1,h2⟩:=hm p hp
 refine ⟨?_,?_⟩
 ·rcases h1 with h1|⟨q,hq,h1⟩
  ·rw [h1];exact hu
  ·rw [h1];exact (h q hq).1
 ·rcases h2 with h2|⟨q,hq,h2⟩
  ·exact h2
  ·rw [h2];exact (h q hq).2
theorem MS.soft {w:World} {L:List Ent} {m:List (Value × Value)} {b o k:Nat} (h:MS w m) (hu:qX w (pV b (o+k))):zjn w [] L m (SV.el (some ⟨b,o,none⟩) k).val:=fun w' hR=>⟨zv2 hu hR,fun p hp=>zfV (h p hp).1 hR⟩
def nvS (l:List (Nat × Nat × RT)):List Value:=l.map fun n=>pV n.1 n.2.1
def nsS (l:List (Nat × Nat × RT)):Nat:=(l.map fun n=>n.2.2.size).sum
theorem zlB:∀ l:List (Nat × Nat × RT),l.length<=nsS l
 | []=>Nat.le_refl _
 | ⟨b,o,.mk k s mn mx ps a c⟩ :: l => by
   have:=zlB l
   unfold nsS at this ⊢
   rw [List.map_cons,List.sum_cons,List.length_cons,RT.size];omega
theorem zv3 (l:List (Nat × Nat × RT)) (x:Nat × Nat × RT):nsS (l++[x])=nsS l+x.2.2.size:=by simp [nsS]
theorem zv4 (l:List (Nat × Nat × RT)) (x:Nat × Nat × RT):nvS l++[pV x.1 x.2.1]=nvS (l++[x]):=by simp [nvS]
structure VsG where
 l:List (Nat × Nat × RT)
 m:List (Value × Value)
 a:Option Addr
 c:Nat
structure VtG where
 j:Nat
 l:List (Nat × Nat × RT)
 m:List (Value × Value)
 a:Option Addr
 c:Nat
def vsQ (v:Value) (L1:List Ent):Prop:=L1=[]/\∃ z:Bool,v=.bool z
theorem zo8 (nb no:Nat) (nr:RT) (w:World) (hn:NdS w (nb,no,nr)) :
 Calls Tryz.prog vE #[pV nb no] w fun e w'=>∃ v L1,e=.returned v/\R w [] L1 w'/\vsQ v L1:=by
 refine zQ [.el (some ⟨nb,no,none⟩) 0] ztj (by simp) ?_
 have hm0:MS w []:=fun p hp=>by cases hp
 have hpl:=fun {L:List Ent}=>hm0.soft (L:=L) (o:=no) (k:=0) hn.sf
 (repeat' ((conv=>whnf);first|refine zh ?_|((first|apply zc|apply za|apply zd)<;>intro h<;>try (exfalso;omega))|refine pay ?_|refine And.intro (by first|exact ⟨rfl,rfl,_,rfl⟩|exact hpl) ?_|intro _));(all_goals (conv=>whnf))
 all_goals try (exfalso;omega)
 rename_i mb m0 hmus b12
 have hm1:MS w m0:=hm0.set (u:=(SV.el (some ⟨nb,no,none⟩) 0).val) (by rw [zm4];exact hn.sf) hmus
 refine zw VsG (fun g=>[(0,.el (some ⟨nb,no,none⟩) 0),(2,.v (.bool false)),(3,.mp 8 mb),(4,.sl 12 g.a g.l.length g.c)]) (fun g=>[.own 12 g.a g.l.length g.c qR 1 (nvS g.l),.mapE 8 mb .ptr g.m])
  (fun g=>(∀ x∈g.l,NdS w x)/\MS w g.m/\nsS g.l<=2199023255552) (fun g=>nsS g.l) ⟨[(nb,no,nr)],m0,some ⟨b12,0,none⟩,1⟩
  ⟨fun x hx=>by rw [List.mem_singleton.1 hx];exact hn,hm1,by simpa [nsS] using hn.sz⟩ (by (repeat ((conv=>whnf);refine vS ?_));exact trivial) (Ref.takes [12,8] rfl (.refl _)) ?_
 rintro ⟨l,m,a,c⟩ ⟨hl,hm,hsz⟩
 dsimp only at hl hm hsz ⊢
 rcases List.eq_nil_or_concat l with rfl|⟨init,x,rfl⟩
 ·(repeat' ((conv=>whnf);first|refine zh ?_|((first|apply zc|apply za|apply zd)<;>intro h<;>try (exfalso;omega))|refine pay ?_|intro _));(all_goals (conv=>whnf))
  all_goals first|(exfalso;simp at *;done)|skip
  exact ⟨⟨[],Ref.takes [] rfl (.nil _),rfl,true,rfl⟩⟩
 ·rw [List.concat_eq_append] at hl hsz ⊢
  have hx:NdS w x:=hl x (by simp)
  have hinit:∀ y∈init,NdS w y:=fun y hy=>hl y (by simp [hy])
  have hlen:(init++[x]).length=init.length+1:=by simp
  have hns:nsS (init++[x])=nsS init+x.2.2.size:=by simp [nsS]
  rw [hns] at hsz
  have hat:(nvS (init++[x]))[init.length]?=some (pV x.1 x.2.1):=by simp [nvS]
  have htk:(nvS (init++[x])).take init.length=nvS init:=by simp [nvS]
  have q0:(((init.length+1:Nat):Int) - 1).toNat=init.length:=by omega
  obtain ⟨xb,xo,xr⟩:=x
  obtain ⟨k,s,mn,mx,ps,pa,pc⟩:=xr
  have hxs:=hx.sz
  dsimp only at hxs hsz hns hat
  rw [RT.size] at hxs hsz
  have hps:=RT.len_sizes ps
  have hil:=zlB init
  have cV:=fun (W:World) (L':List Ent) (hR:R w [] L' W)=>(show Calls Tryz.prog yN #[(SV.el (some ⟨xb,xo,none⟩) 0).val] W _ from zdz (.mk k s mn mx ps pa pc) (by rw [RT.size];omega) xb xo W (hx.inn.cast hR (fun _ h=>by cases h)))
  have rd7:=fun {L:List Ent}=>hx.inn.cel.rd (L:=L) (k:=7) (v:=.slice pa ps.length pc) rfl
  rw [hlen,hns,RT.size]
  (repeat' ((conv=>whnf);first|rw [q0]|refine zek hat ?_|refine ⟨_,_,_,rd7,?_⟩|refine ⟨.el (some ⟨xb,xo,none⟩) 0,⟨rfl,trivial⟩,?_⟩|(refine zz (fun w' hR=>cV w' _ hR) ?_;rintro _ _ ⟨rfl,z,rfl,hVN⟩;refine ⟨.v _,rfl,?_⟩)|refine zh ?_|((first|apply zc|apply za|apply zd)<;>intro h<;>try (exfalso;omega))|refine pay ?_|refine And.intro (by first|exact (by simp)) ?_|intro _));(all_goals (conv=>whnf))
  all_goals try (exfalso;omega)
  ·exact ⟨⟨[],Ref.takes [] rfl (.nil _),rfl,false,rfl⟩⟩
  ·refine zw VtG (fun g=>[(0,.el (some ⟨nb,no,none⟩) 0),(2,.v (.bool false)),(3,.mp 8 mb),(4,.sl 12 g.a g.l.length g.c),(5,.el (some ⟨xb,xo,none⟩) 0),(33,.v (.slice pa ps.length pc)),(34,.v (.int .i64 (ps.length:Int))),(35,.v (.int .i64 (g.j:Int)))])
    (fun g=>[.own 12 g.a g.l.length g.c qR 1 (nvS g.l),.mapE 8 mb .ptr g.m])
    (fun g=>g.j<=ps.length/\(∀ x∈g.l,NdS w x)/\MS w g.m/\nsS g.l<=nsS init+RT.sizes (ps.take g.j)) (fun g=>ps.length - g.j) ⟨0,init,m,a,c⟩
    ⟨Nat.zero_le _,hinit,hm,Nat.le_add_right _ _⟩ (by (repeat ((conv=>whnf);refine vS ?_));exact trivial) (Ref.takes [12,8] rfl (.own rfl (by rw [Nat.mul_one,htk]) (.refl _))) ?_
   rintro ⟨j,l,m',a',c'⟩ ⟨hj,hl',hm',hns'⟩
   dsimp only at hj hl' hm' hns' ⊢
   have hst:=RT.sizes_take ps j
   have hll:=zlB l
   clear hlen hns hat htk
   by_cases hlt:j<ps.length
   ·obtain ⟨q,hq⟩:∃ q,ps[j]?=some q:=⟨_,g2q hlt⟩
    have hqm:q∈ps:=List.mem_of_getElem? hq
    have hqs:=RT.size_mem hqm
    obtain ⟨b0,o0,ha,hk⟩:=hx.kid hq
    subst ha
    have htk:ps.take (j+1)=ps.take j++[q]:=by rw [List.take_add_one,hq];rfl
    have e2:=RT.sizes_app (ps.take j) q
    rw [←htk] at e2
    have hst2:=RT.sizes_take ps (j+1)
    have q1:((j:Nat):Int).toNat=j:=by omega
    have hpk:=fun {L:List Ent}=>hm'.soft (L:=L) (o:=o0) (k:=j*8) hk.sf
    have hna:=zv3 l (b0,o0+j*8,q)
    have hva:nvS l++[(SV.el (some ⟨b0,o0,none⟩) (j*8)).val]=nvS (l++[(b0,o0+j*8,q)]):=by
     rw [←zv4,zm4]
    have hl1:(l++[((b0,o0+j*8,q):Nat × Nat × RT)]).length=l.length+1:=by simp
    have hmem:∀ x∈l++[((b0,o0+j*8,q):Nat × Nat × RT)],NdS w x:=fun x hx=>by
     rcases List.mem_append.1 hx with hx|hx
     ·exact hl' x hx
     ·rw [List.mem_singleton.1 hx];exact hk
    (repeat' ((conv=>whnf);first|rw [q1]|refine ⟨_,_,_,rd7,?_⟩|(refine ⟨⟨fun p hp=>?_,?_⟩⟩;(rw [(hm' p hp).2]))|refine zh ?_|((first|apply zc|apply za|apply zd)<;>intro h<;>try (exfalso;omega))|refine pay ?_|refine And.intro (by first|exact ⟨rfl,rfl,_,rfl⟩|exact hpk|exact (by simp)) ?_|intro _));(all_goals (conv=>whnf))
    all_goals try (exfalso;omega)
    ·exact zi (⟨j+1,l,m',a',c'⟩:VtG) ⟨hlt,hl',hm',by dsimp only;omega⟩ (by dsimp only;omega) (by (repeat ((conv=>whnf);refine vS ?_));exact trivial) (Ref.takes [12,8] rfl (.refl _))
    ·rename_i m2 hmus2 b52 a2 c2
     exact zi (⟨j+1,l++[(b0,o0+j*8,q)],m2,a2,c2⟩:VtG) ⟨hlt,hmem,hm'.set (u:=(SV.el (some ⟨b0,o0,none⟩) (j*8)).val) (by rw [zm4];exact hk.sf) hmus2,by dsimp only;rw [hna];dsimp only;omega⟩ (by dsimp only;omega) (by dsimp only;rw [hl1];(repeat ((conv=>whnf);refine vS ?_));exact trivial) (Ref.takes [12,8] rfl (.own hl1.symm hva (.refl _)))
   ·obtain rfl:j=ps.length:=by omega
    (repeat' ((conv=>whnf);first|refine zh ?_|((first|apply zc|apply za|apply zd)<;>intro h<;>try (exfalso;omega))|refine pay ?_|intro _));(all_goals (conv=>whnf))
    all_goals try (exfalso;omega)
    exact zi (⟨l,m',a',c'⟩:VsG) ⟨hl',hm',by dsimp only;omega⟩ (by dsimp only;omega) (by (repeat ((conv=>whnf);refine vS ?_));exact trivial) (Ref.takes [12,8] rfl (.refl _))
def nsQ (bm:Nat) (m0:Nat) (r:RT) (v:Value) (L1:List Ent):Prop:=∃ (p q:Int) (ok:Bool) (m:Nat),v=.tuple #[.int .i64 p,.int .i64 q,.bool ok]/\(ok=true->m=m0+r.size/\m<=256)/\L1=[.box 7100 bm [.int .i64 (m:Int)] xw]
theorem zmO (k:Int) (s:Ls) (mn mx:Int) (ps:List RT) (a:Option Addr) (c:Nat) (b off:Nat) (w:World) (hin:NdIn w [] b off (.mk k s mn mx ps a c)) :
 Calls Tryz.prog y9 #[pV b off] w fun e w'=>e=.returned (.int .i64 (if mx=-1 then max mn 1 else mx))/\Ext w w':=by
 refine zF [.el (some ⟨b,off,none⟩) 0] w zdw (by simp) ?_
 have rd5:=fun {L:List Ent}=>hin.cel.rd (L:=L) (k:=5) (v:=.int .i64 mn) rfl
 have rd6:=fun {L:List Ent}=>hin.cel.rd (L:=L) (k:=6) (v:=.int .i64 mx) rfl
 by_cases hm:mx=-1
 ·have e:(if mx=-1 then max mn 1 else mx)=max mn 1:=by rw [if_pos hm]
  (repeat' ((conv=>whnf);first|refine ⟨_,rd5,?_⟩|refine ⟨_,rd6,?_⟩|((first|apply zc|apply za|apply zd)<;>intro h<;>try (exfalso;omega))|refine pay ?_|refine And.intro (by first|exact (by simp)) ?_|intro _));(all_goals (conv=>whnf))
  all_goals try (exfalso;omega)
  exact ⟨by rw [e]⟩
 ·have e:(if mx=-1 then max mn 1 else mx)=mx:=by rw [if_neg hm]
  (repeat' ((conv=>whnf);first|refine ⟨_,rd5,?_⟩|refine ⟨_,rd6,?_⟩|((first|apply zc|apply za|apply zd)<;>intro h<;>try (exfalso;omega))|refine pay ?_|refine And.intro (by first|exact (by simp)) ?_|intro _));(all_goals (conv=>whnf))
  all_goals try (exfalso;omega)
  exact ⟨by rw [e]⟩
structure NsG where
 j:Nat
 m:Nat
 p:Int
 q:Int
theorem zia:∀ (N:Nat) (r:RT),r.size<=N->∀ (b off bm m0 d:Nat),m0<=256->d<=33->∀ (fp:List Nat) (w:World),NdIn w fp b off r->R w fp [.box 7100 bm [.int .i64 (m0:Int)] xw] w ->
 Calls Tryz.prog zP #[pS bm,pV b off,.int .i64 (d:Int)] w fun e w'=>∃ v L1,e=.returned v/\R w fp L1 w'/\nsQ bm m0 r v L1
 | 0,.mk k s mn mx ps a c,hN=>by rw [RT.size] at hN;omega
 | N + 1,.mk k s mn mx ps a c,hN => by
   intro b off bm m0 d hm0 hd fp w hin hR
   have IH:=zia N
   have hsz:(RT.mk k s mn mx ps a c).size=RT.sizes ps+1:=by rw [RT.size]
   rw [hsz] at hN
   have hps:=RT.len_sizes ps
   refine zr [.ptr 7100 bm 0,.el (some ⟨b,off,none⟩) 0,.v (.int .i64 (d:Int))] zuT (by simp) hR ?_
   have rd0:=fun {L:List Ent}=>hin.cel.rd (L:=L) (k:=0) (v:=.int .i64 k) rfl
   have rd7:=fun {L:List Ent}=>hin.cel.rd (L:=L) (k:=7) (v:=.slice a ps.length c) rfl
   by_cases hb:256<m0+1∨32<d
   ·(repeat' ((conv=>whnf);first|refine zh ?_|((first|apply zc|apply za|apply zd)<;>intro h<;>try (exfalso;omega))|refine pay ?_|refine And.intro (by first|exact (by simp)) ?_|intro _));(all_goals (conv=>whnf))
    all_goals try (exfalso;omega)
    all_goals exact ⟨⟨_,Ref.takes [7100] rfl (.refl _),0,0,false,m0+1,rfl,(fun h=>by cases h),rfl⟩⟩
   ·by_cases hk2:k=2
    all_goals
     (repeat' ((conv=>whnf);first|refine ⟨_,rd0,?_⟩|refine ⟨_,_,_,rd7,?_⟩|refine zh ?_|((first|apply zc|apply za|apply zd)<;>intro h<;>try (exfalso;omega))|refine pay ?_|refine And.intro (by first|exact (by simp)) ?_|intro _));(all_goals (conv=>whnf))
    all_goals try (exfalso;omega)
    all_goals
     refine zw NsG (fun g=>[(0,.ptr 7100 bm 0),(1,.el (some ⟨b,off,none⟩) 0),(2,.v (.int .i64 (d:Int))),(6,.v (.int .i64 g.p)),(7,.v (.int .i64 g.q)),(8,.v (.bool false)),(37,.v (.slice a ps.length c)),(38,.v (.int .i64 (ps.length:Int))),(39,.v (.int .i64 (g.j:Int)))])
      (fun g=>[.box 7100 bm [.int .i64 (g.m:Int)] xw]) (fun g=>g.j<=ps.length/\g.m=m0+1+RT.sizes (ps.take g.j)/\g.m<=256) (fun g=>ps.length - g.j)
      ⟨0,m0+1,_,_⟩ ⟨Nat.zero_le _,rfl,by dsimp only;omega⟩ (by dsimp only;(repeat ((conv=>whnf);refine vS ?_));exact trivial) (Ref.takes [7100] rfl (.box (by rw [Int.natCast_succ]) (.refl _))) ?_
    all_goals
     rintro ⟨j,m,P,Q⟩ ⟨hj,hm,hm2⟩
     dsimp only at hj hm hm2 ⊢
     have c3:RT.sizes (ps.take j)<=256:=by omega
     have c5:j<=256:=by have h:=RT.len_sizes (ps.take j);rw [List.length_take] at h;omega
     by_cases hlt:j<ps.length
    all_goals first
     | (exfalso;omega)
     | (rename (¬j<ps.length)=>hge;skip)
     | (rename (j < ps.length) => hlt
        obtain ⟨q,hq⟩:∃ q,ps[j]?=some q:=⟨_,g2q hlt⟩
        have hqm:q∈ps:=List.mem_of_getElem? hq
        have hqs:=RT.size_mem hqm
        obtain ⟨b0,o0,ha,hk⟩:=hin.kid hq
        subst ha
        have htk:ps.take (j+1)=ps.take j++[q]:=by rw [List.take_add_one,hq];rfl
        have e3:=RT.sizes_app (ps.take j) q
        rw [←htk] at e3
        have q0:((j:Nat):Int).toNat=j:=by omega
        have hd1:((d+1:Nat):Int)=(d:Int)+1:=rfl
        have cN:=fun (fp':List Nat) (W:World) hI hR=>(show Calls Tryz.prog zP #[pS bm,(SV.el (some ⟨b0,o0,none⟩) (j*8)).val,.int .i64 ((d:Int)+1)] W _ by
         have hv:(SV.el (some ⟨b0,o0,none⟩) (j*8)).val=pV b0 (o0+j*8):=by simp [SV.val,qo]
         rw [hv,←hd1]
         exact IH q (by omega) b0 (o0+j*8) bm m (d+1) (by omega) (by omega) fp' W hI hR)
        (repeat' ((conv=>whnf);first|rw [q0]|refine ⟨_,rd0,?_⟩|refine ⟨_,_,_,rd7,?_⟩|(refine zD [7100] rfl (fun w' hR hR0=>cN _ w' (hk.castL hR) hR0) ?_;rintro _ _ ⟨p',q',ok',m',rfl,hok,rfl⟩;rcases ok' with _|_;all_goals (try obtain ⟨hm3,hm4⟩:=hok rfl);all_goals refine ⟨.v _,rfl,?_⟩)|refine zh ?_|((first|apply zc|apply za|apply zd)<;>intro h<;>try (exfalso;omega))|refine pay ?_|refine And.intro (by first|exact (by simp)) ?_|intro _));(all_goals (conv=>whnf))
        all_goals try (exfalso;omega)
        all_goals first
         | exact ⟨⟨_,Ref.takes [7100] rfl (.refl _),0,0,false,m',rfl,(fun h=>Bool.noConfusion h),rfl⟩⟩
         | exact zi (⟨j+1,m',_,_⟩:NsG) ⟨hlt,by dsimp only;omega,by dsimp only;omega⟩ (by dsimp only;omega) (by dsimp only;(repeat ((conv=>whnf);refine vS ?_));exact trivial) (Ref.takes [7100] rfl (.refl _)))
    all_goals
     have hje:j=ps.length:=by omega
     subst hje
     rw [List.take_length] at hm c3
     by_cases h5:k=5
    all_goals first
     | (exfalso;omega)
     | (rename (¬k=5)=>h5;skip)
     | (rename (k = 5) => h5
        have cC:=fun (W:World) (L':List Ent) (hR:R w fp L' W)=>zmO k s mn mx ps a c b off W (hin.cast hR (by simp))
        (repeat' ((conv=>whnf);first|refine ⟨_,rd0,?_⟩|refine ⟨_,_,_,rd7,?_⟩|refine zm (.v (.int .i64 _)) (fun w' hR=>cC w' _ hR) ?_|refine zh ?_|((first|apply zc|apply za|apply zd)<;>intro h<;>try (exfalso;omega))|refine pay ?_|refine And.intro (by first|exact (by simp)) ?_|intro _));(all_goals (conv=>whnf))
        all_goals try (exfalso;omega)
        all_goals exact ⟨⟨_,Ref.takes [7100] rfl (.refl _),_,_,true,m,rfl,fun _=>⟨by rw [hsz];omega,hm2⟩,rfl⟩⟩)
    all_goals
     rename (¬k=5)=>h5
     (repeat' ((conv=>whnf);first|refine ⟨_,rd0,?_⟩|refine ⟨_,_,_,rd7,?_⟩|refine zh ?_|((first|apply zc|apply za|apply zd)<;>intro h<;>try (exfalso;omega))|refine pay ?_|refine And.intro (by first|exact (by simp)) ?_|intro _));(all_goals (conv=>whnf))
    all_goals try (exfalso;omega)
    all_goals exact ⟨⟨_,Ref.takes [7100] rfl (.refl _),_,_,true,m,rfl,fun _=>⟨by rw [hsz];omega,hm2⟩,rfl⟩⟩
def meQ (r:RT) (v:Value) (L1:List Ent):Prop:=L1=[]/\((∃ p:Int,r.size<=256/\v=.tuple #[.int .i64 p,.nilIface])∨∃ n,v=.tuple #[.int .i64 0,yg n])
theorem zlC (r:RT) (b off:Nat) (w:World) (hin:NdIn w [] b off r) :
 Calls Tryz.prog vX #[pV b off] w fun e w'=>∃ v L1,e=.returned v/\R w [] L1 w'/\meQ r v L1:=by
 refine zQ [.el (some ⟨b,off,none⟩) 0] zc0 (by simp) ?_
 have cN:=fun (bm:Nat) (fp:List Nat) (W:World) hI hR=>(show Calls Tryz.prog zP #[pS bm,(SV.el (some ⟨b,off,none⟩) 0).val,.int .i64 1] W _ from zia r.size r (Nat.le_refl _) b off bm 0 1 (by omega) (by omega) fp W hI hR)
 unfold nsQ at cN
 (repeat' ((conv=>whnf);first|(refine zD [4] rfl (fun w' hR hR0=>cN _ _ w' (hin.castL hR) (Ref.takes [4] rfl (.box rfl (.nil _)) w' hR0)) ?_;rintro _ _ ⟨p',q',ok',m',rfl,hok,rfl⟩;rcases ok' with _|_;all_goals (try obtain ⟨hm3,hm4⟩:=hok rfl);all_goals refine ⟨.v _,rfl,?_⟩)|refine zh ?_|((first|apply zc|apply za|apply zd)<;>intro h<;>try (exfalso;omega))|refine pay ?_|intro _));(all_goals (conv=>whnf))
 all_goals try (exfalso;omega)
 all_goals first
  | exact ⟨⟨[],Ref.takes [] rfl (.nil _),rfl,.inr ⟨9,rfl⟩⟩⟩
  | exact ⟨⟨[],Ref.takes [] rfl (.nil _),rfl,.inl ⟨_,by omega,rfl⟩⟩⟩
def rsQ (r:RT) (v:Value) (L1:List Ent):Prop:=L1=[]/\((r.size<=256/\v=.nilIface)∨∃ n,v=yg n)
theorem ztk {w0 w:World} {L:List Ent} {key b T:Nat} {r:RT} (hR:R w0 [] L w) (hb:yh key L=some (b,r.cells,T)) (hin:RIn w0 [] r) (hpl:RSf w0 r) (hs:r.size<=2199023255552):NdS w (b,0,r):=by
 refine ⟨⟨In.box hR hb,fun x hx=>(hin x hx).cast hR (fun _ h=>by cases h)⟩,?_,hpl.later hR,hs⟩
 intro ad he
 cases he
 have h:=zch hR hb
 exact ⟨_,_,_,h,by simp [World.frozen?,h]⟩
theorem zf4 (r:RT) (hs:r.size<=2199023255552) (w:World) (hin:RIn w [] r) (hpl:RSf w r) :
 Calls Tryz.prog xv #[r.v] w fun e w'=>∃ v L1,e=.returned v/\R w [] L1 w'/\rsQ r v L1:=by
 refine zQ [.v r.v] zeB (by simp) ?_
 have cV:=fun (b:Nat) (W:World) (L':List Ent) (hR:R w [] L' W) (hb:yh 1 L'=some (b,r.cells,zC))=>zo8 b 0 r W (ztk hR hb hin hpl hs)
 have cM:=fun (b:Nat) (W:World) (L':List Ent) (hR:R w [] L' W) (hb:yh 1 L'=some (b,r.cells,zC))=>zlC r b 0 W (ztk hR hb hin hpl hs).inn
 obtain ⟨k,s,mn,mx,ps,a,c⟩:=r
 (repeat' ((conv=>whnf);first|(refine zz (fun w' hR=>cV _ w' _ hR rfl) ?_;rintro _ _ ⟨rfl,z,rfl⟩;refine ⟨.v _,rfl,?_⟩)|(refine zz (fun w' hR=>cM _ w' _ hR rfl) ?_;rintro _ _ ⟨rfl,⟨p,hsz,rfl⟩|⟨n,rfl⟩⟩;all_goals refine ⟨.v _,rfl,?_⟩)|refine zh ?_|((first|apply zc|apply za|apply zd)<;>intro h<;>try (exfalso;omega))|refine pay ?_|intro _));(all_goals (conv=>whnf))
 all_goals try (exfalso;omega)
 all_goals first
  | exact ⟨⟨[],Ref.takes [] rfl (.nil _),rfl,.inl ⟨hsz,rfl⟩⟩⟩
  | exact ⟨⟨[],Ref.takes [] rfl (.nil _),rfl,.inr ⟨_,rfl⟩⟩⟩
abbrev lsO:Ls:=⟨0,0,0,0,by decide,by decide,by decide,by decide⟩
abbrev z0R:RT:=.mk 0 lsO 0 0 [] none 0
abbrev rO8:List Value:=[.int .i64 0,.int .u64 0,.int .u64 0,.int .u64 0,.int .u64 0,.int .i64 0,.int .i64 0,.slice none 0 0]
theorem zmf:∀ n:Nat,(List.replicate n rO8).flatten=rtL (List.replicate n z0R)
 | 0=>rfl
 | n + 1 => by
   have ih:=zmf n
   rw [List.replicate_succ,List.flatten_cons,ih];rfl
theorem zfW:∀ {l:List RT} {j:Nat} {q:RT},j<l.length->zv (rtL l) (j*8) q.cells=rtL (l.set j q)
 | [],j,q,h=>absurd h (by simp)
 | t :: l,0,q,h => by
   have e:rtL (t::l)=t.cells++rtL l:=rfl
   have e2:rtL ((t::l).set 0 q)=q.cells++rtL l:=rfl
   have h1:=RT.cells_len t
   have h2:=RT.cells_len q
   unfold zv
   rw [e,e2,Nat.zero_mul,List.take_zero,List.nil_append,Nat.zero_add,h2,←h1,List.drop_left]
 | t :: l,j + 1,q,h => by
   have ih:=zfW (l:=l) (j:=j) (q:=q) (by simpa using h)
   have e:rtL (t::l)=t.cells++rtL l:=rfl
   have e2:rtL ((t::l).set (j+1) q)=t.cells++rtL (l.set j q):=rfl
   have h1:=RT.cells_len t
   rw [e,e2,←ih]
   unfold zv
   rw [show (j+1)*8=t.cells.length+j*8 by omega,List.take_length_add_append,Nat.add_assoc,List.drop_length_add_append]
   simp only [List.append_assoc]
def rvR (k:Int) (n:Nat) (D:List RT):List RT:=if k=3 then List.replicate (n - D.length) z0R++D.reverse else D++List.replicate (n - D.length) z0R
theorem zqS {k:Int} {n:Nat} {D:List RT} (h:D.length<=n):(rvR k n D).length=n:=by
 unfold rvR
 split
 ·simp;omega
 ·simp;omega
theorem zv5 {k:Int} {n:Nat} {D:List RT} (h:D.length<n) (q:RT):(rvR k n D).set (if k=3 then n - 1 - D.length else D.length) q=rvR k n (D++[q]):=by
 have e:n - D.length=(n - (D.length+1))+1:=by omega
 unfold rvR
 rw [g6q,List.length_singleton]
 by_cases h3:k=3
 ·rw [if_pos h3,if_pos h3,if_pos h3,List.reverse_append,e,List.replicate_succ',List.append_assoc]
  rw [List.set_append_right _ _ (by simp;omega)]
  simp only [List.length_replicate]
  rw [show n - 1 - D.length - (n - (D.length+1))=0 by omega]
  rfl
 ·rw [if_neg h3,if_neg h3,if_neg h3,e,List.replicate_succ,List.set_append_right _ _ (Nat.le_refl _),Nat.sub_self,List.append_assoc]
  rfl
def rvQ (r:RT) (v:Value) (L1:List Ent):Prop:=∃ k s mn mx ps a c F,v=RT.v (.mk k s mn mx ps a c)/\L1=[frP 90 F]/\r.Rv (.mk k s mn mx ps a c)/\RF F (.mk k s mn mx ps a c)
structure RvG where
 D:List RT
 F:List Frz
theorem zf5:∀ (N:Nat) (r:RT),r.size<=N->N<=256->∀ (w:World),RIn w [] r ->
 Calls Tryz.prog v7 #[r.v] w fun e w'=>∃ v L1,e=.returned v/\R w [] L1 w'/\rvQ r v L1
 | 0,.mk k s mn mx ps a c,hN=>by rw [RT.size] at hN;omega
 | N + 1,.mk k s mn mx ps a c,hN => by
   intro hN2 w hin
   have IH:=zf5 N
   rw [RT.size] at hN
   have hps:=RT.len_sizes ps
   refine zQ [.v (RT.v (.mk k s mn mx ps a c))] zjj (by simp) ?_
   by_cases h0:ps.length=0
   ·(repeat' ((conv=>whnf);first|refine zh ?_|((first|apply zc|apply za|apply zd)<;>intro h<;>try (exfalso;omega))|refine pay ?_|intro _));(all_goals (conv=>whnf))
    all_goals try (exfalso;omega)
    refine ⟨⟨_,(Ref.frzP0 90).trans (Ref.takes [90] rfl (.refl _)),k,s,mn,mx,[],none,0,[],rfl,rfl,?_,fun x hx=>?_⟩⟩
    ·obtain rfl:=List.length_eq_zero_iff.1 h0
     rw [RT.Rv]
     refine ⟨rfl,rfl,rfl,rfl,?_⟩
     have e:(if k=3 then ([]:List RT).reverse else [])=[]:=by split<;>rfl
     rw [e,RT.Rvs];trivial
    ·rw [RT.rows,RT.rowss] at hx
     rw [List.mem_singleton.1 hx];exact .inl rfl
   ·obtain ⟨n,hn⟩:∃ n,ps.length=n:=⟨_,rfl⟩
    have qn:((n:Nat):Int).toNat=n:=by omega
    have hz:=zmf n
    rw [hn] at h0 hps
    have hr0:rvR k n []=List.replicate n z0R:=by unfold rvR;split<;>simp
    have hcell:RT.cells (.mk k s mn mx ps a c)=[.int .i64 k,.int .u64 (s.a:Int),.int .u64 (s.b:Int),.int .u64 (s.c:Int),.int .u64 (s.d:Int),.int .i64 mn,.int .i64 mx,.slice a n c]:=by rw [←hn];rfl
    have hv:RT.v (.mk k s mn mx ps a c)=.agg #[.int .i64 k,.int .u64 (s.a:Int),.int .u64 (s.b:Int),.int .u64 (s.c:Int),.int .u64 (s.d:Int),.int .i64 mn,.int .i64 mx,.slice a n c]:=by unfold RT.v;rw [hcell]
    rw [hv]
    (repeat' ((conv=>whnf);first|rw [qn]|refine zh ?_|((first|apply zc|apply za|apply zd)<;>intro h<;>try (exfalso;omega))|refine pay ?_|intro _));(all_goals (conv=>whnf))
    all_goals try (exfalso;omega)
    rename_i b1 b2 b16
    rw [hz,←hr0]
    refine zw RvG (fun g=>[(1,.ptr 1 b1 0),(2,.ptr 2 b2 0),(3,.v (.int .i64 (n:Int))),(4,.sl 16 (some ⟨b16,0,none⟩) n n),(18,.v (.slice a n c)),(19,.v (.int .i64 (n:Int))),(20,.v (.int .i64 (g.D.length:Int)))])
     (fun g=>[.box 1 b1 [.int .i64 k,.int .u64 (s.a:Int),.int .u64 (s.b:Int),.int .u64 (s.c:Int),.int .u64 (s.d:Int),.int .i64 mn,.int .i64 mx,.slice a n c] zC,.box 2 b2 rO8 zC,.own 16 (some ⟨b16,0,none⟩) n n zC 8 (rtL (rvR k n g.D)),frP 90 g.F])
     (fun g=>g.D.length<=n/\RT.Rvs (ps.take g.D.length) g.D/\∀ q∈g.D,RF g.F q) (fun g=>n - g.D.length) ⟨[],[]⟩
     ⟨Nat.zero_le _,by dsimp only;rw [List.length_nil,List.take_zero,RT.Rvs];trivial,fun q h=>by cases h⟩ (by (repeat ((conv=>whnf);refine vS ?_));exact trivial) ((Ref.frzP0 90).trans (Ref.takes [1,2,16,90] rfl (.refl _))) ?_
    rintro ⟨D,F⟩ ⟨hD,hRv,hRF⟩
    dsimp only at hD hRv hRF ⊢
    obtain ⟨i,hi⟩:∃ i,D.length=i:=⟨_,rfl⟩
    rw [hi] at hD hRv ⊢
    by_cases hlt:i<n
    ·obtain ⟨q,hq⟩:∃ q,ps[i]?=some q:=⟨_,g2q (by omega)⟩
     have hqm:q∈ps:=List.mem_of_getElem? hq
     have hqs:=RT.size_mem hqm
     have rdq:=fun {L:List Ent}=>hin.rdp (L:=L) hq
     have hne:a≠none:=hin.row.ne' (k:=i*8) (by rw [vG];omega)
     have hinq:=hin.kid hqm
     have q0:((i:Nat):Int).toNat=i:=by omega
     have cR:=fun (W:World) (L':List Ent) (hR:R w [] L' W)=>IH q (by omega) (by omega) W (fun x hx=>(hinq x hx).cast hR (fun _ h=>by cases h))
     have hset:=fun q'=>zv5 (k:=k) (n:=n) (D:=D) (by omega) q'
     have hlr:(rvR k n D).length=n:=zqS (by omega)
     have hll:=vG (rvR k n D)
     rw [hlr] at hll
     rw [hi] at hset
     obtain ⟨k',s',mn',mx',ps',a',c'⟩:=q
     by_cases h3:k=3
     ·simp only [if_pos h3] at hset
      have hsp:∀ (k2:Int) (s2:Ls) (mn2 mx2:Int) (ps2:List RT) (a2:Option Addr) (c2:Nat),zv (rtL (rvR k n D)) ((n - 1 - i)*8) [.int .i64 k2,.int .u64 (s2.a:Int),.int .u64 (s2.b:Int),.int .u64 (s2.c:Int),.int .u64 (s2.d:Int),.int .i64 mn2,.int .i64 mx2,.slice a2 ps2.length c2]=rtL (rvR k n (D++[RT.mk k2 s2 mn2 mx2 ps2 a2 c2])):=fun k2 s2 mn2 mx2 ps2 a2 c2=>by
       rw [←hset];exact zfW (l:=rvR k n D) (j:=n - 1 - i) (q:=RT.mk k2 s2 mn2 mx2 ps2 a2 c2) (by omega)
      have q1:(((n:Nat):Int) - 1 - ((i:Nat):Int)).toNat=n - 1 - i:=by omega
      (repeat' ((conv=>whnf);first|rw [q0]|rw [q1]|rw [hsp]|refine ⟨RT.cells (.mk k' s' mn' mx' ps' a' c'),rfl,rdq,?_⟩|(refine zz (fun w' hR=>cR w' _ hR) ?_;rintro _ _ ⟨k2,s2,mn2,mx2,ps2,a2,c2,F2,rfl,rfl,hq2,hF2⟩;refine ⟨.v _,rfl,?_⟩)|refine ⟨.sl 16 _ _ _,⟨rfl,rfl,rfl,rfl⟩,?_⟩|refine zh ?_|((first|apply zc|apply za|apply zd)<;>intro h<;>try (exfalso;omega))|refine pay ?_|intro _));(all_goals (conv=>whnf))
      all_goals try (exfalso;omega)
      have hln:(D++[RT.mk k2 s2 mn2 mx2 ps2 a2 c2]).length=i+1:=by rw [g6q,hi];rfl
      refine zi (⟨D++[RT.mk k2 s2 mn2 mx2 ps2 a2 c2],F2++F⟩:RvG) ⟨by dsimp only;rw [hln];exact hlt,by dsimp only;rw [hln,List.take_add_one,hq];exact RT.Rvs_snoc hRv hq2,fun q' hq'=>?_⟩ (by dsimp only;rw [hln];omega) (by dsimp only;rw [hln];(repeat ((conv=>whnf);refine vS ?_));exact trivial) ((Ref.takes [90,90,1,2,16] rfl (.refl _)).trans (Ref.frzPm.trans (Ref.takes [1,2,16,90] rfl (.refl _))))
      rcases List.mem_append.1 hq' with hq'|hq'
      ·exact (hRF q' hq').mono fun f hf=>List.mem_append_right _ hf
      ·rw [List.mem_singleton.1 hq']
       exact hF2.mono fun f hf=>List.mem_append_left _ hf
     ·simp only [if_neg h3] at hset
      have hsp:∀ (k2:Int) (s2:Ls) (mn2 mx2:Int) (ps2:List RT) (a2:Option Addr) (c2:Nat),zv (rtL (rvR k n D)) ((i)*8) [.int .i64 k2,.int .u64 (s2.a:Int),.int .u64 (s2.b:Int),.int .u64 (s2.c:Int),.int .u64 (s2.d:Int),.int .i64 mn2,.int .i64 mx2,.slice a2 ps2.length c2]=rtL (rvR k n (D++[RT.mk k2 s2 mn2 mx2 ps2 a2 c2])):=fun k2 s2 mn2 mx2 ps2 a2 c2=>by
       rw [←hset];exact zfW (l:=rvR k n D) (j:=i) (q:=RT.mk k2 s2 mn2 mx2 ps2 a2 c2) (by omega)
      have q1:((i:Nat):Int).toNat=i:=q0
      (repeat' ((conv=>whnf);first|rw [q0]|rw [q1]|rw [hsp]|refine ⟨RT.cells (.mk k' s' mn' mx' ps' a' c'),rfl,rdq,?_⟩|(refine zz (fun w' hR=>cR w' _ hR) ?_;rintro _ _ ⟨k2,s2,mn2,mx2,ps2,a2,c2,F2,rfl,rfl,hq2,hF2⟩;refine ⟨.v _,rfl,?_⟩)|refine ⟨.sl 16 _ _ _,⟨rfl,rfl,rfl,rfl⟩,?_⟩|refine zh ?_|((first|apply zc|apply za|apply zd)<;>intro h<;>try (exfalso;omega))|refine pay ?_|intro _));(all_goals (conv=>whnf))
      all_goals try (exfalso;omega)
      have hln:(D++[RT.mk k2 s2 mn2 mx2 ps2 a2 c2]).length=i+1:=by rw [g6q,hi];rfl
      refine zi (⟨D++[RT.mk k2 s2 mn2 mx2 ps2 a2 c2],F2++F⟩:RvG) ⟨by dsimp only;rw [hln];exact hlt,by dsimp only;rw [hln,List.take_add_one,hq];exact RT.Rvs_snoc hRv hq2,fun q' hq'=>?_⟩ (by dsimp only;rw [hln];omega) (by dsimp only;rw [hln];(repeat ((conv=>whnf);refine vS ?_));exact trivial) ((Ref.takes [90,90,1,2,16] rfl (.refl _)).trans (Ref.frzPm.trans (Ref.takes [1,2,16,90] rfl (.refl _))))
      rcases List.mem_append.1 hq' with hq'|hq'
      ·exact (hRF q' hq').mono fun f hf=>List.mem_append_right _ hf
      ·rw [List.mem_singleton.1 hq']
       exact hF2.mono fun f hf=>List.mem_append_left _ hf
    ·obtain rfl:i=n:=by omega
     (repeat' ((conv=>whnf);first|refine zh ?_|((first|apply zc|apply za|apply zd)<;>intro h<;>try (exfalso;omega))|refine pay ?_|intro _));(all_goals (conv=>whnf))
     all_goals try (exfalso;omega)
     rw [←hn,List.take_length] at hRv
     have hqs:(rvR k i D).length=i:=zqS (by omega)
     have hD0:(if k=3 then (rvR k i D).reverse else rvR k i D)=D:=by
      unfold rvR
      rw [hi,Nat.sub_self]
      split<;>simp
     refine ⟨⟨_,(Ref.takes [16,90] rfl (.refl _)).trans Ref.frzP,k,s,mn,mx,rvR k i D,some ⟨b16,0,none⟩,i,_,?_,rfl,?_,fun x hx=>?_⟩⟩
     ·unfold RT.v RT.cells
      dsimp only
      rw [hqs];rfl
     ·rw [RT.Rv]
      exact ⟨rfl,rfl,rfl,rfl,by rw [hD0];exact hRv⟩
     ·rw [RT.rows] at hx
      rcases List.mem_cons.1 hx with rfl|hx
      ·refine .inr ⟨_,g5q,rfl,rfl,fun h=>?_⟩
       have:=congrArg List.length h
       rw [vG,hqs] at this
       simp at this;omega
      ·have:∃ q∈D,x∈q.rows:=by
        have hm:∀ {l:List RT},x∈RT.rowss l->∃ q∈l,x∈q.rows:=by
         intro l
         induction l with
         | nil=>intro h;rw [RT.rowss] at h;cases h
         | cons p l ih =>
           intro h
           rw [RT.rowss] at h
           rcases List.mem_append.1 h with h|h
           ·exact ⟨p,g5q,h⟩
           ·obtain ⟨q,hq,hxq⟩:=ih h
            exact ⟨q,g4q _ hq,hxq⟩
        obtain ⟨q,hq,hxq⟩:=hm hx
        refine ⟨q,?_,hxq⟩
        rw [←hD0]
        split
        ·exact List.mem_reverse.2 hq
        ·exact hq
       obtain ⟨q,hq,hxq⟩:=this
       exact (hRF q hq).mono (fun f hf=>g4q _ hf) x hxq
def reQ (r:RT) (v:Value) (L1:List Ent):Prop:=(∃ n,v=.tuple #[.agg rO8.toArray,yg n]/\L1=[]) ∨
 ∃ k s mn mx ps a c F,v=.tuple #[RT.v (.mk k s mn mx ps a c),.nilIface]/\L1=[frP 90 F]/\r.Rv (.mk k s mn mx ps a c)/\RF F (.mk k s mn mx ps a c)/\r.size<=256
theorem zmP (r:RT) (hs:r.size<=2199023255552) (w:World) (hin:RIn w [] r) (hpl:RSf w r) :
 Calls Tryz.prog jH #[r.v] w fun e w'=>∃ v L1,e=.returned v/\R w [] L1 w'/\reQ r v L1:=by
 refine zQ [.v r.v] zjh (by simp) ?_
 have cC:=fun (W:World) (L':List Ent) (hR:R w [] L' W)=>zf4 r hs W (fun x hx=>(hin x hx).cast hR (fun _ h=>by cases h)) (hpl.later hR)
 have cR:=fun (hsz:r.size<=256) (W:World) (L':List Ent) (hR:R w [] L' W)=>zf5 r.size r (Nat.le_refl _) hsz W (fun x hx=>(hin x hx).cast hR (fun _ h=>by cases h))
 have hrc:∃ k s mn mx ps a c,r=.mk k s mn mx ps a c:=by cases r;exact ⟨_,_,_,_,_,_,_,rfl⟩
 obtain ⟨k,s,mn,mx,ps0,a,c,hr⟩:=hrc
 have hrv:r.v=RT.v (.mk k s mn mx ps0 a c):=by rw [hr]
 rw [hrv] at cC cR ⊢
 (repeat' ((conv=>whnf);first|(refine zz (fun w' hR=>cC w' _ hR) ?_;rintro _ _ ⟨rfl,⟨hsz,rfl⟩|⟨n,rfl⟩⟩;all_goals refine ⟨.v _,rfl,?_⟩)|(refine zz (fun w' hR=>cR hsz w' _ hR) ?_;rintro _ _ ⟨k2,s2,mn2,mx2,ps2,a2,c2,F2,rfl,rfl,hq2,hF2⟩;refine ⟨.v _,rfl,?_⟩)|refine zh ?_|((first|apply zc|apply za|apply zd)<;>intro h<;>try (exfalso;omega))|refine pay ?_|intro _));(all_goals (conv=>whnf))
 all_goals try (exfalso;omega)
 ·exact ⟨⟨_,Ref.takes [90] rfl (.refl _),.inr ⟨k2,s2,mn2,mx2,ps2,a2,c2,F2,rfl,rfl,hq2,hF2,hsz⟩⟩⟩
 ·exact ⟨⟨[],Ref.takes [] rfl (.nil _),.inl ⟨n,rfl,rfl⟩⟩⟩
abbrev m0V:Value:=.agg #[.int .i64 0,.slice none 0 0,.slice none 0 0,.slice none 0 0]
def lnQ (key:Nat) (G:Prop) (L:List Nat->Prop) (v:Value) (L1:List Ent):Prop:=(∃ n,v=.tuple #[m0V,yg n]/\L1=[]) ∨
 ∃ y F kc,v=.tuple #[MA.v y,.nilIface]/\L1=[frE key F]/\MFz F y/\MOk y.m kc/\(∀ t,BT t->(lng y.m y.m.start.toNat t=true↔L t))/\G
theorem zpS (r:RT) (hs:r.size<=2199023255552) (hV:r.Vl) (hps:r.pos<=64) (w:World) (hin:RIn w [] r) (hpl:RSf w r) :
 Calls Tryz.prog xv #[r.v] w fun e w'=>∃ v L1,e=.returned v/\R w [] L1 w'/\rcQ r v L1 :=
 (zf4 r hs w hin hpl).mono fun e w' ⟨v,L1,he,hR,hL,h⟩=>⟨v,L1,he,hR,hL,h.imp (fun h=>⟨hps,h.1,hV,h.2⟩) id⟩
theorem ztl (key:Nat) (r:RT) (hs:r.size<=2199023255552) (w:World) (hG:Tab w) (hin:RIn w [] r) (hpl:RSf w r) (hV:r.Vl) (hps:r.pos<=64) :
 Calls Tryz.prog zbw #[r.v] w fun e w'=>∃ v L1,e=.returned v/\R w [] L1 w'/\lnQ key True r.Mt v L1:=by
 refine zQ [.v r.v] zmN (by simp) ?_
 have cC:=fun (W:World) (L':List Ent) (hR:R w [] L' W)=>zdA false r hs W (hG.cast hR (fun _ h=>by cases h)) (fun x hx=>(hin x hx).cast hR (fun _ h=>by cases h)) (fun W2 L2 hR2=>zpS r hs hV hps W2 (fun x hx=>((hin x hx).cast hR (fun _ h=>by cases h)).cast hR2 (fun _ h=>by cases h)) ((hpl.later hR).later hR2))
 have hrc:∃ k s mn mx ps a c,r=.mk k s mn mx ps a c:=by cases r;exact ⟨_,_,_,_,_,_,_,rfl⟩
 obtain ⟨k,s,mn,mx,ps0,a,c,hr⟩:=hrc
 have hrv:r.v=RT.v (.mk k s mn mx ps0 a c):=by rw [hr]
 rw [hrv] at cC ⊢
 (repeat' ((conv=>whnf);first|(refine zz (fun w' hR=>cC w' _ hR) ?_;rintro _ _ (⟨n,rfl,rfl⟩|⟨y,F,kc,rfl,rfl,hy,hC,hp,hsz,hVl,hL⟩);all_goals refine ⟨.v _,rfl,?_⟩)|refine zh ?_|((first|apply zc|apply za|apply zd)<;>intro h<;>try (exfalso;omega))|refine pay ?_|intro _));(all_goals (conv=>whnf))
 ·exact ⟨⟨[],Ref.takes [] rfl (.nil _),.inl ⟨n,rfl,rfl⟩⟩⟩
 ·exact ⟨⟨_,Ref.takes [82] rfl (Thin.abs (k':=key) (.nil _)),.inr ⟨y,F,kc,rfl,rfl,hy,hC.ok,fun t ht=>by rw [hL t ht,zxT hVl hp],trivial⟩⟩⟩
theorem zg6 (key:Nat) (r:RT) (hs:r.size<=2199023255552) (w:World) (hG:Tab w) (hin:RIn w [] r) (hpl:RSf w r) :
 Calls Tryz.prog vm #[r.v] w fun e w'=>∃ v L1,e=.returned v/\R w [] L1 w'/\lnQ key (r.Vl/\r.pos<=64) (fun t=>∃ u,u <:+ t/\r.Mt u.reverse) v L1:=by
 refine zQ [.v r.v] zhL (by simp) ?_
 have cR:=fun (W:World) (L':List Ent) (hR:R w [] L' W)=>zmP r hs W (fun x hx=>(hin x hx).cast hR (fun _ h=>by cases h)) (hpl.later hR)
 have cC:=fun (q:RT) (hq:q.size<=2199023255552) (W:World) (L':List Ent) (hR:R w [] L' W) (h:RIn W [] q/\RPl W q)=>zdA true q hq W (hG.cast hR (fun _ h=>by cases h)) h.1 (fun W2 L2 hR2=>zo4 q hq W2 (fun x hx=>(h.1 x hx).cast hR2 (fun _ h=>by cases h)) (h.2.later hR2))
 have hrc:∃ k s mn mx ps a c,r=.mk k s mn mx ps a c:=by cases r;exact ⟨_,_,_,_,_,_,_,rfl⟩
 obtain ⟨k,s,mn,mx,ps0,a,c,hr⟩:=hrc
 have hrv:r.v=RT.v (.mk k s mn mx ps0 a c):=by rw [hr]
 rw [hrv] at cR ⊢
 (repeat' ((conv=>whnf);first|(refine zz (fun w' hR=>cR w' _ hR) ?_;rintro _ _ (⟨n,rfl,rfl⟩|⟨k2,s2,mn2,mx2,ps2,a2,c2,F2,rfl,rfl,hq2,hF2,hsz⟩);all_goals refine ⟨.v _,rfl,?_⟩)|(refine zz (fun w' hR=>cC (.mk k2 s2 mn2 mx2 ps2 a2 c2) (by rw [RT.Rv_size _ _ hq2];omega) w' _ hR (RF.in_ (key:=90) hR ((zV (key:=90) rfl).mem_iff.2 g5q) hF2)) ?_;rintro _ _ (⟨n,rfl,rfl⟩|⟨y,F,kc,rfl,rfl,hy,hC,hp,hsz2,hVl2,hL⟩);all_goals refine ⟨.v _,rfl,?_⟩)|refine zh ?_|((first|apply zc|apply za|apply zd)<;>intro h<;>try (exfalso;omega))|refine pay ?_|intro _));(all_goals (conv=>whnf))
 all_goals try (exfalso;omega)
 ·exact ⟨⟨[],Ref.takes [] rfl (.nil _),.inl ⟨n,rfl,rfl⟩⟩⟩
 ·exact ⟨⟨[],Ref.takes [] rfl (.nil _),.inl ⟨n,rfl,rfl⟩⟩⟩
 ·refine ⟨⟨_,Ref.takes [82] rfl (Thin.abs (k':=key) (.nil _)),.inr ⟨y,F,kc,rfl,rfl,hy,hC.ok,fun t ht=>?_,RT.Rv_Vl _ _ hq2 hVl2,by rw [←RT.Rv_pos _ _ hq2];exact hp⟩⟩⟩
  rw [hL t ht,zxU hVl2 hp]
  constructor
  ·rintro ⟨u,hu,h⟩;exact ⟨u,hu,(RT.Rv_Mt _ _ hq2 u).1 h⟩
  ·rintro ⟨u,hu,h⟩;exact ⟨u,hu,(RT.Rv_Mt _ _ hq2 u).2 h⟩
def jc (acc:List Bool):List Nat:=acc.map fun b=>if b=true then 1 else 0
abbrev xW (acc:List Bool):List Int:=(jc acc).map Int.ofNat
theorem uP (acc:List Bool):(jc acc).length=acc.length:=g8q ..
theorem zo9 (acc:List Bool) (i:Nat):(jc acc).getD i 0=if acc.getD i false=true then 1 else 0:=by
 unfold jc
 rw [g1q,List.getElem?_map,g1q]
 cases acc[i]?<;>rfl
def vH (acc:List Bool) (i:Nat):List Nat:=jc (acc.take i)++List.replicate (acc.length - i) 0
theorem zpa (acc:List Bool) {i:Nat} (h:i<=acc.length):(vH acc i).length=acc.length:=by unfold vH;rw [g6q,uP,List.length_take,List.length_replicate];omega
theorem zmg (acc:List Bool):vH acc 0=List.replicate acc.length 0:=by unfold vH jc;simp
theorem zpb (acc:List Bool):vH acc acc.length=jc acc:=by unfold vH;simp
theorem zmh {acc:List Bool} {i:Nat} {b:Bool} (h:acc[i]?=some b):vH acc (i+1)=if b=true then (vH acc i).set i 1 else vH acc i:=by
 have hi:=(List.getElem?_eq_some_iff.1 h).1
 have e:acc.length - i=(acc.length - (i+1))+1:=by omega
 have hl:(jc (acc.take i)).length=i:=by rw [uP,List.length_take];omega
 have e2:jc (acc.take (i+1))=jc (acc.take i)++[if b=true then 1 else 0]:=by
  unfold jc
  rw [List.take_add_one,h,List.map_append];rfl
 unfold vH
 rw [e2,e,List.replicate_succ,List.append_assoc]
 split
 ·rw [List.set_append_right _ _ (by omega),hl,Nat.sub_self];rfl
 ·rfl
theorem zpc {y:MA} {k:Nat} (hM:MOk y.m k):ziI y (xW y.acc)=0:=by
 refine zqj (zl4 hM) ⟨?_,fun h hh=>?_⟩
 ·have h1:=hM.acc
  have h2:y.m.nx.length=y.nr.length:=g8q ..
  have h3:y.m.acc=y.acc:=rfl
  rw [g8q,uP,←h2,←h1];rfl
 ·obtain ⟨n,hn,rfl⟩:=List.mem_map.1 hh
  obtain ⟨b,_,rfl⟩:=List.mem_map.1 hn
  split
  ·exact ⟨by decide,by decide⟩
  ·exact ⟨by decide,by decide⟩
def rnQ (key bs:Nat) (y:MA) (back:Bool) (D:Int->Prop) (E:List Entr) (v:Value) (L1:List Ent):Prop:=∃ bt fp,v=.tuple #[.agg #[pS bt,.int .i64 y.start,.bool (qO y.m y.start.toNat)],.nilIface]/\L1=[packE key fp (fX bt bs ⟨y.m,xW y.acc,back,D⟩ E)]
theorem zpd {w:World} {fp:List Nat} {L:List Ent} {a:Option Addr} {l:List Bool} {i:Nat} {b:Bool} (h:In w fp a (l.map Value.bool)) (hb:l[i]?=some b):Rd w fp L (.el a i) [.bool b]:=h.rd (by rw [List.getElem?_map,hb];rfl)
theorem zky (key bs:Nat) (D:Int->Prop) (E:List Entr) {w:World} {k:Nat} (y:MA) (hy:McI w [] y) (hM:MOk y.m k) (back:Bool) :
 Calls Tryz.prog xV #[pS bs,y.v,.bool back] w fun e w'=>∃ v L1,e=.returned v/\R w [] L1 w'/\rnQ key bs y back D E v L1:=by
 refine zQ [.v (pS bs),.v y.v,.v (.bool back)] zfU (by simp) ?_
 have hacc:=hy.acc
 have hml:=hM.acc
 have hmo:=hM.most
 have hst:=hM.start
 have hxa:y.m.acc.length=y.acc.length:=rfl
 have hst2:y.m.start=y.start:=rfl
 have cT:=fun (W:World) (hm:McI W [] y) (ha:Option Addr) (hc:Nat) (hin:In W [] ha (zu .i64 (xW y.acc)))=>zcR 78 bs D E y hm (xW y.acc) ha hc hin back (zpc hM)
 have hyc:=fun {W:World} {L':List Ent} (hR:R w [] L' W)=>hy.cast hR
 have hln:(xW y.acc).length=y.acc.length:=by rw [g8q,uP]
 rw [hln] at cT
 obtain ⟨n,hn⟩:∃ n,y.acc.length=n:=⟨_,rfl⟩
 have qn:((n:Nat):Int).toNat=n:=by omega
 have hz:=zdy n
 have hr0:=zmg y.acc
 rw [hn] at hr0
 have hv:y.v=.agg #[.int .i64 y.start,.slice y.ca y.cls.length y.cc,.slice y.na y.nr.length y.nc,.slice y.aa n y.ac]:=by unfold MA.v MA.cells;rw [hn]
 rw [hv] at cT ⊢
 rw [hn] at cT
 (repeat' ((conv=>whnf);first|rw [qn]|refine zh ?_|((first|apply zc|apply za|apply zd)<;>intro h<;>try (exfalso;omega))|refine pay ?_|intro _));(all_goals (conv=>whnf))
 all_goals try (exfalso;omega)
 rename_i b4 b6 b16
 rw [hz,←hr0]
 refine zw Nat (fun i=>[(0,.v (pS bs)),(2,.v (.bool back)),(4,.ptr 4 b4 0),(6,.ptr 6 b6 0),(8,.sl 16 (some ⟨b16,0,none⟩) n n),(18,.v (.slice y.aa n y.ac)),(19,.v (.int .i64 (n:Int))),(20,.v (.int .i64 (i:Int)))])
  (fun i=>[.box 4 b4 [.int .i64 y.start,.slice y.ca y.cls.length y.cc,.slice y.na y.nr.length y.nc,.slice y.aa n y.ac] zg,.box 6 b6 [.pointer none,.int .i64 0,.bool false] ja,.own 16 (some ⟨b16,0,none⟩) n n zk 1 (enL (vH y.acc i))])
  (fun i=>i<=n) (fun i=>n - i) 0 (Nat.zero_le _) (by (repeat ((conv=>whnf);refine vS ?_));exact trivial) (Ref.takes [4,6,16] rfl (.refl _)) ?_
 rintro i hi
 by_cases hlt:i<n
 ·obtain ⟨b,hb⟩:∃ b,y.acc[i]?=some b:=⟨_,g2q (by omega)⟩
  have rdb:=fun {L:List Ent}=>zpd (L:=L) hacc hb
  have hne:y.aa≠none:=hacc.ne' (k:=i) (by rw [g8q];omega)
  have q0:((i:Nat):Int).toNat=i:=by omega
  have hnx:=zmh hb
  have hlr:=zpa y.acc (i:=i) (by omega)
  have hle:=qW (vH y.acc i)
  have hsp:=qJ (l:=vH y.acc i) (q:=i) (v:=1) (by omega)
  cases b
  ·rw [if_neg (by decide)] at hnx
   (repeat' ((conv=>whnf);first|rw [q0]|refine ⟨_,rdb,?_⟩|refine zh ?_|((first|apply zc|apply za|apply zd)<;>intro h<;>try (exfalso;omega))|refine pay ?_|intro _));(all_goals (conv=>whnf))
   all_goals try (exfalso;omega)
   exact zi (i+1) hlt (by omega) (by (repeat ((conv=>whnf);refine vS ?_));exact trivial) (by rw [hnx];exact Ref.takes [4,6,16] rfl (.refl _))
  ·rw [if_pos rfl] at hnx
   have hsp2:zv (enL (vH y.acc i)) i [.int .i64 1]=enL (vH y.acc (i+1)):=by rw [hnx];exact hsp
   (repeat' ((conv=>whnf);first|rw [q0]|rw [hsp2]|refine ⟨_,rdb,?_⟩|refine ⟨.sl 16 _ _ _,⟨rfl,rfl,rfl,rfl⟩,?_⟩|refine zh ?_|((first|apply zc|apply za|apply zd)<;>intro h<;>try (exfalso;omega))|refine pay ?_|intro _));(all_goals (conv=>whnf))
   all_goals try (exfalso;omega)
   exact zi (i+1) hlt (by omega) (by (repeat ((conv=>whnf);refine vS ?_));exact trivial) (Ref.takes [4,6,16] rfl (.refl _))
 ·obtain rfl:i=n:=by omega
  have hra:=zpb y.acc
  rw [hn] at hra
  rw [hra]
  obtain ⟨q,hq⟩:∃ q,y.start.toNat=q:=⟨_,rfl⟩
  have hqi:q<i:=by omega
  have hlb:=uP y.acc
  have hat:=uj (l:=jc y.acc) (j:=q) (by omega)
  have hisk:=jT (l:=jc y.acc) (j:=q) (by omega)
  have hle:=qW (jc y.acc)
  rw [zo9] at hat
  have hac:qO y.m y.start.toNat=y.acc.getD q false:=by rw [hq];rfl
  cases hb:y.acc.getD q false
  ·rw [hb,if_neg (by decide)] at hat
   rw [hb] at hac
   (repeat' ((conv=>whnf);first|rw [hq]|rw [hat]|(refine zz (fun w' hR=>cT w' (hyc hR) _ _ (In.ownR (key:=16) hR rfl)) ?_;rintro _ _ ⟨bt,fpt,rfl,rfl⟩;refine ⟨.v _,rfl,?_⟩)|refine zh ?_|((first|apply zc|apply za|apply zd)<;>intro h<;>try (exfalso;omega))|refine pay ?_|refine And.intro (by first|exact ⟨rfl,hisk⟩) ?_|intro _));(all_goals (conv=>whnf))
   all_goals try (exfalso;omega)
   exact ⟨⟨_,Ref.takes [78] rfl (Thin.packE (.nil _)),bt,fpt,by rw [hac];rfl,rfl⟩⟩
  ·rw [hb,if_pos rfl] at hat
   rw [hb] at hac
   (repeat' ((conv=>whnf);first|rw [hq]|rw [hat]|(refine zz (fun w' hR=>cT w' (hyc hR) _ _ (In.ownR (key:=16) hR rfl)) ?_;rintro _ _ ⟨bt,fpt,rfl,rfl⟩;refine ⟨.v _,rfl,?_⟩)|refine zh ?_|((first|apply zc|apply za|apply zd)<;>intro h<;>try (exfalso;omega))|refine pay ?_|refine And.intro (by first|exact ⟨rfl,hisk⟩) ?_|intro _));(all_goals (conv=>whnf))
   all_goals try (exfalso;omega)
   exact ⟨⟨_,Ref.takes [78] rfl (Thin.packE (.nil _)),bt,fpt,by rw [hac];rfl,rfl⟩⟩
theorem zkz (key bs:Nat) (D:Int->Prop) (E:List Entr) {w:World} {k:Nat} (y:MA) (hy:McI w [] y) (hM:MOk y.m k) (back:Bool) :
 Calls Tryz.prog xT #[pS bs,y.v,.bool back] w fun e w'=>∃ v L1,e=.returned v/\R w [] L1 w'/\zwp key bs ⟨y.m,xW y.acc,back,D⟩ E v L1:=by
 refine zQ [.v (pS bs),.v y.v,.v (.bool back)] zb8 (by simp) ?_
 have hacc:=hy.acc
 have hml:=hM.acc
 have hmo:=hM.most
 have hxa:y.m.acc.length=y.acc.length:=rfl
 have cT:=fun (W:World) (hm:McI W [] y) (ha:Option Addr) (hc:Nat) (hin:In W [] ha (zu .i64 (xW y.acc)))=>zcR 78 bs D E y hm (xW y.acc) ha hc hin back (zpc hM)
 have hyc:=fun {W:World} {L':List Ent} (hR:R w [] L' W)=>hy.cast hR
 have hln:(xW y.acc).length=y.acc.length:=by rw [g8q,uP]
 rw [hln] at cT
 obtain ⟨n,hn⟩:∃ n,y.acc.length=n:=⟨_,rfl⟩
 have qn:((n:Nat):Int).toNat=n:=by omega
 have hz:=zdy n
 have hr0:=zmg y.acc
 rw [hn] at hr0
 have hv:y.v=.agg #[.int .i64 y.start,.slice y.ca y.cls.length y.cc,.slice y.na y.nr.length y.nc,.slice y.aa n y.ac]:=by unfold MA.v MA.cells;rw [hn]
 rw [hv] at cT ⊢
 rw [hn] at cT
 (repeat' ((conv=>whnf);first|rw [qn]|refine zh ?_|((first|apply zc|apply za|apply zd)<;>intro h<;>try (exfalso;omega))|refine pay ?_|intro _));(all_goals (conv=>whnf))
 all_goals try (exfalso;omega)
 rename_i b4 b13
 rw [hz,←hr0]
 refine zw Nat (fun i=>[(0,.v (pS bs)),(2,.v (.bool back)),(4,.ptr 4 b4 0),(8,.sl 13 (some ⟨b13,0,none⟩) n n),(9,.v (.int .i64 (i:Int)))])
  (fun i=>[.box 4 b4 [.int .i64 y.start,.slice y.ca y.cls.length y.cc,.slice y.na y.nr.length y.nc,.slice y.aa n y.ac] zg,.own 13 (some ⟨b13,0,none⟩) n n zk 1 (enL (vH y.acc i))])
  (fun i=>i<=n) (fun i=>n - i) 0 (Nat.zero_le _) (by (repeat ((conv=>whnf);refine vS ?_));exact trivial) (Ref.takes [4,13] rfl (.refl _)) ?_
 rintro i hi
 by_cases hlt:i<n
 ·obtain ⟨b,hb⟩:∃ b,y.acc[i]?=some b:=⟨_,g2q (by omega)⟩
  have rdb:=fun {L:List Ent}=>zpd (L:=L) hacc hb
  have hne:y.aa≠none:=hacc.ne' (k:=i) (by rw [g8q];omega)
  have q0:((i:Nat):Int).toNat=i:=by omega
  have hnx:=zmh hb
  have hlr:=zpa y.acc (i:=i) (by omega)
  have hle:=qW (vH y.acc i)
  have hsp:=qJ (l:=vH y.acc i) (q:=i) (v:=1) (by omega)
  cases b
  ·rw [if_neg (by decide)] at hnx
   (repeat' ((conv=>whnf);first|rw [q0]|refine ⟨_,rdb,?_⟩|refine zh ?_|((first|apply zc|apply za|apply zd)<;>intro h<;>try (exfalso;omega))|refine pay ?_|intro _));(all_goals (conv=>whnf))
   all_goals try (exfalso;omega)
   exact zi (i+1) hlt (by omega) (by (repeat ((conv=>whnf);refine vS ?_));exact trivial) (by rw [hnx];exact Ref.takes [4,13] rfl (.refl _))
  ·rw [if_pos rfl] at hnx
   have hsp2:zv (enL (vH y.acc i)) i [.int .i64 1]=enL (vH y.acc (i+1)):=by rw [hnx];exact hsp
   (repeat' ((conv=>whnf);first|rw [q0]|rw [hsp2]|refine ⟨_,rdb,?_⟩|refine ⟨.sl 13 _ _ _,⟨rfl,rfl,rfl,rfl⟩,?_⟩|refine zh ?_|((first|apply zc|apply za|apply zd)<;>intro h<;>try (exfalso;omega))|refine pay ?_|intro _));(all_goals (conv=>whnf))
   all_goals try (exfalso;omega)
   exact zi (i+1) hlt (by omega) (by (repeat ((conv=>whnf);refine vS ?_));exact trivial) (Ref.takes [4,13] rfl (.refl _))
 ·obtain rfl:i=n:=by omega
  have hra:=zpb y.acc
  rw [hn] at hra
  rw [hra]
  have hlb:=uP y.acc
  (repeat' ((conv=>whnf);first|(refine zz (fun w' hR=>cT w' (hyc hR) _ _ (In.ownR (key:=13) hR rfl)) ?_;rintro _ _ ⟨bt,fpt,rfl,rfl⟩;refine ⟨.v _,rfl,?_⟩)|refine zh ?_|((first|apply zc|apply za|apply zd)<;>intro h<;>try (exfalso;omega))|refine pay ?_|intro _));(all_goals (conv=>whnf))
  all_goals try (exfalso;omega)
  exact ⟨⟨_,Ref.takes [78] rfl (Thin.packE (.nil _)),bt,fpt,rfl,rfl⟩⟩
abbrev fnC (b1 b2:Nat) (M1 M2:Mch):List Value:=[pS b1,.int .i64 M1.start,.bool (qO M1 M1.start.toNat),pS b2,.int .i64 M2.start,.bool (qO M2 M2.start.toNat)]
abbrev acT (M:Mch) (back:Bool) (D:Int->Prop):Tb:=⟨M,xW M.acc,back,D⟩
def lgQ (bs:Nat) (L:List Nat->Prop) (D:Int->Prop) (E:List Entr) (v:Value) (L1:List Ent):Prop:=(∃ n,v=.tuple #[.pointer none,yg n]/\L1=[]) ∨
 ∃ bf b1 b2 M1 M2 k1 k2 f1 f2,v = .tuple #[pS bf,.nilIface] /\ L1 = [.box 3100 bf (fnC b1 b2 M1 M2) jb,packE 178 f1 (fX b1 bs (acT M1 false D) E),packE 278 f2 (fX b2 bs (acT M2 true D) E)] /\ MOk M1 k1 /\ MOk M2 k2 /\
   (∀ t,BT t->(lng M1 M1.start.toNat t=true↔L t))/\∀ t,BT t->(lng M2 M2.start.toNat t=true↔∃ u,u <:+ t/\L u.reverse)
theorem zpT (bs:Nat) (D:Int->Prop) (E:List Entr) (r:RT) (hs:r.size<=2199023255552) (w:World) (hG:Tab w) (hin:RIn w [] r) (hpl:RSf w r) (hV:r.Vl) (hps:r.pos<=64) :
 Calls Tryz.prog zaU #[pS bs,r.v] w fun e w'=>∃ v L1,e=.returned v/\R w [] L1 w'/\lgQ bs r.Mt D E v L1:=by
 refine zQ [.v (pS bs),.v r.v] zlA (by simp) ?_
 have cO:=fun (W:World) (L':List Ent) (hR:R w [] L' W)=>ztl 83 r hs W (hG.cast hR (fun _ h=>by cases h)) (fun x hx=>(hin x hx).cast hR (fun _ h=>by cases h)) (hpl.later hR) hV hps
 have cS:=fun (W:World) (L':List Ent) (hR:R w [] L' W)=>zg6 84 r hs W (hG.cast hR (fun _ h=>by cases h)) (fun x hx=>(hin x hx).cast hR (fun _ h=>by cases h)) (hpl.later hR)
 have cN:=fun (key:Nat) (W:World) (y:MA) (kc:Nat) (back:Bool) (hM:MOk y.m kc) (hm:McI W [] y)=>zky key bs D E y hm hM back
 have hrc:∃ k s mn mx ps a c,r=.mk k s mn mx ps a c:=by cases r;exact ⟨_,_,_,_,_,_,_,rfl⟩
 obtain ⟨k,s,mn,mx,ps0,a,c,hr⟩:=hrc
 have hrv:r.v=RT.v (.mk k s mn mx ps0 a c):=by rw [hr]
 rw [hrv] at cO cS ⊢
 (repeat' ((conv=>whnf);first|(refine zz (fun w' hR=>cO w' _ hR) ?_;rintro _ _ (⟨n,rfl,rfl⟩|⟨y1,F1,k1,rfl,rfl,hy1,hM1,hL1,_⟩);all_goals refine ⟨.v _,rfl,?_⟩)|(refine zz (fun w' hR=>cS w' _ hR) ?_;rintro _ _ (⟨n,rfl,rfl⟩|⟨y2,F2,k2,rfl,rfl,hy2,hM2,hL2,_⟩);all_goals refine ⟨.v _,rfl,?_⟩)|(refine zz (fun w' hR=>cN 178 w' y1 k1 false hM1 (MFz.in_ (key:=83) hR rfl hy1)) ?_;rintro _ _ ⟨b1,f1,rfl,rfl⟩;refine ⟨.v _,rfl,?_⟩)|(refine zz (fun w' hR=>cN 278 w' y2 k2 true hM2 (MFz.in_ (key:=84) hR rfl hy2)) ?_;rintro _ _ ⟨b2,f2,rfl,rfl⟩;refine ⟨.v _,rfl,?_⟩)|refine zh ?_|((first|apply zc|apply za|apply zd)<;>intro h<;>try (exfalso;omega))|refine pay ?_|intro _));(all_goals (conv=>whnf))
 all_goals try (exfalso;omega)
 ·exact ⟨⟨[],Ref.takes [] rfl (.nil _),.inl ⟨n,rfl,rfl⟩⟩⟩
 ·exact ⟨⟨[],Ref.takes [] rfl (.nil _),.inl ⟨n,rfl,rfl⟩⟩⟩
 ·rename_i bf
  exact ⟨⟨_,Ref.takes [30,178,278] rfl (.box rfl (.refl _)),.inr ⟨bf,b1,b2,y1.m,y2.m,k1,k2,f1,f2,rfl,rfl,hM1,hM2,hL1,hL2⟩⟩⟩
def rlV (T:Tb) (em:Bool) (X:List Nat):Value:=.tuple #[.int .i64 (qf T.M T.H (st0 T) X:Nat),.bool (decide (0<qf T.M T.H (st0 T) X)||em)]
theorem zeb {T:Tb} {kk:Nat} {S:Sto} (bt bs:Nat) (h:ScOk T kk S) {id:Int} (hk:known S id) {i m:Nat} (hi:i+m<=(tm S.E id).len) (em:Bool) :
 XC yB #[.agg #[pS bt,.int .i64 T.M.start,.bool em],.int .i64 id,.int .i64 i,.int .i64 m] bt bs T S (rlV T em (ori T.back (((tm S.E id).txt.drop i).take m))):=by
 intro k1 k2 fp1 fp2 w hR
 have hR:R w (fp1++fp2) [packE 78 fp1 (fX bt bs T S.E),packE 77 fp2 (fS bs S)] w:=(Thin.packE (Thin.packE (.nil []))).ref w hR
 refine zr [.v (.agg #[pS bt,.int .i64 T.M.start,.bool em]),.v (.int .i64 id),.v (.int .i64 i),.v (.int .i64 m)] zea (by simp) hR ?_
 have hLM:LM=1152921504606846976:=rfl
 have hle:=h.wf.le hk.2
 have hms:=h.ok.m.start
 have hs0:T.M.start=((st0 T:Nat):Int):=by unfold st0;omega
 have hsN:st0 T<T.M.nx.length:=by unfold st0;omega
 have hlen:(ori T.back (((tm S.E id).txt.drop i).take m)).length<=LM:=by
  rw [zp8,List.length_take];omega
 have cP:=fun fp1 fp2 w hR=>zf2 bt bs h hk hi fp1 fp2 w hR
 have cF:=fun {ps} (hP:Prs T S (ori T.back (((tm S.E id).txt.drop i).take m)) ps) a c fp1 fp2 w hR hin=>zot bt bs h hP hlen a c hsN fp1 fp2 w hR hin
 rw [←hs0] at cF
 unfold rlV
 generalize qf T.M T.H (st0 T) (ori T.back (((tm S.E id).txt.drop i).take m))=X at *
 by_cases h0:0<X
 ·rw [decide_eq_true h0]
  (repeat' ((conv=>whnf);first|refine zca _ (Ref.takes [4] rfl (.refl _)) ?_|(refine yX (key1:=78) (key2:=77) rfl rfl (fun w hR h0=>cP _ _ _ h0) ?_;rintro _ _ ⟨ps,aP,cP2,y1,y2,rfl,hP,rfl⟩;refine ⟨.v _,rfl,?_⟩)|(refine yX (key1:=78) (key2:=77) rfl rfl (fun w hR h0=>cF hP _ _ _ _ _ h0 (In.beside2 (key:=880) hR rfl)) ?_;rintro _ _ ⟨rfl,z1,z2,rfl⟩;refine ⟨.v _,rfl,?_⟩)|refine zh ?_|((first|apply zc|apply za|apply zd)<;>intro h<;>try (exfalso;omega))|refine pay ?_|refine And.intro (by first|exact Ref.takes [4] rfl (.refl _)) ?_|intro _));(all_goals (conv=>whnf))
  all_goals try (exfalso;omega)
  all_goals exact ⟨yR (Ref.takes [78,77] rfl (.refl _)) rfl⟩
 ·rw [decide_eq_false h0]
  (repeat' ((conv=>whnf);first|refine zca _ (Ref.takes [4] rfl (.refl _)) ?_|(refine yX (key1:=78) (key2:=77) rfl rfl (fun w hR h0=>cP _ _ _ h0) ?_;rintro _ _ ⟨ps,aP,cP2,y1,y2,rfl,hP,rfl⟩;refine ⟨.v _,rfl,?_⟩)|(refine yX (key1:=78) (key2:=77) rfl rfl (fun w hR h0=>cF hP _ _ _ _ _ h0 (In.beside2 (key:=880) hR rfl)) ?_;rintro _ _ ⟨rfl,z1,z2,rfl⟩;refine ⟨.v _,rfl,?_⟩)|refine zh ?_|((first|apply zc|apply za|apply zd)<;>intro h<;>try (exfalso;omega))|refine pay ?_|refine And.intro (by first|exact Ref.takes [4] rfl (.refl _)) ?_|intro _));(all_goals (conv=>whnf))
  all_goals try (exfalso;omega)
  all_goals exact ⟨yR (Ref.takes [78,77] rfl (.refl _)) rfl⟩
abbrev fdL (bf b1 b2 bs:Nat) (M1 M2:Mch) (D:Int->Prop) (S:Sto) (f1 f2 f3:List Nat):List Ent:=[.box 3100 bf (fnC b1 b2 M1 M2) jb,packE 178 f1 (fX b1 bs (acT M1 false D) S.E),packE 278 f2 (fX b2 bs (acT M2 true D) S.E),packE 77 f3 (fS bs S)]
def fdQ (bf b1 b2 bs:Nat) (M1 M2:Mch) (D:Int->Prop) (S:Sto) (r:Value) (v:Value) (L1:List Ent):Prop:=∃ f1 f2 f3,v=r/\L1=fdL bf b1 b2 bs M1 M2 D S f1 f2 f3
section
variable {M1 M2:Mch} {D:Int->Prop} {S:Sto} {k1 k2:Nat} (bf b1 b2 bs:Nat) (h1:ScOk (acT M1 false D) k1 S) (h2:ScOk (acT M2 true D) k2 S) {id:Int} (hk:known S id)
include h1 h2 hk
theorem zg7 {at_:Nat} (ha:at_<=(tm S.E id).len) (f1 f2 f3 fp:List Nat) (w:World) (hR:R w fp (fdL bf b1 b2 bs M1 M2 D S f1 f2 f3) w) :
 Calls Tryz.prog yT #[pS bf,.int .i64 id,.int .i64 at_] w fun e w'=>∃ v L1,e=.returned v/\R w fp L1 w'/\fdQ bf b1 b2 bs M1 M2 D S (.tuple #[.int .i64 (tm S.E id).len,.nilIface]) v L1:=by
 refine zr [.ptr 3100 bf 0,.v (.int .i64 id),.v (.int .i64 at_)] zb6 (by simp) hR ?_
 have c1:=uh b1 bs (acT M1 false D) S.E
 have hmo:=h1.wf.most
 have cW:=ud bs S id (by have:=h1.wf.len;omega)
 rw [zcF hk] at cW
 have hLM:LM=1152921504606846976:=rfl
 have hle:=h1.wf.le hk.2
 unfold Tm.len at *
 (repeat' ((conv=>whnf);first|(refine qa (key:=178) rfl (fun w hR h0=>c1 _ _ _ h0) ?_;rintro _ _ ⟨rfl,rfl⟩;refine ⟨.v _,rfl,?_⟩)|refine SC.go 77 cW rfl fun fp'=>?_|refine zh ?_|((first|apply zc|apply za|apply zd)<;>intro h<;>try (exfalso;omega))|refine pay ?_|intro _));(all_goals (conv=>whnf))
 all_goals try (exfalso;omega)
 exact ⟨⟨_,Ref.takes [3100,178,278,77] rfl (.refl _),_,_,_,rfl,rfl⟩⟩
abbrev kP (M:Mch) (X:List Nat):Nat:=qf M (xW M.acc) M.start.toNat X
abbrev okT (M:Mch) (X:List Nat):Bool:=decide (0<kP M X)||qO M M.start.toNat
theorem zlD {at_:Nat} (ha:at_<=(tm S.E id).len) (f1 f2 f3 fp:List Nat) (w:World) (hR:R w fp (fdL bf b1 b2 bs M1 M2 D S f1 f2 f3) w) :
 Calls Tryz.prog xG #[pS bf,.int .i64 id,.int .i64 at_] w fun e w'=>∃ v L1,e=.returned v/\R w fp L1 w'/\fdQ bf b1 b2 bs M1 M2 D S (.tuple #[.int .i64 (kP M1 ((tm S.E id).txt.drop at_):Nat),.bool (okT M1 ((tm S.E id).txt.drop at_)),.nilIface]) v L1:=by
 refine zr [.ptr 3100 bf 0,.v (.int .i64 id),.v (.int .i64 at_)] zbk (by simp) hR ?_
 have hLM:LM=1152921504606846976:=rfl
 have hle:=h1.wf.le hk.2
 have c1:=fun f1 f2 f3 fp (w:World) hR=>zg7 bf b1 b2 bs h1 h2 hk ha f1 f2 f3 fp w hR
 have c2:=zeb b1 bs h1 hk (i:=at_) (m:=(tm S.E id).len - at_) (by omega) (qO M1 M1.start.toNat)
 have hX:ori false (((tm S.E id).txt.drop at_).take ((tm S.E id).len - at_))=(tm S.E id).txt.drop at_:=by
  show ((tm S.E id).txt.drop at_).take _=_
  rw [List.take_of_length_le (by rw [List.length_drop];exact Nat.le_refl _)]
 have hsub:(((tm S.E id).len:Nat):Int) - ((at_:Nat):Int)=(((tm S.E id).len - at_:Nat):Int):=by omega
 rw [show (acT M1 false D).back=false from rfl,hX] at c2
 (repeat' ((conv=>whnf);first|rw [hsub]|(refine zD [3100,178,278,77] rfl (fun w' hR hR0=>c1 _ _ _ _ w' hR0) ?_;rintro _ _ ⟨g1,g2,g3,rfl,rfl⟩;refine ⟨.v _,rfl,?_⟩)|(refine XC.go 178 77 c2 rfl rfl fun fp1' fp2'=>?_)|refine zh ?_|((first|apply zc|apply za|apply zd)<;>intro h<;>try (exfalso;omega))|refine pay ?_|intro _));(all_goals (conv=>whnf))
 all_goals try (exfalso;omega)
 exact ⟨⟨_,Ref.takes [3100,178,278,77] rfl (.refl _),_,_,_,rfl,rfl⟩⟩
def frV (M1 M2:Mch) (X:List Nat) (at_:Nat):Value :=
 if okT M2 X.reverse=true/\okT M1 (X.drop (X.length - kP M2 X.reverse))=true then .tuple #[.agg #[.int .i64 (at_+(X.length - kP M2 X.reverse):Nat),.int .i64 (kP M1 (X.drop (X.length - kP M2 X.reverse)):Nat)],.bool true,.nilIface] else .tuple #[.agg #[.int .i64 0,.int .i64 0],.bool false,.nilIface]
theorem zpe {at_:Nat} (ha:at_<=(tm S.E id).len) (f1 f2 f3 fp:List Nat) (w:World) (hR:R w fp (fdL bf b1 b2 bs M1 M2 D S f1 f2 f3) w) :
 Calls Tryz.prog xU #[pS bf,.int .i64 id,.int .i64 at_] w fun e w'=>∃ v L1,e=.returned v/\R w fp L1 w'/\fdQ bf b1 b2 bs M1 M2 D S (frV M1 M2 ((tm S.E id).txt.drop at_) at_) v L1:=by
 refine zr [.ptr 3100 bf 0,.v (.int .i64 id),.v (.int .i64 at_)] zb4 (by simp) hR ?_
 have hLM:LM=1152921504606846976:=rfl
 have hle:=h1.wf.le hk.2
 have c1:=fun f1 f2 f3 fp (w:World) hR=>zg7 bf b1 b2 bs h1 h2 hk ha f1 f2 f3 fp w hR
 have c2:=zeb b2 bs h2 hk (i:=at_) (m:=(tm S.E id).len - at_) (by omega) (qO M2 M2.start.toNat)
 obtain ⟨X,hX⟩:∃ X,(tm S.E id).txt.drop at_=X:=⟨_,rfl⟩
 have hXl:X.length=(tm S.E id).len - at_:=by rw [←hX,List.length_drop];rfl
 have hX2:ori true (((tm S.E id).txt.drop at_).take ((tm S.E id).len - at_))=X.reverse:=by
  rw [hX,List.take_of_length_le (by omega)];rfl
 have hsub:(((tm S.E id).len:Nat):Int) - ((at_:Nat):Int)=(((tm S.E id).len - at_:Nat):Int):=by omega
 rw [show (acT M2 true D).back=true from rfl,hX2] at c2
 have hr2:=zcc (M:=M2) (H:=xW M2.acc) M2.start.toNat X.reverse
 rw [List.length_reverse] at hr2
 have c3:=zeb b1 bs h1 hk (i:=at_+(X.length - kP M2 X.reverse)) (m:=kP M2 X.reverse) (by show _<=(tm S.E id).len;have:kP M2 X.reverse<=X.length:=hr2;omega) (qO M1 M1.start.toNat)
 have hX3:ori false (((tm S.E id).txt.drop (at_+(X.length - kP M2 X.reverse))).take (kP M2 X.reverse))=X.drop (X.length - kP M2 X.reverse):=by
  show ((tm S.E id).txt.drop _).take _=_
  rw [←List.drop_drop,hX,List.take_of_length_le (by rw [List.length_drop];have:kP M2 X.reverse<=X.length:=hr2;omega)]
 rw [show (acT M1 false D).back=false from rfl,hX3] at c3
 rw [hX]
 unfold frV
 unfold rlV at c2 c3
 have e2:qf (acT M2 true D).M (acT M2 true D).H (st0 (acT M2 true D)) X.reverse=kP M2 X.reverse:=rfl
 have e3:∀ Y,qf (acT M1 false D).M (acT M1 false D).H (st0 (acT M1 false D)) Y=kP M1 Y:=fun _=>rfl
 have e4:(acT M1 false D).M.start=M1.start:=rfl
 have e5:(acT M2 true D).M.start=M2.start:=rfl
 rw [e2,e5] at c2
 rw [e3,e4] at c3
 have hr2:kP M2 X.reverse<=X.length:=hr2
 unfold okT
 generalize kP M2 X.reverse=r2 at *
 generalize kP M1 (X.drop (X.length - r2))=r1 at *
 obtain ⟨B2,hB2⟩:∃ B,(decide (0<r2)||qO M2 M2.start.toNat)=B:=⟨_,rfl⟩
 obtain ⟨B1,hB1⟩:∃ B,(decide (0<r1)||qO M1 M1.start.toNat)=B:=⟨_,rfl⟩
 rw [hB2] at c2 ⊢
 rw [hB1] at c3 ⊢
 have hsub2:(((tm S.E id).len:Nat):Int) - ((r2:Nat):Int)=((at_+(X.length - r2):Nat):Int):=by omega
 clear hB1 hB2 hX2 hX3
 cases B2
 ·(repeat' ((conv=>whnf);first|rw [hsub]|(refine zD [3100,178,278,77] rfl (fun w' hR hR0=>c1 _ _ _ _ w' hR0) ?_;rintro _ _ ⟨g1,g2,g3,rfl,rfl⟩;refine ⟨.v _,rfl,?_⟩)|(refine XC.go 278 77 c2 rfl rfl fun fp1' fp2'=>?_)|refine zh ?_|((first|apply zc|apply za|apply zd)<;>intro h<;>try (exfalso;omega))|refine pay ?_|intro _));(all_goals (conv=>whnf))
  all_goals try (exfalso;omega)
  exact ⟨⟨_,Ref.takes [3100,178,278,77] rfl (.refl _),_,_,_,rfl,rfl⟩⟩
 ·cases B1
  ·(repeat' ((conv=>whnf);first|rw [hsub]|rw [hsub2]|(refine zD [3100,178,278,77] rfl (fun w' hR hR0=>c1 _ _ _ _ w' hR0) ?_;rintro _ _ ⟨g1,g2,g3,rfl,rfl⟩;refine ⟨.v _,rfl,?_⟩)|(refine XC.go 278 77 c2 rfl rfl fun fp1' fp2'=>?_)|(refine XC.go 178 77 c3 rfl rfl fun fp1' fp2'=>?_)|refine zh ?_|((first|apply zc|apply za|apply zd)<;>intro h<;>try (exfalso;omega))|refine pay ?_|intro _));(all_goals (conv=>whnf))
   all_goals try (exfalso;omega)
   exact ⟨⟨_,Ref.takes [3100,178,278,77] rfl (.refl _),_,_,_,rfl,rfl⟩⟩
  ·(repeat' ((conv=>whnf);first|rw [hsub]|rw [hsub2]|(refine zD [3100,178,278,77] rfl (fun w' hR hR0=>c1 _ _ _ _ w' hR0) ?_;rintro _ _ ⟨g1,g2,g3,rfl,rfl⟩;refine ⟨.v _,rfl,?_⟩)|(refine XC.go 278 77 c2 rfl rfl fun fp1' fp2'=>?_)|(refine XC.go 178 77 c3 rfl rfl fun fp1' fp2'=>?_)|refine zh ?_|((first|apply zc|apply za|apply zd)<;>intro h<;>try (exfalso;omega))|refine pay ?_|intro _));(all_goals (conv=>whnf))
   all_goals try (exfalso;omega)
   exact ⟨⟨_,Ref.takes [3100,178,278,77] rfl (.refl _),_,_,_,rfl,rfl⟩⟩
end
end
section
open Go.EG
theorem zjk (M:Mch) (q:Nat):zon (xW M.acc) q=if qO M q=true then 1 else 0:=by
 unfold zon xW qO
 rw [g1q,List.getElem?_map]
 have:=zo9 M.acc q
 rw [g1q] at this
 cases h:(jc M.acc)[q]? with
 | none=>rw [h] at this;exact this
 | some n=>rw [h] at this;exact this
theorem zpf (M:Mch):∀ (q:Nat) (t:List Nat),0<zG M (xW M.acc) q t↔∃ j,1<=j/\j<=t.length/\qO M (zA M q (t.take j))=true
 | q,[] => by
   constructor
   ·intro h;exact absurd h (by simp [zG])
   ·rintro ⟨j,h1,h2,_⟩
    simp at h2;omega
 | q,b :: t => by
   have ih:=zpf M (stp M q b) t
   rw [zdu,zjk]
   constructor
   ·intro h
    by_cases ha:qO M (stp M q b)=true
    ·exact ⟨1,Nat.le_refl _,by simp,ha⟩
    ·rw [if_neg ha,Nat.zero_add] at h
     obtain ⟨j,h1,h2,h3⟩:=ih.1 h
     exact ⟨j+1,by omega,by simp;omega,h3⟩
   ·rintro ⟨j,h1,h2,h3⟩
    obtain ⟨i,rfl⟩:∃ i,j=i+1:=⟨j - 1,by omega⟩
    rw [List.take_succ_cons] at h3
    by_cases hi:i=0
    ·subst hi
     have h3:qO M (stp M q b)=true:=h3
     rw [if_pos h3];omega
    ·have:=ih.2 ⟨i,by omega,by simp at h2;omega,h3⟩
     omega
theorem zib (M:Mch):∀ (q:Nat) (t:List Nat),zG M (xW M.acc) q t<=t.length
 | q,[]=>Nat.le_refl _
 | q,b :: t => by
   have ih:=zib M (stp M q b) t
   rw [zdu,zjk,List.length_cons]
   split<;>omega
theorem zuU {M:Mch} {q:Nat} {t:List Nat} (hne:t≠[]) (h:qO M (zA M q t)=true):qf M (xW M.acc) q t=t.length:=by
 rcases List.eq_nil_or_concat t with rfl|⟨t',b,rfl⟩
 ·exact absurd rfl hne
 ·rw [List.concat_eq_append] at h ⊢
  rw [xZ] at h
  have h:qO M (stp M (zA M q t') b)=true:=h
  rw [vf]
  have e:qf M (xW M.acc) (zA M q t') [b]=1:=by
   rw [qf,zjk,if_pos h]
   have e0:qf M (xW M.acc) (stp M (zA M q t') b) []=0:=rfl
   rw [e0];rfl
  rw [e,if_neg (by decide),g6q];rfl
theorem okT_iff {M:Mch} {X:List Nat}:okT M X=true↔∃ j,j<=X.length/\lng M M.start.toNat (X.take j)=true:=by
 unfold okT kP
 rw [Bool.or_eq_true,decide_eq_true_eq]
 have h0:0<qf M (xW M.acc) M.start.toNat X↔0<zG M (xW M.acc) M.start.toNat X:=by
  have:=lstH_zero (M:=M) (H:=xW M.acc) (q:=M.start.toNat) (t:=X)
  omega
 rw [h0,zpf]
 constructor
 ·rintro (⟨j,_,h2,h3⟩|h)
  ·exact ⟨j,h2,h3⟩
  ·exact ⟨0,Nat.zero_le _,h⟩
 ·rintro ⟨j,h2,h3⟩
  by_cases hj:j=0
  ·subst hj;exact .inr h3
  ·exact .inl ⟨j,by omega,h2,h3⟩
theorem pre_iff {X:List Nat} {L:List Nat->Prop}:(∃ u,u <:+ X.reverse/\L u.reverse)↔∃ j,j<=X.length/\L (X.take j):=by
 constructor
 ·rintro ⟨u,hu,h⟩
  have hp:u.reverse <+: X:=by
   have:=List.reverse_prefix.2 hu
   rwa [List.reverse_reverse] at this
  refine ⟨u.reverse.length,hp.length_le,?_⟩
  rw [←List.prefix_iff_eq_take.1 hp];exact h
 ·rintro ⟨j,_,h⟩
  exact ⟨(X.take j).reverse,List.reverse_suffix.2 (List.take_prefix j X),by rw [List.reverse_reverse];exact h⟩
theorem zxx {L:List Nat->Prop} {M1 M2 M3:Mch} {X:List Nat} (hX:BT X) (h1:∀ t,BT t->(lng M1 M1.start.toNat t=true↔L t)) (h2:∀ t,BT t->(lng M2 M2.start.toNat t=true↔∃ u,u <:+ t/\L u.reverse)) (h3:∀ t,BT t->(lng M3 M3.start.toNat t=true↔∃ u,u <:+ t/\L u.reverse)) :
 okT M1 X=qO M3 (zA M3 M3.start.toNat X.reverse)/\(okT M1 X=true->okT M2 X.reverse=true/\kP M2 X.reverse=X.length):=by
 have hXr:BT X.reverse:=fun b hb=>hX b (List.mem_reverse.1 hb)
 have hpre:∀ j,BT (X.take j):=fun j b hb=>hX b (List.mem_of_mem_take hb)
 have e1:okT M1 X=true↔∃ j,j<=X.length/\L (X.take j):=by
  rw [okT_iff]
  constructor
  ·rintro ⟨j,h,h'⟩;exact ⟨j,h,(h1 _ (hpre j)).1 h'⟩
  ·rintro ⟨j,h,h'⟩;exact ⟨j,h,(h1 _ (hpre j)).2 h'⟩
 refine ⟨?_,fun h=>?_⟩
 ·rw [Bool.eq_iff_iff,e1,←pre_iff]
  exact (h3 _ hXr).symm
 ·have hl:lng M2 M2.start.toNat X.reverse=true:=(h2 _ hXr).2 (pre_iff.2 (e1.1 h))
  refine ⟨okT_iff.2 ⟨X.reverse.length,Nat.le_refl _,by rw [List.take_length];exact hl⟩,?_⟩
  by_cases h0:X=[]
  ·subst h0;rfl
  ·have:=zuU (M:=M2) (q:=M2.start.toNat) (t:=X.reverse) (by simpa using h0) hl
   rw [List.length_reverse] at this
   exact this
theorem zrC {P:Program} {w0:World} {fp0:List Nat} {L:List Ent} {f:FuncId} {args:List Value} {k:SV->List Ent->Prop} {p:Prop} (h:∀ w,R w0 fp0 L w->p) (hk:p->zT P w0 fp0 f args L k):zT P w0 fp0 f args L k:=fun w hR=>hk (h w hR) w hR
theorem zpg {M:Mch} {k:Nat} (hM:MOk M k) (back:Bool) {S:Sto} (hw:WF S):ScOk (acT M back (vU S)) k S:=by
 refine ⟨⟨hM,?_,fun h hh=>?_⟩,hw,zoC hw,fun n=>zki⟩
 ·show ((jc M.acc).map Int.ofNat).length=_
  rw [g8q,uP,hM.acc]
 ·obtain ⟨n,hn,rfl⟩:=List.mem_map.1 hh
  obtain ⟨b,_,rfl⟩:=List.mem_map.1 hn
  split
  ·exact ⟨by decide,by decide⟩
  ·exact ⟨by decide,by decide⟩
end
section
open Go.EG
attribute [local irreducible] zT yE Go.Calls
set_option maxRecDepth 20000
set_option maxHeartbeats 4000000
theorem zv6 {w0:World} {fp0:List Nat} {b1 b2 bs:Nat} {M1 M2:Mch} {S S':Sto} (hw:WF S) (hg:Grow S S') {f1 f2:List Nat} {L:List Ent}:Ref w0 fp0 (packE 178 f1 (fX b1 bs (acT M1 false (vU S)) S.E)::packE 278 f2 (fX b2 bs (acT M2 true (vU S)) S.E)::L)
 (packE 178 f1 (fX b1 bs (acT M1 false (vU S')) S'.E)::packE 278 f2 (fX b2 bs (acT M2 true (vU S')) S'.E)::L) :=
 (Thin.ref (zj2 (k':=178) hw hg (zj2 (k':=278) hw hg (Thin.refl L)))).trans (Thin.ref (zj3 (k':=178) (D':=vU S') (fun i hi=>⟨hi.1,by have:=hg.len;have:=hi.2;omega⟩) (zj3 (k':=278) (D':=vU S') (fun i hi=>⟨hi.1,by have:=hg.len;have:=hi.2;omega⟩) (Thin.refl L))))
theorem zhM (w:World) (hG:Tab w) (word:List Nat) (a:Option Addr) (c:Nat) (hin:In w [] a (byL word)) (hwb:∀ x∈word,x<256) (hc:word.length<=c) (hc2:c<=9223372036854775807) (k n:Int)
 (r:RT) (hrs:r.size<=2199023255552) (hrin:RIn w [] r) (hrpl:RSf w r) :
 Calls Tryz.prog vg #[.slice a word.length c,.agg #[.int .i64 k,.int .i64 n],r.v] w fun e w'=>e=.returned (.bool true)/\Ext w w':=by
 refine zF [.v (.slice a word.length c),.v (.agg #[.int .i64 k,.int .i64 n]),.v r.v] w zam (by simp) ?_
 have c0:=zpK
 have c1:=fun w=>zmE w word.length c a k
 have cS:=fun (W:World) (L':List Ent) (hR:R w [] L' W)=>zg6 84 r hrs W (hG.cast hR (fun _ h=>by cases h)) (fun x hx=>(hrin x hx).cast hR (fun _ h=>by cases h)) (hrpl.later hR)
 have cN:=fun (hV:r.Vl) (hps:r.pos<=64) (bs:Nat) (W:World) (L':List Ent) (hR:R w [] L' W)=>zpT bs (vU ⟨1048576,[]⟩) [] r hrs W (hG.cast hR (fun _ h=>by cases h)) (fun x hx=>(hrin x hx).cast hR (fun _ h=>by cases h)) (hrpl.later hR) hV hps
 have hrc:∃ k s mn mx ps a c,r=.mk k s mn mx ps a c:=by cases r;exact ⟨_,_,_,_,_,_,_,rfl⟩
 obtain ⟨rk,rs,rmn,rmx,rps,ra,rc,hr⟩:=hrc
 have hrv:r.v=RT.v (.mk rk rs rmn rmx rps ra rc):=by rw [hr]
 rw [hrv] at cS cN ⊢
 by_cases h1:0<word.length/\word.length<=40/\1<=k/\k<=1125899906842624
 case neg =>
  rw [decide_eq_false h1] at c1
  (repeat' ((conv=>whnf);first|(first|refine puK c0 ?_|refine quK c0 ?_)|(first|refine puK c1 ?_|refine quK c1 ?_)|refine zh ?_|((first|apply zc|apply za|apply zd)<;>intro h<;>try (exfalso;omega))|refine pay ?_|intro _));(all_goals (conv=>whnf))
  all_goals first|(exfalso;omega)|exact ⟨rfl⟩|skip
 rw [decide_eq_true h1] at c1
 obtain ⟨g1,g2,g3,g4⟩:=h1
 obtain ⟨kn,rfl⟩:∃ kn:Nat,k=kn:=⟨k.toNat,by omega⟩
 obtain ⟨sz,hsz⟩:∃ sz,kn*word.length=sz:=⟨_,rfl⟩
 have hsz1:sz<=1125899906842624*40:=by rw [←hsz];exact Nat.mul_le_mul (by omega) g2
 have hmul:(kn:Int)*(word.length:Int)=(sz:Int):=by rw [←hsz];exact (Int.natCast_mul _ _).symm
 by_cases h2:0<=n/\n<=(sz:Int)
 case neg =>
  (repeat' ((conv=>whnf);first|(first|refine puK c0 ?_|refine quK c0 ?_)|(first|refine puK c1 ?_|refine quK c1 ?_)|rw [hmul]|refine zh ?_|((first|apply zc|apply za|apply zd)<;>intro h<;>try (exfalso;omega))|refine pay ?_|intro _));(all_goals (conv=>whnf))
  all_goals first|(exfalso;omega)|exact ⟨rfl⟩|skip
 obtain ⟨off,rfl⟩:∃ off:Nat,n=off:=⟨n.toNat,by omega⟩
 have hof:off<=sz:=by omega
 have c3:=fun w=>zlP 1048576 77 w
 rw [show zhf 1048576=1048576 from rfl] at c3
 have c4:=fun b key fp w' hR h=>zh4 b word g1 (by omega) hwb ⟨1048576,[]⟩ (WF.new 1048576 (by decide)) (by show 0+2*word.length<=1048576;omega) a c hc hc2 key fp w' hR h
 (repeat' ((conv=>whnf);first|(first|refine puK c0 ?_|refine quK c0 ?_)|(first|refine puK c1 ?_|refine quK c1 ?_)|rw [hmul]|(refine zz (fun w hR=>c3 w) ?_;rintro _ _ ⟨bn,fpn,rfl,rfl⟩;refine ⟨.v _,rfl,?_⟩)|(refine zz (fun w' hR=>cS w' _ hR) ?_;rintro _ _ (⟨en,rfl,rfl⟩|⟨y,F,ky,rfl,rfl,hy,hMy,hLy,hVy,hpy⟩);all_goals refine ⟨.v _,rfl,?_⟩)|(refine zz (fun w' hR=>cN hVy hpy _ w' _ hR) ?_;rintro _ _ (⟨en,rfl,rfl⟩|⟨bf,b1,b2,M1,M2,k1,k2,f1,f2,rfl,rfl,hM1,hM2,hL1,hL2⟩);all_goals refine ⟨.v _,rfl,?_⟩)|(refine qa (key:=77) rfl (fun w' hR' h0=>c4 _ _ _ w' h0 (hin.cast hR' (fun b hb=>List.mem_append_left _ hb))) ?_;rintro _ _ ⟨S,x,f3,rfl,hw,hg,hx1,hk,htx,⟨hlen,hB⟩,rfl⟩;refine ⟨.v _,rfl,?_⟩)|refine zh ?_|((first|apply zc|apply za|apply zd)<;>intro h<;>try (exfalso;omega))|refine pay ?_|intro _));(all_goals (conv=>whnf))
 all_goals first|(exfalso;omega)|exact ⟨rfl⟩|skip
 have hLM:LM=1152921504606846976:=rfl
 have hkn:(kn:Int).toNat=kn:=g7q kn
 have hxl:(tm S.E x).len=word.length:=by unfold Tm.len;rw [htx]
 have hmost:S.most=1048576:=hg.most
 have hlen':S.E.length+1<=0+2*word.length:=hlen
 have hpl:(tm S.E x).len*(kn:Int).toNat=sz:=by rw [hxl,hkn,Nat.mul_comm];exact hsz
 have hw0:WF ⟨1048576,[]⟩:=WF.new 1048576 (by decide)
 obtain ⟨S2,y2,e1,hw2,hg2,hy1,hk2,htx2,hl2⟩:=zyb hw hx1 hk.2 (k:=(kn:Int)) g3 (by rw [hpl];omega) (by omega)
 rw [hkn,htx] at htx2
 have hg02:=hg.trans hg2
 have hty:(rep kn word).length=sz:=by rw [jP];exact hsz
 have cP:=zpw bn S hw x (kn:Int) (by omega)
 rw [e1] at cP
 obtain ⟨X,hX⟩:∃ X,(tm S2.E y2).txt.drop off=X:=⟨_,rfl⟩
 have hl2:(tm S2.E y2).len=sz:=by unfold Tm.len;rw [htx2];exact hty
 have hXl:X.length=sz - off:=by rw [←hX,List.length_drop,htx2,hty]
 have hBX:BT X:=fun b hb=>hw2.byt _ _ (Nat.le_refl _) hk2.2 b (by rw [←hX] at hb;exact List.mem_of_mem_drop hb)
 have hoky:=zpg hMy true hw2
 have hok1:=zpg hM1 false hw2
 have hok2:=zpg hM2 true hw2
 have hms:=hMy.start
 have hys:y.start=y.m.start:=rfl
 obtain ⟨q,hq⟩:∃ q,zA y.m y.m.start.toNat X.reverse=q:=⟨_,rfl⟩
 have hqn:q<y.m.nx.length:=by rw [←hq];exact xI hMy (fun b hb=>hBX b (List.mem_reverse.1 hb)) (by omega)
 obtain ⟨h,hh⟩:∃ h,zG y.m (xW y.m.acc) y.m.start.toNat X.reverse=h:=⟨_,rfl⟩
 have hhl:h<=LM:=by
  have:=zib y.m y.m.start.toNat X.reverse
  rw [hh,List.length_reverse] at this;omega
 have cQ:∀ bt,XC qZ #[pS bt,.int .i64 y2,.int .i64 (off:Int),.int .i64 ((sz - off:Nat):Int),.int .i64 y.start] bt bn (acT y.m true (vU S2)) S2 (.tuple #[.int .i64 (q:Int),.int .i64 (h:Int),.nilIface]):=fun bt=>by
  have:=zh3 bt bn (acT y.m true (vU S2)) hoky.ok S2 hw2 hoky.clo y2 (off:Int) ((sz - off:Nat):Int) y.start (hoky.all y2)
  have hv:zk8 (acT y.m true (vU S2)) S2 y2 (off:Int) ((sz - off:Nat):Int) y.start=.tuple #[.int .i64 (q:Int),.int .i64 (h:Int),.nilIface]:=by
   have hor:ori true (((tm S2.E y2).txt.drop (off:Int).toNat).take (((sz - off:Nat):Int)).toNat)=X.reverse:=by
    rw [g7q,g7q,hX,List.take_of_length_le (by omega)];rfl
   unfold zk8
   rw [if_pos ⟨hk2,by omega,by show y.start<(y.m.nx.length:Int);omega⟩,if_pos ⟨by omega,by omega,by rw [htx2,hty];omega,by rw [htx2,hty];omega⟩]
   show (if zG y.m (xW y.m.acc) y.start.toNat (ori true _)<=LM then _ else _)=_
   rw [hor,hys,hh,if_pos hhl]
   show Value.tuple #[.int .i64 (zA y.m y.m.start.toNat X.reverse:Nat),.int .i64 (h:Int),.nilIface]=_
   rw [hq]
  rw [hv] at this
  exact this
 have cA:=fun (bs:Nat) (W:World) (hm:McI W [] y)=>zkz 78 bs (vU S2) S2.E y hm hMy true
 have cL:=fun f1 f2 f3 fp (w:World) hR=>zlD bf b1 b2 bn hok1 hok2 hk2 (at_:=off) (by omega) f1 f2 f3 fp w hR
 have cF:=fun f1 f2 f3 fp (w:World) hR=>zpe bf b1 b2 bn hok1 hok2 hk2 (at_:=off) (by omega) f1 f2 f3 fp w hR
 rw [hX] at cL cF
 obtain ⟨b1l,b2l⟩:=zxx hBX hL1 hL2 hLy
 rw [hq] at b1l
 obtain ⟨v1,v2,v3,hfr,hfr2⟩:∃ (v1 v2:Int) (v3:Bool),frV M1 M2 X off=.tuple #[.agg #[.int .i64 v1,.int .i64 v2],.bool v3,.nilIface]/\(okT M1 X=true->v1=(off:Int)/\v3=true):=by
  unfold frV
  by_cases hc:okT M2 X.reverse=true/\okT M1 (X.drop (X.length - kP M2 X.reverse))=true
  ·rw [if_pos hc]
   refine ⟨_,_,_,rfl,fun h=>⟨?_,rfl⟩⟩
   obtain ⟨_,h2⟩:=b2l h
   rw [h2,Nat.sub_self];omega
  ·rw [if_neg hc]
   refine ⟨_,_,_,rfl,fun h=>?_⟩
   obtain ⟨h3,h4⟩:=b2l h
   rw [h4,Nat.sub_self,List.drop_zero] at hc
   exact absurd ⟨h3,h⟩ hc
 rw [hfr] at cF
 obtain ⟨B,hB0⟩:∃ B,okT M1 X=B:=⟨_,rfl⟩
 rw [hB0] at cL b1l hfr2
 obtain ⟨N1,hN1⟩:∃ N,kP M1 X=N:=⟨_,rfl⟩
 rw [hN1] at cL
 have hsub:((sz:Nat):Int) - ((off:Nat):Int)=((sz - off:Nat):Int):=by omega
 have hacl:y.m.acc.length=y.m.nx.length:=hMy.acc
 have hya:y.m.acc=y.acc:=rfl
 have hqy:q<y.acc.length:=by
  have h:y.acc.length=y.m.nx.length:=hMy.acc
  omega
 have hacq:(y.acc.map Value.bool)[q]?=some (.bool B):=by
  have e:y.acc.getD q false=B:=b1l.symm
  rw [g1q,g2q hqy] at e
  rw [List.getElem?_map,g2q hqy]
  exact congrArg (fun b=>some (Value.bool b)) e
 have rdz:=fun {L Lr:List Ent} (hm:qP 84 L=some (frE 84 F,Lr))=>FIn.rdP (w0:=w) (fp0:=[]) hm hy.acc (k:=q) (v:=.bool B) hacq
 clear c0 c1 cS cN c4 b2l hL1 hL2 hLy
 clear b1l hacq
 have hya0:0<(y.acc.map Value.bool).length:=by rw [g8q];omega
 (repeat' ((conv=>whnf);first|refine SC.go 77 cP rfl fun fp'=>?_|rw [hmul]|rw [hsub]|(refine zz (fun w' hR=>cA _ w' (MFz.in_ (key:=84) hR rfl hy)) ?_;rintro _ _ ⟨bt,ft,rfl,rfl⟩;refine ⟨.v _,rfl,?_⟩)|(refine XC.go 78 77 (cQ _) rfl rfl fun fp1' fp2'=>?_)|refine zh ?_|((first|apply zc|apply za|apply zd)<;>intro h<;>try (exfalso;omega))|refine pay ?_|intro _));(all_goals (conv=>whnf))
 all_goals first|(exfalso;omega)|exact ⟨rfl⟩|skip
 refine zgn (Ref.takes [178,278,77,3100,9,84] rfl (.refl _)) ?_
 refine zgn (zv6 hw0 hg02) ?_
 refine zrC (fun w' hR=>FIn.ne hR ((zV (key:=84) rfl).mem_iff.2 g5q) hy.acc hya0) fun nya=>?_
 refine zD [3100,178,278,77] rfl (fun w' hR hR0=>cL _ _ _ _ w' hR0) ?_
 rintro _ _ ⟨g1',g2',g3',rfl,rfl⟩
 refine ⟨.v _,rfl,?_⟩
 cases B
 ·(repeat' ((conv=>whnf);first|rw [g7q]|(refine zD [3100,178,278,77] rfl (fun w' hR hR0=>cF _ _ _ _ w' hR0) ?_;rintro _ _ ⟨z1,z2,z3,rfl,rfl⟩;refine ⟨.v _,rfl,?_⟩)|refine ⟨_,rdz rfl,?_⟩|refine zh ?_|((first|apply zc|apply za|apply zd)<;>intro h<;>try (exfalso;omega))|refine pay ?_|intro _));(all_goals (conv=>whnf))
  all_goals first|(exfalso;omega)|exact ⟨rfl⟩|skip
 ·obtain ⟨rfl,rfl⟩:=hfr2 rfl
  (repeat' ((conv=>whnf);first|rw [g7q]|(refine zD [3100,178,278,77] rfl (fun w' hR hR0=>cF _ _ _ _ w' hR0) ?_;rintro _ _ ⟨z1,z2,z3,rfl,rfl⟩;refine ⟨.v _,rfl,?_⟩)|refine ⟨_,rdz rfl,?_⟩|refine zh ?_|((first|apply zc|apply za|apply zd)<;>intro h<;>try (exfalso;omega))|refine pay ?_|intro _));(all_goals (conv=>whnf))
  all_goals first|(exfalso;omega)|exact ⟨rfl⟩|(refine ⟨?_⟩;show Value.bool (decide _)=Value.bool true;rw [decide_eq_true rfl])
end
section
open Go.ChangeShapes Go.WideShapes Go.RowKit Go.EG
abbrev zm5 : List (String × DataW Unit) := [("math/bits.deBruijn64tab", Rows.laid_math_bits_deBruijn64tab)]
theorem tabName : Tryz.prog.globalNamed "math/bits.deBruijn64tab" = some 0 := by kernel_rfl
theorem tabType:(Tryz.prog.globals[0]?).map (·.type)=some 232:=by kernel_rfl
theorem zuV:Tryz.prog.cellsOf 5=1:=by kernel_rfl
theorem zv7:Rows.laid_math_bits_deBruijn64tab=(DataW.agg (tabI.map fun n=>DataW.lit (.int .u8 n)):DataW Unit):=rfl
theorem zpU {W:World} (h:laidMetH Tryz.prog zm5 W):Tab W:=by
 have h':laidMet Tryz.prog zm5 W:=by
  rw [←show laidMetH Tryz.prog zm5 W=laidMet Tryz.prog zm5 W from rfl];exact h
 obtain ⟨ps,⟨g,t,cs,fuel,p,q,hg,ht,hvar,hd,_,_⟩,_⟩:=h'
 obtain rfl:=Option.some.inj (tabName.symm.trans hg)
 obtain rfl:=Option.some.inj (tabType.symm.trans ht)
 obtain ⟨xs,m,_,hx,hlen,hxl,hat⟩:=DataW.trod_array Tryz.underlying232 hd
 obtain ⟨hx1,_⟩:=Prod.mk.inj hx
 rw [zv7] at hx1
 simp only [DataW.agg.injEq] at hx1
 have hcell:∀ i,i<64->cs[i]?=some (.int .u8 (tabI.getD i 0)):=fun i hi=>by
  have h1:=hat i hi
  rw [zuV,Nat.mul_one] at h1
  have hxi:∃ y,xs[i]?=some y:=⟨xs[i],by simp [hxl,hi]⟩
  obtain ⟨y,hy⟩:=hxi
  rw [hy] at h1
  obtain ⟨n,hn,hyn,_⟩:=DataW.trod_int Tryz.underlying5 h1
  subst hyn
  have h2:=congrArg (fun l=>l[i]?) hx1
  simp only [List.getElem?_map,hy,Option.map_some] at h2
  have h3:tabI[i]?=some (tabI.getD i 0):=by
   rw [g1q]
   have:i<tabI.length:=by rw [za2];exact hi
   simp [this]
  rw [h3] at h2
  simp only [Option.map_some,g3q,DataW.lit.injEq,Lit.int.injEq,true_and] at h2
  rw [h2]
  have h4:=congrArg (fun l=>l[0]?) hn
  simp only [List.getElem?_take,List.getElem?_drop,Nat.add_zero,List.getElem?_cons_zero,Nat.zero_lt_one,if_true] at h4
  rw [←h4]
  simp
 refine .inr ⟨0,0,rfl,?_,by simp,fun j v hv=>?_⟩
 ·have h0:=World.var?_cell hg hvar 0
  rw [hcell 0 (by decide)] at h0
  unfold World.cell? at h0
  rcases Nat.lt_or_ge 0 W.heap.size with h|h
  ·exact h
  ·rw [Array.getElem?_eq_none h] at h0
   simp at h0
 ·have hj:j<64:=by
   have:=(List.getElem?_eq_some_iff.1 hv).1
   rw [ints_length,za2] at this
   exact this
  rw [yM (by rw [za2];exact hj)] at hv
  rw [Nat.zero_add,World.var?_cell hg hvar j,hcell j hj]
  exact hv
noncomputable def zmi (os:Os):World :=
 let w0:=World.holding Tryz.prog os ⟨#[],#[],[]⟩
 { w0 with heap:=w0.heap.modify 0 fun
  | .cells _ t frozen=>.cells (zu .u8 tabI).toArray t frozen
  | o=>o }
end
section
open Go.ChangeShapes Go.WideShapes Go.ChangeAt Go.RowKit Go.EG
theorem zqT {α:Type} (Q:Nat->α->Prop):∀ len:Nat,(∀ i,i<len->∃ x,Q i x)->∃ l:List α,l.length=len/\∀ i x,l[i]?=some x->Q i x
 | 0,_=>⟨[],rfl,fun i x h=>by simp at h⟩
 | n + 1,h => by
   obtain ⟨l,hl,hq⟩:=zqT Q n fun i hi=>h i (by omega)
   obtain ⟨x,hx⟩:=h n (by omega)
   refine ⟨l++[x],by simp [hl],fun i y hy=>?_⟩
   rw [List.getElem?_append] at hy
   split at hy
   ·exact hq i y hy
   ·rename_i hn
    have hi:=(List.getElem?_eq_some_iff.1 hy).1
    simp at hi
    have:i=n:=by omega
    subst this
    rw [hl,Nat.sub_self] at hy
    simp at hy
    rw [←hy];exact hx
section
variable {H:Type} {enc:TypeId × Value->H} {w:World} {base:Nat} {spare:Nat->Bool} {held:Bool}
theorem zph {a:Addr} {xs:List Value} (h:∀ i v,xs[i]?=some v->w.cell? (a.add i)=some v):In w [] (some a) xs:=by
 by_cases hx:xs=[]
 ·exact .inl hx
 obtain ⟨b,off,spot⟩:=a
 obtain ⟨v0,hv0⟩:∃ v,xs[0]?=some v:=⟨_,g2q (List.length_pos_iff.2 hx)⟩
 have hc0:=h 0 v0 hv0
 have hspot:spot=none:=by simpa [Addr.add] using World.cell?_spot hc0
 subst hspot
 refine .inr ⟨b,off,rfl,?_,by simp,fun j v hv=>?_⟩
 ·have:w.cell? ⟨b,off,none⟩=some v0:=by simpa [Addr.add] using hc0
  unfold World.cell? at this
  rcases Nat.lt_or_ge b w.heap.size with h|h
  ·exact h
  ·rw [Array.getElem?_eq_none h] at this
   simp at this
 ·have h1:=h j v hv
  rw [←h1]
  congr 1
  simp only [Addr.add]
  split
  ·rename_i h;subst h;rfl
  ·rfl
theorem zpi {P:Program} {t e:TypeId} {fuel:Nat} {cs:List Value} {x:DataW H × List MemPlace} (ht:P.underlying t=some (.slice e)) (he:P.underlying e=some (.int .u8)) (hc:P.cellsOf e=1) (h:DataW.trod enc P w base spare held fuel t cs=some x) :
 ∃ a cap xs,cs=[.slice a (xs:List Nat).length cap]/\In w [] a (byL xs)/\xs.length<=cap/\cap<=9223372036854775807/\∀ z∈xs,z<256:=by
 rcases open_ints ht he hc h with ⟨hcs,_⟩|⟨a,len,cap,zs,hcs,_,hl,hm,hz,hd,hcell,hwz⟩
 ·exact ⟨none,0,[],hcs,.inl rfl,Nat.le_refl _,by decide,fun z h=>by cases h⟩
 ·have hle:len<=zs.length:=by rw [hz];split<;>omega
  have hw:∀ z∈zs,0<=z/\z<256:=fun z hz=>by have:=zxC (hwz z hz);omega
  have hlen:((zs.take len).map Int.toNat).length=len:=by rw [g8q,List.length_take];omega
  have hback:((zs.take len).map Int.toNat).map Int.ofNat=zs.take len:=by
   rw [List.map_map]
   conv=>rhs;rw [←List.map_id (zs.take len)]
   refine List.map_congr_left fun z hz=>?_
   have:=(hw z (List.mem_of_mem_take hz)).1
   show ((z.toNat:Nat):Int)=z
   omega
  refine ⟨some a,cap,(zs.take len).map Int.toNat,by rw [hlen];exact hcs,?_,by omega,by unfold maxLen at hm;omega,fun z hz=>?_⟩
  ·unfold byL
   rw [hback]
   refine zph fun i v hv=>?_
   have hi:i<(zs.take len).length:=by
    have:=(List.getElem?_eq_some_iff.1 hv).1
    rwa [ints_length] at this
   rw [yM hi] at hv
   cases hv
   rw [List.length_take] at hi
   rw [hcell i (by omega),g1q,g1q,List.getElem?_take,if_pos (by omega)]
  ·obtain ⟨y,hy,rfl⟩:=List.mem_map.1 hz
   have:=hw y (List.mem_of_mem_take hy)
   omega
theorem zuW {P:Program} {t e:TypeId} {r:Reach} {b0:Nat} {v:Value} {d:DataW H} {ps:List MemPlace} (ht:P.underlying t=some (.array 2 e)) (he:P.underlying e=some (.int .i64)) (hc:P.cellsOf e=1) (hc2:P.cellsOf t=2) (hval:Value.okWide P w r b0 t v) (hd:DataW.Trod enc P w base spare held t v d ps) :
 ∃ k n:Int,v=.agg #[.int .i64 k,.int .i64 n]:=by
 unfold Value.okWide at hval
 rw [ht] at hval
 obtain ⟨cs,rfl,hsz,_⟩:=hval
 obtain ⟨fuel,hf⟩:=hd
 rw [show (Value.agg cs).cells.toList=cs.toList from rfl] at hf
 obtain ⟨xs,m,_,_,hl,hlen,hfi⟩:=DataW.trod_array ht hf
 rw [hc2] at hl
 have f0:=hfi 0 (by decide)
 have f1:=hfi 1 (by decide)
 rw [hc,g2q (by omega)] at f0 f1
 obtain ⟨k,e0,_,_⟩:=DataW.trod_int he f0
 obtain ⟨n,e1,_,_⟩:=DataW.trod_int he f1
 obtain ⟨l⟩:=cs
 match l,hl with
 | [x0,x1],_ =>
   simp at e0 e1
   exact ⟨k,n,by rw [e0,e1]⟩
end
theorem zv8 {l:List RT} {i:Nat} {v:Value} (h:(rtL l)[i]?=some v):∃ r,l[i/8]?=some r/\r.cells[i%8]?=some v:=by
 have e:rtL l=(l.map RT.cells).flatten:=by unfold rtL;rw [List.flatMap_def]
 rw [e,zhT (n:=8) (by decide) fun vs hv=>by obtain ⟨r,_,rfl⟩:=List.mem_map.1 hv;exact RT.cells_len r] at h
 obtain ⟨cs,hr,hv⟩:=Option.bind_eq_some_iff.1 h
 rw [List.getElem?_map] at hr
 obtain ⟨r,hl,rfl⟩:=Option.map_eq_some_iff.1 hr
 exact ⟨r,hl,hv⟩
theorem RT.mem_rowss {x:Option Addr × List Value}:∀ {l:List RT},x∈RT.rowss l->∃ q∈l,x∈q.rows
 | p :: l,h => by
   rw [RT.rowss] at h
   rcases List.mem_append.1 h with h|h
   ·exact ⟨p,g5q,h⟩
   ·obtain ⟨q,hq,hx⟩:=RT.mem_rowss h
    exact ⟨q,g4q _ hq,hx⟩
 | [],h=>by rw [RT.rowss] at h;cases h
theorem zpj {H:Type}:∀ {ds:List (DataW H)} {d:DataW H},d∈ds->Rows.uptoBulk d<=Rows.uptoBulkAll ds
 | x :: ds,d,h => by
   rw [Rows.uptoBulkAll]
   rcases List.mem_cons.1 h with rfl|h
   ·omega
   ·have:=zpj h;omega
theorem zkA {H:Type}:∀ {l:List RT} {ds:List (DataW H)},(∀ (i:Nat) (r:RT),l[i]?=some r->∃ d,ds[i]?=some d/\r.size<=Rows.uptoBulk d)->RT.sizes l<=Rows.uptoBulkAll ds
 | [],ds,_=>Nat.zero_le _
 | r::l,[],h=>by obtain ⟨d,hd,_⟩:=h 0 r rfl;simp at hd
 | r :: l,d :: ds,h => by
   obtain ⟨d',hd,h1⟩:=h 0 r rfl
   simp only [List.getElem?_cons_zero,g3q] at hd
   subst hd
   have:=zkA (l:=l) (ds:=ds) fun i r hr=>h (i+1) r (by simpa using hr)
   rw [RT.sizes,Rows.uptoBulkAll];omega
section
variable {H:Type} {enc:TypeId × Value->H} {w:World} {held:Bool}
theorem zfX {P:Program} {t:TypeId} {fuel:Nat} {v:Value} {x:DataW H × List MemPlace} {base:Nat} {spare:Nat->Bool} (ht:P.underlying t=some (.int .u64)) (h:DataW.trod enc P w base spare held fuel t [v]=some x):∃ n:Nat,v=.int .u64 (n:Int)/\n<18446744073709551616:=by
 obtain ⟨n,e,_,hw⟩:=DataW.trod_int ht h
 have:=zwj hw
 simp only [List.cons.injEq,and_true] at e
 exact ⟨n.toNat,by rw [e];congr 1;omega,by omega⟩
theorem zpk {P:Program} {tr ti ta tu tp:TypeId} {fs:Array Field} (hr:P.underlying tr=some (.struct fs)) (hfs:fs.toList.map (fun f=>(f.type,f.offset))=[(ti,0),(ta,1),(ti,5),(ti,6),(tp,7)])
 (hi:P.underlying ti=some (.int .i64)) (ha:P.underlying ta=some (.array 4 tu)) (hu:P.underlying tu=some (.int .u64)) (hp:P.underlying tp=some (.slice tr))
 (cr:P.cellsOf tr=8) (ci:P.cellsOf ti=1) (ca:P.cellsOf ta=4) (cu:P.cellsOf tu=1) (cp:P.cellsOf tp=1) :
 ∀ (N fuel:Nat),fuel<=N->∀ (cs:List Value) (x:DataW H × List MemPlace),DataW.trod enc P w 0 (fun _=>true) held fuel tr cs=some x->w.noneFrozen x.2->∃ r:RT,cs=r.cells/\RIn w [] r/\RSf w r/\r.size<=Rows.uptoBulk x.1
 | 0,fuel,hN,cs,x,h,hf => by
   obtain ⟨xs,m,e,_⟩:=DataW.trod_struct hr h
   omega
 | N + 1,fuel,hN,cs,x,h,hf => by
   obtain ⟨xs,m,rfl,rfl,hcl,hxl,hfi⟩:=DataW.trod_struct hr h
   rw [cr] at hcl
   have fld:∀ (i:Nat) (t:TypeId) (o:Nat),[(ti,0),(ta,1),(ti,5),(ti,6),(tp,7)][i]?=some (t,o)->∃ y,xs[i]?=some y/\DataW.trod enc P w 0 (fun _=>true) held m t ((cs.drop o).take (P.cellsOf t))=some y:=fun i t o hio=>by
    rw [←hfs,List.getElem?_map] at hio
    obtain ⟨f,hff,he⟩:=Option.map_eq_some_iff.1 hio
    cases he
    have hff':fs[i]?=some f:=by simpa using hff
    have h1:=hfi i f hff'
    have hlt:i<xs.length:=by rw [hxl];exact (Array.getElem?_eq_some_iff.1 hff').1
    rw [g2q hlt] at h1
    exact ⟨_,g2q hlt,h1⟩
   obtain ⟨y0,hy0,f0⟩:=fld 0 ti 0 rfl
   obtain ⟨y1,hy1,f1⟩:=fld 1 ta 1 rfl
   obtain ⟨y2,hy2,f2⟩:=fld 2 ti 5 rfl
   obtain ⟨y3,hy3,f3⟩:=fld 3 ti 6 rfl
   obtain ⟨y4,hy4,f4⟩:=fld 4 tp 7 rfl
   rw [ci] at f0 f2 f3
   rw [ca] at f1
   rw [cp] at f4
   match cs,hcl with
   | [c0,c1,c2,c3,c4,c5,c6,c7],_ =>
   simp only [List.drop_zero,List.drop_succ_cons,List.take_succ_cons,List.take_zero] at f0 f1 f2 f3 f4
   obtain ⟨k,e0,_,_⟩:=DataW.trod_int hi f0
   obtain ⟨mn,e2,_,_⟩:=DataW.trod_int hi f2
   obtain ⟨mx,e3,_,_⟩:=DataW.trod_int hi f3
   obtain ⟨zs,m1,_,_,_,hzl,hzi⟩:=DataW.trod_array ha f1
   have g0:=hzi 0 (by decide)
   have g1:=hzi 1 (by decide)
   have g2:=hzi 2 (by decide)
   have g3:=hzi 3 (by decide)
   rw [cu,g2q (by omega)] at g0 g1 g2 g3
   obtain ⟨s0,q0,b0⟩:=zfX hu g0
   obtain ⟨s1,q1,b1⟩:=zfX hu g1
   obtain ⟨s2,q2,b2⟩:=zfX hu g2
   obtain ⟨s3,q3,b3⟩:=zfX hu g3
   simp only [List.cons.injEq,and_true] at e0 e2 e3
   subst e0 e2 e3 q0 q1 q2 q3
   have hm4:y4∈xs:=List.mem_of_getElem? hy4
   have hf4:w.noneFrozen y4.2:=fun b off hb=>hf b off (List.mem_flatMap.2 ⟨y4,hm4,hb⟩)
   have hb4:Rows.uptoBulk y4.1+1<=Rows.uptoBulk (DataW.agg (xs.map (·.1))):=by
    rw [Rows.uptoBulk]
    have:=zpj (List.mem_map_of_mem (f:=(·.1)) hm4)
    omega
   rcases DataW.trod_slice hp f4 with ⟨hcs,_⟩|⟨a,len,cap,elems,rest,n,hmn,hcs,hye,hb,hl,hm,hlen,hel,hsp,hns⟩
   ·simp only [List.cons.injEq,and_true] at hcs
    subst hcs
    refine ⟨.mk k ⟨s0,s1,s2,s3,b0,b1,b2,b3⟩ mn mx [] none 0,rfl,fun x hx=>?_,fun x hx b o he=>?_,?_⟩
    ·rw [RT.rows,RT.rowss] at hx
     rw [List.mem_singleton.1 hx];exact .inl rfl
    ·rw [RT.rows,RT.rowss] at hx
     rw [List.mem_singleton.1 hx] at he
     cases he
    ·rw [RT.size,RT.sizes];dsimp only;omega
   ·simp only [List.cons.injEq,and_true] at hcs
    subst hcs
    obtain ⟨l,hl2,hq⟩:=zqT (fun i (r:RT)=>(∀ j v,r.cells[j]?=some v->w.cell? (a.add (i*8+j))=some v)/\RIn w [] r/\RSf w r/\∃ d,(elems.map (·.1))[i]?=some d/\r.size<=Rows.uptoBulk d) len fun i hi2=>by
     have h1:=hel i hi2
     rw [cr,g2q (by omega)] at h1
     obtain ⟨cs',hcs',hy⟩:=Option.bind_eq_some_iff.1 h1
     obtain ⟨_,hcl',hcell⟩:=World.cells?_some hcs'
     have hme:elems[i]'(by omega)∈elems:=List.getElem_mem ..
     obtain ⟨r,rfl,r1,r2,r3⟩:=zpk hr hfs hi ha hu hp cr ci ca cu cp N n (by omega) cs' _ hy fun b off hb'=>hf4 b off (by
      rw [hye]
      exact List.mem_append_right _ (List.mem_flatMap.2 ⟨_,List.mem_append_left _ hme,hb'⟩))
     refine ⟨r,fun j v hv=>?_,r1,r2,(elems[i]'(by omega)).1,by rw [List.getElem?_map,g2q (by omega)];rfl,r3⟩
     have hj:=(List.getElem?_eq_some_iff.1 hv).1
     rw [RT.cells_len] at hj
     rw [←Addr.add_add,hcell j hj];exact hv
    have hmem:∀ r∈l,RIn w [] r/\RSf w r:=fun r hr'=>by
     obtain ⟨i,hi'⟩:=List.getElem?_of_mem hr'
     exact ⟨(hq i r hi').2.1,(hq i r hi').2.2.1⟩
    have hrow:∀ i v,(rtL l)[i]?=some v->w.cell? (a.add i)=some v:=fun i v hv=>by
     obtain ⟨r,h1,h2⟩:=zv8 hv
     have:=(hq _ r h1).1 _ v h2
     rw [show i/8*8+i%8=i by omega] at this
     exact this
    refine ⟨.mk k ⟨s0,s1,s2,s3,b0,b1,b2,b3⟩ mn mx l (some a) cap,by rw [RT.cells,hl2],fun x hx=>?_,fun x hx b o he j hj=>?_,?_⟩
    ·rw [RT.rows] at hx
     rcases List.mem_cons.1 hx with rfl|hx
     ·exact zph hrow
     ·obtain ⟨q,hq',hx⟩:=RT.mem_rowss hx
      exact (hmem q hq').1 x hx
    ·rw [RT.rows] at hx
     rcases List.mem_cons.1 hx with rfl|hx
     ·dsimp only at he hj
      cases he
      intro ad had
      cases had
      have hc:=hrow j _ (g2q hj)
      have hlj:j<(elems.length+rest.length)*P.cellsOf tr:=by
       rw [vG,hl2] at hj
       rw [cr,hlen];omega
      have hfz:=hf4 b (o+j) (by rw [hye];exact List.mem_append_left _ (List.mem_map.2 ⟨j,List.mem_range.2 hlj,rfl⟩))
      unfold World.cell? at hc
      have hadd:((⟨b,o,none⟩:Addr).add j).block=b:=by simp only [Addr.add];split<;>rfl
      rw [hadd] at hc
      split at hc
      ·rename_i cs T fz hh
       exact ⟨_,_,_,hh,hfz⟩
      ·cases hc
     ·obtain ⟨q,hq',hx⟩:=RT.mem_rowss hx
      exact (hmem q hq').2 x hx b o he j hj
    ·have hs:=zkA (l:=l) (ds:=elems.map (·.1)) fun i r hr'=>(hq i r hr').2.2.2
     have hy:Rows.uptoBulk y4.1=Rows.uptoBulkAll (elems.map (·.1))+Rows.uptoBulkAll (rest.map (·.1))+1:=by rw [hye,Rows.uptoBulk]
     rw [RT.size];dsimp only;omega
end
end
end Go.Proofs.YtjmlialibdobpaaGreatDoor
