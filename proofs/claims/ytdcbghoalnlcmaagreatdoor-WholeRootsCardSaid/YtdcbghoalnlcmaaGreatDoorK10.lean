/- A row of one's own, sorted by the library. No condition. -/
import Derived.Test.YtdcbghoalnlcmaaGreatDoorK2
import Derived.Sort.OwnSortedInts
import Derived.Test.YtdcbghoalnlcmaaGreatDoorK5
import Derived.Test.YtdcbghoalnlcmaaGreatDoorK4
import Derived.Test.YtdcbghoalnlcmaaGreatDoorK6
import Derived.Laws.Externs
import Derived.Lib.Overlaps
import Derived.KernelRfl
set_option linter.unusedSectionVars false
set_option linter.unusedVariables false
set_option linter.unusedSimpArgs false
namespace Go.EG
open Go Go.Sort
def zaw (P:Program) (f:FuncId):Prop :=
 ∀ (blk off cap : Nat) (zs : List Int) (w : World),Holds (Value.int .i64) w blk off zs.toArray -> blk < w.heap.size -> zs.length < 4611686018427387904 ->
   Calls P f #[.slice (some ⟨blk,off,none⟩) zs.length cap] w fun e w'=>e=.returned (.tuple #[])/\∃ n os,w'=grow (putRow (Value.int .i64) (Sort.ahead w n) blk off (zs.mergeSort fun x y=>decide (x<=y)).toArray) os
theorem zvq {w0 w:World} {fp0:List Nat} {L:List Ent} {key:Nat} {a:Option Addr} {n c T:Nat} {zs:List Int} (hR:R w0 fp0 L w) (hb:zL key L=some ⟨a,n,c,T,1,zt .i64 zs⟩) (hn:zs.length=n) (h0:0<n) :
 ∃ blk,a = some ⟨blk,0,none⟩ /\ Holds (Value.int .i64) w blk 0 zs.toArray /\ blk < w.heap.size /\
   ∀ m os,R w0 fp0 (qp key a n c (zt .i64 (zs.mergeSort fun x y=>decide (x<=y))) L) (grow (putRow (Value.int .i64) (Sort.ahead w m) blk 0 (zs.mergeSort fun x y=>decide (x<=y)).toArray) os):=by
 obtain ⟨L',h1,h2⟩:=yj hb
 have hR':=hR.perm h1
 have hrow:w.ownsRow 0 T 1 (.slice a n c) n (zt .i64 zs):=hR'.ok (.own key a n c T 1 (zt .i64 zs)) (g5q ..)
 rcases hrow.2 with ⟨hv,h⟩|⟨g,cap,cur,hv,hbase,hg,r3,r4,r5,r6⟩
 ·omega
 ·simp only [Value.slice.injEq,true_and] at hv
  obtain ⟨rfl,rfl⟩:=hv
  subst hn
  have hlt:g<w.heap.size:=(Array.getElem?_eq_some_iff.1 hg).1
  refine ⟨g,rfl,holds_of_blockI hg (by simpa [zt] using r6),hlt,fun m os=>?_⟩
  obtain ⟨g1,g2,g3,g4,g5⟩:=grownBy_sortedI (w:=w) (g:=g) (n:=m) (os:=os) (zs.mergeSort fun x y=>decide (x<=y)).toArray
  refine (R.grow (e':=.own key (some ⟨g,0,none⟩) zs.length c T 1 (zt .i64 (zs.mergeSort fun x y=>decide (x<=y)))) hR' (fun x hx=>.inl hx) (by simp [Ent.fp,Value.ownBlock]) ?_ ?_ ?_ ?_ ?_ ?_ ?_).perm (h2 _ _ _ _).symm
  ·exact ownsRow_sortedI (by simp) hbase hg r3 r4 r5
  ·simp [grow,putRow,mapBlock,Sort.ahead]
  ·rfl
  ·rfl
  ·rfl
  ·exact Nat.le_add_right _ _
  ·intro b hb' hne
   exact g5 b hb' (by simpa [Ent.fp,Value.ownBlock,eq_comm] using hne)
theorem zsr {P:Program} {w0:World} {fp0:List Nat} {L:List Ent} {f:FuncId} {key:Nat} {a:Option Addr} {n c T:Nat} {zs:List Int} {k:SV->List Ent->Prop} (hs:zaw P f) (hb:zL key L=some ⟨a,n,c,T,1,zt .i64 zs⟩) (hn:zs.length=n) (h0:0<n) (hsz:n<4611686018427387904)
 (hk:k (.v (.tuple #[])) (qp key a n c (zt .i64 (zs.mergeSort fun x y=>decide (x<=y))) L)):z8 P w0 fp0 f [.slice a n c] L k:=by
 intro w hR
 obtain ⟨blk,rfl,hH,hlt,hend⟩:=zvq hR hb hn h0
 subst hn
 exact (hs blk 0 c zs w hH hlt hsz).mono fun e w' ⟨he,m,os,hw⟩=>⟨_,.v (.tuple #[]),_,he,rfl,hw ▸ hend m os,hk⟩
end Go.EG
namespace Go.Proofs.YtdcbghoalnlcmaaGreatDoor
section
open Go.EG
attribute [local irreducible] z8 yN Go.Calls
set_option maxRecDepth 20000
set_option maxHeartbeats 4000000
theorem WF.Pos {S:Sto} (hw:WF S):∀ {k:Nat} {i:Int},i=k->1<=i->i<=S.E.length->Pos (tm S.E i):=fun {k}=>by
 induction k using Nat.strongRecOn with
 | ind k ih =>
   intro i hk h1 h2
   obtain ⟨hr,_,ht,_⟩:=hw.at_ h1 h2
   rw [ht]
   unfold mkT
   rcases hr with ⟨k1,_⟩|⟨k1,_,_,k4,k5,k6,k7⟩|⟨k1,_,_,k4,k5,k6⟩
   ·rw [if_pos k1];trivial
   ·rw [if_neg (by omega),if_pos k1]
    exact ⟨ih (atE S.E i).r.a.toNat (by omega) (by omega) k4 (by omega),ih (atE S.E i).r.b.toNat (by omega) (by omega) k6 (by omega)⟩
   ·rw [if_neg (by omega),if_neg (by omega)]
    exact ⟨by omega,ih (atE S.E i).r.a.toNat (by omega) (by omega) k5 (by omega)⟩
theorem WF.pos_ {S:Sto} (hw:WF S) {i:Int} (h1:1<=i) (h2:i<=S.E.length):Go.Proofs.YtdcbghoalnlcmaaGreatDoor.Pos (tm S.E i):=hw.Pos (k:=i.toNat) (by omega) h1 h2
abbrev zix (bp bt bs:Nat):Ent:=.box 3000 bp [pS bs,pS bt] yD
theorem zpD (bp bt bs:Nat) (fp:List Nat) (w:World) (hR:R w fp [zix bp bt bs] w):Calls Tryz.prog zH #[pS bp] w fun e w'=>∃ v L1,e=.returned v/\R w fp L1 w'/\v=pS bs/\L1=[zix bp bt bs]:=by
 refine zf [.ptr 3000 bp 0] zcB (by simp) hR ?_
 (repeat' ((conv=>whnf);first|refine zg ?_|((first|apply zb|apply za|apply zc)<;>intro h<;>try (exfalso;omega))|refine pay ?_|intro _));(all_goals (conv=>whnf))
 exact ⟨⟨_,Ref.refl _,rfl,rfl⟩⟩
theorem zqB (bp bt bs:Nat) (fp:List Nat) (w:World) (hR:R w fp [zix bp bt bs] w):Calls Tryz.prog qg #[pS bp] w fun e w'=>∃ v L1,e=.returned v/\R w fp L1 w'/\v=pS bt/\L1=[zix bp bt bs]:=by
 refine zf [.ptr 3000 bp 0] zc2 (by simp) hR ?_
 (repeat' ((conv=>whnf);first|refine zg ?_|((first|apply zb|apply za|apply zc)<;>intro h<;>try (exfalso;omega))|refine pay ?_|intro _));(all_goals (conv=>whnf))
 exact ⟨⟨_,Ref.refl _,rfl,rfl⟩⟩
theorem goS {bp bt bs:Nat} {w0:World} {fp0:List Nat} {L Lr:List Ent} {k:SV->List Ent->Prop} (hp:zcm [3000] L=some ([zix bp bt bs],Lr)) (hk:k (.v (pS bs)) ([zix bp bt bs]++Lr)):z8 Tryz.prog w0 fp0 zH [pS bp] L k :=
 zh [3000] hp (fun w hR h0=>zpD bp bt bs _ w h0) (by rintro _ _ ⟨rfl,rfl⟩;exact ⟨.v _,rfl,hk⟩)
theorem goT {bp bt bs:Nat} {w0:World} {fp0:List Nat} {L Lr:List Ent} {k:SV->List Ent->Prop} (hp:zcm [3000] L=some ([zix bp bt bs],Lr)) (hk:k (.v (pS bt)) ([zix bp bt bs]++Lr)):z8 Tryz.prog w0 fp0 qg [pS bp] L k :=
 zh [3000] hp (fun w hR h0=>zqB bp bt bs _ w h0) (by rintro _ _ ⟨rfl,rfl⟩;exact ⟨.v _,rfl,hk⟩)
structure FrI where
 i:Int
 h:Nat
def frM (S:Sto) (f:FrI):Fr:=(tm S.E f.i,f.h)
abbrev frC (S:Sto) (f:FrI):List Value:=[.int .i64 f.i,.int .i64 (atE S.E f.i).r.k,.int .u8 (atE S.E f.i).r.l,.int .i64 (atE S.E f.i).r.a,.int .i64 (atE S.E f.i).r.b,.int .i64 (atE S.E f.i).r.t,.int .i64 (tm S.E f.i).level,.int .i64 f.h]
def frs (S:Sto) (fs:List FrI):List Value:=fs.flatMap (frC S)
theorem vW (S:Sto) (fs:List FrI) (f:FrI):frs S fs++frC S f=frs S (fs++[f]):=by simp [frs]
theorem vK (S:Sto):∀ fs:List FrI,(frs S fs).length=fs.length*8
 | []=>rfl
 | f :: fs => by
   have:=vK S fs
   simp only [frs,List.flatMap_cons,g6q,List.length_cons,List.length_nil] at this ⊢
   omega
theorem zpE (S:Sto) (fs:List FrI) (f:FrI):((frs S (fs++[f])).drop (fs.length*8)).take 8=frC S f:=by
 rw [←vW,←vK S fs,List.drop_left];rfl
theorem qC (S:Sto) (fs:List FrI) (f:FrI) (j:Nat):(frs S (fs++[f]))[fs.length*8+j]?=(frC S f)[j]?:=by
 rw [←vW,←vK S fs,List.getElem?_append_right (by omega),Nat.add_sub_cancel_left]
theorem zrw (S:Sto) (fs:List FrI) (f:FrI):((frs S (fs++[f])).drop (fs.length*8+1)).take 5=ruC (atE S.E f.i).r:=by
 rw [←vW,←vK S fs,←List.drop_drop,List.drop_left];rfl
theorem zpF (S:Sto) (fs:List FrI) (f:FrI) (h:Nat):zD (frs S (fs++[f])) (fs.length*8+7) [.int .i64 h]=frs S (fs++[⟨f.i,h⟩]):=by
 rw [←vW,←vW,←vK S fs]
 unfold zD
 rw [List.take_length_add_append,List.length_singleton,Nat.add_assoc,List.drop_length_add_append,List.append_assoc,List.append_assoc]
 rfl
theorem zhm (S:Sto) (fs:List FrI) (f:FrI):(frs S (fs++[f])).take (fs.length*8)=frs S fs:=by
 rw [←vW,←vK S fs,List.take_left]
def zmm (S:Sto) (f:FrI):Prop:=1<=f.i/\f.i<=S.E.length
def zfF (k a b h:Int) (bh:Bool):Int:=if k=2/\h=2/\bh=false then b else if k=2/\h=1/\bh=true then b else a
def vX (S:Sto) (bh:Bool) (f:FrI):Int:=zfF (atE S.E f.i).r.k (atE S.E f.i).r.a (atE S.E f.i).r.b f.h bh
def zkf (k t:Int):Int:=if k=3 then t else 2
theorem jj (i k l a b t v h:Int) (bh:Bool) (w:World):Calls Tryz.prog xI #[.agg #[.int .i64 i,.int .i64 k,.int .u8 l,.int .i64 a,.int .i64 b,.int .i64 t,.int .i64 v,.int .i64 h],.bool bh] w fun e w'=>e=.returned (.int .i64 (zfF k a b h bh))/\Ext w w':=by
 refine zN [.v (.agg #[.int .i64 i,.int .i64 k,.int .u8 l,.int .i64 a,.int .i64 b,.int .i64 t,.int .i64 v,.int .i64 h]),.v (.bool bh)] w zhI (by simp) ?_
 unfold zfF
 cases bh<;>((repeat' ((conv=>whnf);first|refine zg ?_|((first|apply zb|apply za|apply zc)<;>intro h<;>try (exfalso;omega))|refine pay ?_|intro _));(all_goals (conv=>whnf)))<;>(refine ⟨?_⟩;congr 1;simp;try omega)
theorem jk (k l a b t:Int) (w:World):Calls Tryz.prog zaB #[.agg #[.int .i64 k,.int .u8 l,.int .i64 a,.int .i64 b,.int .i64 t]] w fun e w'=>e=.returned (.int .i64 (zkf k t))/\Ext w w':=by
 refine zN [.v (.agg #[.int .i64 k,.int .u8 l,.int .i64 a,.int .i64 b,.int .i64 t])] w znx (by simp) ?_
 unfold zkf
 (repeat' ((conv=>whnf);first|refine zg ?_|((first|apply zb|apply za|apply zc)<;>intro h<;>try (exfalso;omega))|refine pay ?_|intro _));(all_goals (conv=>whnf))
 ·exact ⟨by rw [if_pos (by omega)]⟩
 ·exact ⟨by rw [if_neg (by omega)]⟩
theorem zcS {S:Sto} (hw:WF S) {n:Int} (h1:1<=n) (h2:n<=S.E.length) :
 ((atE S.E n).r.k=1/\∃ l,tm S.E n=.lt l) ∨
 ((atE S.E n).r.k=2/\tm S.E n=.pr (tm S.E (atE S.E n).r.a) (tm S.E (atE S.E n).r.b)/\1<=(atE S.E n).r.a/\(atE S.E n).r.a<n/\1<=(atE S.E n).r.b/\(atE S.E n).r.b<n) ∨
 ((atE S.E n).r.k=3/\tm S.E n=.pw (tm S.E (atE S.E n).r.a) (atE S.E n).r.t.toNat/\1<=(atE S.E n).r.a/\(atE S.E n).r.a<n/\2<=(atE S.E n).r.t):=by
 obtain ⟨hr,_,ht,_⟩:=hw.at_ h1 h2
 unfold mkT at ht
 rcases hr with hr|⟨h1',h2',h3',h4',h5',h6',h7'⟩|⟨h1',h2',h3',h4',h5',h6'⟩
 ·rw [if_pos hr.1] at ht
  exact .inl ⟨hr.1,_,ht⟩
 ·rw [if_neg (by omega),if_pos h1'] at ht
  exact .inr (.inl ⟨h1',ht,h4',by omega,h6',by omega⟩)
 ·rw [if_neg (by omega),if_neg (by omega)] at ht
  exact .inr (.inr ⟨h1',ht,h5',by omega,h4'⟩)
theorem zpG {S:Sto} (hw:WF S) {n:Int} (h1:1<=n) (h2:n<=S.E.length) (hl:0<(tm S.E n).level):zkf (atE S.E n).r.k (atE S.E n).r.t=zy (tm S.E n):=by
 unfold zkf
 rcases zcS hw h1 h2 with ⟨k,l,h⟩|⟨k,h,_⟩|⟨k,h,_,_,h5⟩
 ·rw [h] at hl;simp [Tm.level] at hl
 ·rw [if_neg (by omega),h];rfl
 ·rw [if_pos k,h];simp only [zy];omega
theorem ztO {S:Sto} (hw:WF S) {bh:Bool} {f:FrI} (h1:zmm S f) (h2:okF (frM S f)):tm S.E (vX S bh f)=kQ bh (frM S f)/\1<=vX S bh f/\vX S bh f<f.i/\vX S bh f<=S.E.length:=by
 obtain ⟨a1,a2⟩:=h1
 obtain ⟨b1,b2⟩:=h2
 unfold frM at *
 dsimp only at b1 b2
 unfold vX zfF
 rcases zcS hw a1 a2 with ⟨k,l,h⟩|⟨k,h,p1,p2,p3,p4⟩|⟨k,h,p1,p2,p5⟩
 ·rw [h] at b2;simp only [zy] at b2;omega
 ·rw [h] at b2 ⊢
  simp only [zy] at b2
  have hh:f.h=1∨f.h=2:=by omega
  rcases hh with hh|hh<;>cases bh<;>simp [kQ,k,hh]<;>omega
 ·rw [h]
  simp only [kQ]
  rw [if_neg (by omega),if_neg (by omega)]
  exact ⟨rfl,p1,p2,by omega⟩
theorem zrx {S:Sto} (hw:WF S) {f:FrI} (h1:zmm S f) (h2:okF (frM S f)):f.h<=LM:=by
 obtain ⟨a1,a2⟩:=h1
 have h3:=h2.2
 have hle:=hw.le a2
 unfold frM at h3
 dsimp only at h3
 rcases zcS hw a1 a2 with ⟨k,l,h⟩|⟨k,h,p1,p2,p3,p4⟩|⟨k,h,p1,p2,p5⟩
 ·rw [h] at h3;simp only [zy] at h3;omega
 ·rw [h] at h3;simp only [zy] at h3
  have:LM=1152921504606846976:=rfl
  omega
 ·rw [h] at h3 hle
  simp only [zy] at h3
  unfold Tm.len at hle
  rw [Tm.txt,ziR] at hle
  have hp:=hw.pos1 p1 (by omega:(atE S.E f.i).r.a<=S.E.length)
  unfold Tm.len at hp
  have:=Nat.mul_le_mul_left (atE S.E f.i).r.t.toNat hp
  omega
theorem zvr {S S':Sto} {f:FrI} (h:zmm S f) (g:Grow S S'):frM S' f=frM S f:=by unfold frM;rw [g.tm h.2]
theorem zkg {S S':Sto}:∀ {fs:List FrI},(∀ f∈fs,zmm S f)->Grow S S'->frs S' fs=frs S fs/\fs.map (frM S')=fs.map (frM S)
 | [],_,_=>⟨rfl,rfl⟩
 | f :: fs,h,g => by
   obtain ⟨i1,i2⟩:=zkg (fs:=fs) (fun x hx=>h x (g4q _ hx)) g
   have hf:=h f g5q
   have e:atE S'.E f.i=atE S.E f.i:=by obtain ⟨E',rfl⟩:=g;exact zkV hf.2
   unfold frs at i1
   refine ⟨?_,by rw [List.map_cons,List.map_cons,i2,zvr hf g]⟩
   simp only [frs,List.flatMap_cons,i1,frC,e,g.tm hf.2]
theorem kS (bp bt bs:Nat) (S:Sto) (hw:WF S) (n:Int) (hn:known S n) (f1 f2 fp:List Nat) (w:World) (hR:R w fp (fP bp bt bs S f1 f2) w) :
 Calls Tryz.prog xn #[pS bp,.int .i64 n] w fun e w'=>∃ v L1,e=.returned v/\R w fp L1 w'/\∃ f2',v=.int .i64 (tm S.E n).txt.length/\L1=fP bp bt bs S f1 f2':=by
 refine zf [.v (pS bp),.v (.int .i64 n)] zpr (by simp) hR ?_
 have c1:=yd bs S n hw.small
 rw [vj hn] at c1
 (repeat' ((conv=>whnf);first|refine goS (bt:=bt) (bs:=bs) rfl ?_|refine SC.go 77 c1 rfl fun fp'=>?_|refine zg ?_|((first|apply zb|apply za|apply zc)<;>intro h<;>try (exfalso;omega))|refine pay ?_|intro _));(all_goals (conv=>whnf))
 exact ⟨⟨_,Ref.takes [78,77,3000] rfl (.refl _),_,rfl,rfl⟩⟩
end
section
open Go.EG
theorem vY {P:Program} {w0:World} {fp0:List Nat} {l:List Gop} {t:Tr} {K:Env->List Ent->Prop} {e:Env} {L L0 Lr:List Ent} (ks:List Nat) (hp:zcm ks L=some (L0,Lr)) (k:VT P w0 fp0 l K t L0 e L):Stop (∃ Lb,Ref w0 fp0 L Lb/\VT P w0 fp0 l K t Lb e L):=⟨L0,Ref.take ks hp,k⟩
def zss (bp bt bs:Nat) (S:Sto) (x:Int) (L:List Ent) (v:Value) (L1:List Ent):Prop :=
 ∃ f1' f2',v=.agg #[.int .i64 x,.int .i64 (atE S.E x).r.k,.int .u8 (atE S.E x).r.l,.int .i64 (atE S.E x).r.a,.int .i64 (atE S.E x).r.b,.int .i64 (atE S.E x).r.t,.int .i64 (tm S.E x).level,.int .i64 (zkf (atE S.E x).r.k (atE S.E x).r.t)]/\L1=fP bp bt bs S f1' f2'++L
def frO (S:Sto) (x:Int):List Value:=[.int .i64 x,.int .i64 (atE S.E x).r.k,.int .u8 (atE S.E x).r.l,.int .i64 (atE S.E x).r.a,.int .i64 (atE S.E x).r.b,.int .i64 (atE S.E x).r.t,.int .i64 (tm S.E x).level,.int .i64 (zkf (atE S.E x).r.k (atE S.E x).r.t)]
structure DnG where
 fs:List FrI
 x:Int
 a:Option Addr
 c:Nat
 f1:List Nat
 f2:List Nat
 b4:Nat
structure EnS (S:Sto) (bh:Bool) (T:Tm) (j:Nat) (fs:List FrI) (x:Int):Prop where
 sd:Sd bh T j (fs.map (frM S)) (tm S.E x)
 ids:∀ f∈fs,zmm S f
 x1:1<=x
 x2:x<=S.E.length
 num:∀ f∈fs,x<f.i
 dec:fs.Pairwise fun f g=>g.i<f.i
structure DnI (S:Sto) (bh:Bool) (T:Tm) (j:Nat) (W:List Tm) (fs0 fs:List FrI) (x:Int):Prop extends EnS S bh T j fs x where
 left:left bh j (fs.map (frM S)) (tm S.E x)=W
 pre:∃ q,fs=fs0++q/\∀ f∈q,f.h=zy (tm S.E f.i)
theorem EnS.lvd {S:Sto} {bh:Bool} {T:Tm} {j:Nat} {fs:List FrI} {x:Int} (h:EnS S bh T j fs x):0<=(tm S.E x).level:=h.sd.lvd
theorem zmn:∀ {fs:List FrI} {m:Nat},fs.Pairwise (fun f g=>g.i<f.i)->(∀ f∈fs,1<=f.i/\f.i<=m)->fs.length<=m
 | [],_,_,_=>Nat.zero_le _
 | f :: fs,m,h,k => by
   have hf:=k f g5q
   rw [List.pairwise_cons] at h
   have:=zmn (fs:=fs) (m:=(f.i - 1).toNat) h.2 fun g hg=>by
    have h1:=h.1 g hg
    have h2:=k g (g4q _ hg)
    omega
   rw [List.length_cons]
   omega
theorem EnS.len {S:Sto} {bh:Bool} {T:Tm} {j:Nat} {fs:List FrI} {x:Int} (h:EnS S bh T j fs x):fs.length<=S.E.length:=zmn h.dec fun f hf=>h.ids f hf
theorem qQ (S:Sto) (fs:List FrI) (f:FrI):(fs++[f]).map (frM S)=fs.map (frM S)++[(tm S.E f.i,f.h)]:=by simp [frM]
theorem EnS.start {S:Sto} {bh:Bool} {x:Int} (hw:WF S) (h1:1<=x) (h2:x<=S.E.length) (hl:0<=(tm S.E x).level) (j:Nat):EnS S bh (tm S.E x) j [] x :=
 ⟨Sd.whole j hl (hw.pos_ h1 h2),fun f hf=>by simp at hf,h1,h2,fun f hf=>by simp at hf,.nil⟩
theorem DnI.next {S:Sto} {bh:Bool} {T:Tm} {j:Nat} {W:List Tm} {fs0 fs:List FrI} {x:Int} (h:DnI S bh T j W fs0 fs x) (hw:WF S) (hx:(j:Int)<(tm S.E x).level) :
 DnI S bh T j W fs0 (fs++[⟨x,zy (tm S.E x)⟩]) (vX S bh ⟨x,zy (tm S.E x)⟩)/\vX S bh ⟨x,zy (tm S.E x)⟩<x/\zkf (atE S.E x).r.k (atE S.E x).r.t=zy (tm S.E x):=by
 have ho:okF (frM S ⟨x,zy (tm S.E x)⟩):=⟨zm5 h.sd.pos (by omega),Nat.le_refl _⟩
 obtain ⟨k1,k2,k3,k4⟩:=ztO hw (bh:=bh) (f:=⟨x,zy (tm S.E x)⟩) ⟨h.x1,h.x2⟩ ho
 obtain ⟨s1,s2⟩:=h.sd.open hx
 have hm:=qQ S fs ⟨x,zy (tm S.E x)⟩
 have hlt:vX S bh ⟨x,zy (tm S.E x)⟩<x:=k3
 refine ⟨⟨⟨?_,fun f hf=>?_,k2,k4,fun f hf=>?_,?_⟩,?_,?_⟩,hlt,zpG hw h.x1 h.x2 (by omega)⟩
 ·rw [hm,k1];exact s1
 ·rw [List.mem_append,List.mem_singleton] at hf
  rcases hf with hf|rfl
  ·exact h.ids f hf
  ·exact ⟨h.x1,h.x2⟩
 ·rw [List.mem_append,List.mem_singleton] at hf
  rcases hf with hf|rfl
  ·have:=h.num f hf;omega
  ·exact hlt
 ·rw [List.pairwise_append]
  exact ⟨h.dec,List.pairwise_singleton _ _,fun f hf g hg=>by rw [List.mem_singleton] at hg;subst hg;exact h.num f hf⟩
 ·rw [hm,k1,←h.left];exact s2
 ·obtain ⟨q,e,hq⟩:=h.pre
  refine ⟨q++[⟨x,zy (tm S.E x)⟩],by rw [e,List.append_assoc],fun f hf=>?_⟩
  rw [List.mem_append,List.mem_singleton] at hf
  rcases hf with hf|rfl
  ·exact hq f hf
  ·rfl
def zvs (S:Sto) (fs:List FrI) (l:Nat) (a:Option Addr) (v:Value):Prop :=
 (∃ fs1 f,fs=fs1++[f]/\(tm S.E f.i).level=l/\v=.pointer (a.map (·.add (fs1.length*8))))∨((∀ fs1 f,fs=fs1++[f]->(tm S.E f.i).level≠l)/\v=.pointer none)
theorem yw {α:Type} (l:List α):l=[]∨∃ l1 x,l=l1++[x]:=by
 rcases List.eq_nil_or_concat l with h|⟨l1,x,h⟩
 ·exact .inl h
 ·exact .inr ⟨l1,x,by rw [h,List.concat_eq_append]⟩
def UpQ (S:Sto) (bh:Bool) (T:Tm) (j:Nat) (fs:List FrI) (x:Int) (k:Value) (fs':List FrI) (x':Int) (k':Value):Prop :=
 EnS S bh T (j+1) fs' x'/\(tm S.E x').level<=((j+1:Nat):Int)/\zG (j+1) (left bh j (fs.map (frM S)) (tm S.E x))=left bh (j+1) (fs'.map (frM S)) (tm S.E x')/\(k=.int .u64 (tm S.E x).key->k'=.int .u64 (tm S.E x').key)/\(∀ fs1 f,fs=fs1++[f]->(tm S.E f.i).level=((j+1:Nat):Int)->fs'=fs1/\x'=f.i)
theorem EnS.up {S:Sto} {bh:Bool} {T:Tm} {j:Nat} {fs:List FrI} {f:FrI} {x:Int} {k:Value} (hw:WF S) (hT:Is T) (h:EnS S bh T j (fs++[f]) x) (hx:(tm S.E x).level<=j) (hl:(tm S.E f.i).level=((j+1:Nat):Int)) (hh:f.h=zy (tm S.E f.i)) :
 UpQ S bh T j (fs++[f]) x k fs f.i (.int .u64 (tm S.E f.i).key):=by
 have hid:=h.ids f (by simp)
 have hs:=h.sd
 rw [qQ] at hs
 obtain ⟨s1,s2,_⟩:=Sd.up hT hs hl hh (hw.pos_ hid.1 hid.2)
 have hd:=List.pairwise_append.1 h.dec
 refine ⟨⟨s1,fun g hg=>h.ids g (by simp [hg]),hid.1,hid.2,fun g hg=>hd.2.2 g hg f (by simp),hd.1⟩,by omega,?_,fun _=>rfl,fun fs1 g e _=>?_⟩
 ·rw [qQ];exact s2
 ·have e1:=List.append_inj' e rfl
  have e2:=e1.2
  simp only [List.cons.injEq,and_true] at e2
  rw [e1.1,e2];exact ⟨rfl,rfl⟩
theorem EnS.stay {S:Sto} {bh:Bool} {T:Tm} {j:Nat} {fs:List FrI} {x:Int} {k:Value} (hT:Is T) (h:EnS S bh T j fs x) (hx:(tm S.E x).level<=j) (hno:∀ fs1 f,fs=fs1++[f]->(tm S.E f.i).level≠((j+1:Nat):Int)) :
 UpQ S bh T j fs x k fs x k:=by
 have hall:∀ f∈fs.map (frM S),f.1.level≠((j+1:Nat):Int):=fun f hf=>by
  obtain ⟨g,hg,rfl⟩:=List.mem_map.1 hf
  rcases yw fs with rfl|⟨fs1,y,rfl⟩
  ·simp at hg
  ·have hy:=hno fs1 y rfl
   have hok:=(h.sd.ok (frM S y) (by rw [qQ];simp [frM])).2
   rw [List.mem_append,List.mem_singleton] at hg
   rcases hg with hg|rfl
   ·have hd:=h.sd.down
    rw [qQ] at hd
    have:=(List.pairwise_append.1 hd).2.2 (frM S g) (List.mem_map_of_mem hg) (tm S.E y.i,y.h) (by simp)
    simp only [frM] at this hok ⊢
    omega
   ·exact hy
 obtain ⟨s1,s2,_⟩:=Sd.stay hT h.sd hall
 exact ⟨⟨s1,h.ids,h.x1,h.x2,h.num,h.dec⟩,by omega,s2,fun h=>h,fun fs1 f e hl=>absurd hl (hno fs1 f e)⟩
def zvt (S:Sto) (fs:List FrI) (l:Nat) (v:Value):Prop :=
 (∃ fs1 f,fs=fs1++[f]/\(tm S.E f.i).level=l/\v=.tuple #[.int .i64 f.h,.bool (decide ((f.h:Int)<(atE S.E f.i).r.t))])∨((∀ fs1 f,fs=fs1++[f]->(tm S.E f.i).level≠l)/\v=.tuple #[.int .i64 1,.bool false])
structure DrG where
 fs:List FrI
 n:Nat
structure DrI (S:Sto) (bh:Bool) (T:Tm) (j:Nat) (W:List Tm) (lv:Int) (kp:Prop) (fs:List FrI) (n:Nat):Prop where
 ids:∀ f∈fs,zmm S f
 dec:fs.Pairwise fun f g=>g.i<f.i
 ok:∀ f∈fs,okF (frM S f)/\(j:Int)<(tm S.E f.i).level
 down:fs.Pairwise fun f g=>(tm S.E g.i).level<(tm S.E f.i).level
 nil:fs=[]->W=[]
 last:∀ fs1 f,fs=fs1++[f]->chain bh T (fs1.map (frM S)) (tm S.E f.i)/\okN (frM S f) n/\W=zfs bh j (fs1.map (frM S)) (frM S f) n/\(lv<(tm S.E f.i).level∨(tm S.E f.i).level=lv/\(n<f.h->kp))
theorem down_map {S:Sto} {fs:List FrI}:(fs.map (frM S)).Pairwise (fun f g=>g.1.level<f.1.level)↔fs.Pairwise fun f g=>(tm S.E g.i).level<(tm S.E f.i).level:=by
 rw [List.pairwise_map];rfl
theorem DrI.start {S:Sto} {bh:Bool} {T:Tm} {j:Nat} {fs:List FrI} {f:FrI} {x:Int} (h:EnS S bh T j (fs++[f]) x) {n:Nat} (hn:okN (frM S f) n) :
 DrI S bh T j (zfs bh j (fs.map (frM S)) (frM S f) n) (tm S.E f.i).level (n<f.h) (fs++[f]) n:=by
 refine ⟨h.ids,h.dec,fun g hg=>h.sd.ok _ (List.mem_map_of_mem hg),down_map.1 h.sd.down,fun e=>by simp at e,fun fs1 g e=>?_⟩
 have e1:=List.append_inj' e rfl
 obtain ⟨rfl,e2⟩:=e1
 simp only [List.cons.injEq,and_true] at e2
 subst e2
 have hc:=h.sd.chain
 rw [qQ] at hc
 exact ⟨(chain_snoc.1 hc).1,hn,rfl,.inr ⟨rfl,fun h=>h⟩⟩
theorem DrI.none {S:Sto} {bh:Bool} {T:Tm} (j:Nat) (n:Nat) (lv:Int) (kp:Prop):DrI S bh T j [] lv kp [] n :=
 ⟨fun f hf=>by simp at hf,.nil,fun f hf=>by simp at hf,.nil,fun _=>rfl,fun fs1 f e=>by simp at e⟩
def Part (S:Sto) (lv:Int) (kp:Prop) (fs:List FrI):Prop:=∀ f∈fs,f.h=zy (tm S.E f.i)∨lv<(tm S.E f.i).level∨(tm S.E f.i).level=lv/\kp
theorem DrI.len {S:Sto} {bh:Bool} {T:Tm} {j:Nat} {W:List Tm} {lv:Int} {kp:Prop} {fs:List FrI} {n:Nat} (h:DrI S bh T j W lv kp fs n):fs.length<=S.E.length:=zmn h.dec fun f hf=>h.ids f hf
def DrQ (S:Sto) (bh:Bool) (T:Tm) (j:Nat) (W:List Tm) (lv:Int) (kp:Prop) (fs:List FrI) (x:Int):Prop :=
 (x=0/\fs=[]/\W=[])∨(EnS S bh T j fs x/\(tm S.E x).level<=j/\left bh j (fs.map (frM S)) (tm S.E x)=W/\Part S lv kp fs)
theorem DnI.drq {S:Sto} {bh:Bool} {T:Tm} {j:Nat} {W:List Tm} {lv:Int} {kp:Prop} {fs0 fs:List FrI} {x:Int} (h:DnI S bh T j W fs0 fs x) (hx:(tm S.E x).level<=j) (hp:Part S lv kp fs0):DrQ S bh T j W lv kp fs x:=by
 refine .inr ⟨h.toEnS,hx,h.left,fun f hf=>?_⟩
 obtain ⟨q,rfl,hq⟩:=h.pre
 rw [List.mem_append] at hf
 rcases hf with hf|hf
 ·exact hp f hf
 ·exact .inl (hq f hf)
theorem DrI.some {S:Sto} {bh:Bool} {T:Tm} {j:Nat} {W:List Tm} {lv:Int} {kp:Prop} {fs:List FrI} {f:FrI} {n:Nat} (h:DrI S bh T j W lv kp (fs++[f]) n) (hw:WF S) (hlt:n<f.h) :
 DnI S bh T j W (fs++[⟨f.i,f.h - n⟩]) (fs++[⟨f.i,f.h - n⟩]) (vX S bh ⟨f.i,f.h - n⟩)/\Part S lv kp (fs++[⟨f.i,f.h - n⟩]):=by
 obtain ⟨hc,hn,hW,hl⟩:=h.last fs f rfl
 have hid:=h.ids f (by simp)
 have hd:=down_map.2 h.down
 rw [qQ] at hd
 have hok:∀ g∈fs.map (frM S)++[frM S f],okF g/\(j:Int)<g.1.level:=fun g hg=>by
  rw [List.mem_append,List.mem_singleton] at hg
  rcases hg with hg|rfl
  ·obtain ⟨g',hg',rfl⟩:=List.mem_map.1 hg
   exact h.ok g' (by rw [List.mem_append];exact .inl hg')
  ·exact h.ok f (by simp)
 obtain ⟨s1,s2⟩:=Sd.part (bh:=bh) (n:=n) (f:=frM S f) hc hok hd (hw.pos_ hid.1 hid.2) hn hlt
 have ho:okF (frM S ⟨f.i,f.h - n⟩):=by
  have:=(h.ok f (by simp)).1
  have:=hn.1
  refine ⟨?_,?_⟩<;>(simp only [frM,okF] at *;omega)
 obtain ⟨k1,k2,k3,k4⟩:=ztO hw (bh:=bh) (f:=⟨f.i,f.h - n⟩) hid ho
 have hdp:=List.pairwise_append.1 h.dec
 refine ⟨⟨⟨?_,fun g hg=>?_,k2,k4,fun g hg=>?_,?_⟩,?_,[],by simp,fun g hg=>by simp at hg⟩,fun g hg=>?_⟩
 ·rw [qQ,k1];exact s1
 ·rw [List.mem_append,List.mem_singleton] at hg
  rcases hg with hg|rfl
  ·exact h.ids g (by simp [hg])
  ·exact hid
 ·rw [List.mem_append,List.mem_singleton] at hg
  rcases hg with hg|rfl
  ·have:=hdp.2.2 g hg f (by simp)
   dsimp only at k3
   omega
  ·exact k3
 ·rw [List.pairwise_append]
  exact ⟨hdp.1,List.pairwise_singleton _ _,fun g hg f' hf'=>by rw [List.mem_singleton] at hf';subst hf';exact hdp.2.2 g hg f (by simp)⟩
 ·rw [qQ,k1,hW];exact s2
 ·rw [List.mem_append,List.mem_singleton] at hg
  rcases hg with hg|rfl
  ·have:=(List.pairwise_append.1 h.down).2.2 g hg f (by simp)
   rcases hl with hl|hl
   ·exact .inr (.inl (by omega))
   ·exact .inr (.inl (by omega))
  ·rcases hl with hl|hl
   ·exact .inr (.inl hl)
   ·exact .inr (.inr ⟨hl.1,hl.2 hlt⟩)
theorem DrI.pop {S:Sto} {bh:Bool} {T:Tm} {j:Nat} {W:List Tm} {lv:Int} {kp:Prop} {fs:List FrI} {f:FrI} {n:Nat} (h:DrI S bh T j W lv kp (fs++[f]) n) (he:n=f.h):DrI S bh T j W lv kp fs 1:=by
 obtain ⟨hc,hn,hW,hl⟩:=h.last fs f rfl
 have hp:=zvo (bh:=bh) (j:=j) (fs:=fs.map (frM S)) hn (h.ok f (by simp)).1 he
 rw [←hW] at hp
 refine ⟨fun g hg=>h.ids g (by simp [hg]),(List.pairwise_append.1 h.dec).1,fun g hg=>h.ok g (by simp [hg]),(List.pairwise_append.1 h.down).1,fun e=>?_,fun fs1 g e=>?_⟩
 ·subst e;rw [hp];rfl
 ·subst e
  rw [qQ] at hc
  have ho:=(h.ok g (by simp)).1
  refine ⟨(chain_snoc.1 hc).1,⟨Nat.le_refl _,ho.1,fun _=>.inl rfl,fun _=>rfl⟩,?_,.inl ?_⟩
  ·rw [hp,qQ];exact zso
  ·have:=(List.pairwise_append.1 h.down).2.2 g (by simp) f (by simp)
   rcases hl with hl|hl<;>omega
end
section
open Go.EG
attribute [local irreducible] z8 yN Go.Calls
set_option maxRecDepth 20000
set_option maxHeartbeats 4000000
abbrev bxA (b bp:Nat)  (a:Option Addr) (n c:Nat) (x:Int) (k:Value):Ent:=.box 9 b [pS bp,.bool false,.slice a n c,.int .i64 x,k] ji
theorem zqC (bp bt bs b:Nat)  (S:Sto) (hw:WF S) (x:Int) (h1:1<=x) (h2:x<=S.E.length) (hl:0<=(tm S.E x).level) (a:Option Addr) (n c:Nat) (k:Value) (f1 f2 fp:List Nat) (w:World)
 (hR:R w fp (fP bp bt bs S f1 f2++[bxA b bp  a n c x k]) w) (hG:qq w fp) :
 Calls Tryz.prog qV #[.pointer (some ⟨b,0,none⟩)] w fun e w'=>∃ v L1,e=.returned v/\R w fp L1 w'/\zss bp bt bs S x [bxA b bp  a n c x k] v L1:=by
 refine zf [.ptr 9 b 0] vG (by simp) hR ?_
 have c1:=qZ bs S x hw.small
 rw [yy h1 h2] at c1
 have c2:=zat bt bs S hw x
 unfold zed at c2
 rw [if_pos ⟨h1,h2⟩,if_neg (by omega)] at c2
 have c3:=fun w=>jk (atE S.E x).r.k (atE S.E x).r.l (atE S.E x).r.a (atE S.E x).r.b (atE S.E x).r.t w
 (repeat' ((conv=>whnf);first|refine goS (bt:=bt) (bs:=bs) rfl ?_|refine goT (bt:=bt) (bs:=bs) rfl ?_|refine SC.go 77 c1 rfl fun fp'=>?_|(refine zZ (key1:=78) (key2:=77) rfl rfl (fun w hR h0=>c2 _ _ _ _ _ h0 (hG.cast2 hR)) ?_;rintro _ _ ⟨rfl,fp1',fp2',rfl⟩;refine ⟨.v _,rfl,?_⟩)|(first|refine puK c3 ?_|refine quK c3 ?_)|refine xJ ?_ ?_|refine vY [9] (by rfl) ?_|refine zg ?_|((first|apply zb|apply za|apply zc)<;>intro h<;>try (exfalso;omega))|refine pay ?_|refine And.intro (by first|exact fun _=>Ref.take [9] (by rfl)|exact Ref.take [9] (by rfl)) ?_|intro _));(all_goals (conv=>whnf))
 all_goals exact ⟨⟨_,Ref.takes [78,77,3000,9] rfl (.refl _),_,_,rfl,rfl⟩⟩
theorem zqD (bp bt bs b:Nat)  (S:Sto) (hw:WF S) (T:Tm) (j:Nat) (W:List Tm) (fs0:List FrI) (x0:Int) (h0:DnI S false T j W fs0 fs0 x0) (a:Option Addr) (c:Nat) (k0:Value) (f1 f2 fp:List Nat) (w:World)
 (hR:R w fp (fP bp bt bs S f1 f2++[bxA b bp  a fs0.length c x0 k0,.own 5001 a fs0.length c zi 8 (frs S fs0)]) w) (hG:qq w fp) :
 Calls Tryz.prog yu #[.pointer (some ⟨b,0,none⟩),.int .i64 j] w fun e w'=>∃ v L1,e=.returned v/\R w fp L1 w'/\∃ fs x a' c' f1' f2',DnI S false T j W fs0 fs x/\(tm S.E x).level<=j/\v=.tuple #[]/\L1=fP bp bt bs S f1' f2'++[bxA b bp  a' fs.length c' x (.int .u64 (tm S.E x).key),.own 5001 a' fs.length c' zi 8 (frs S fs)]:=by
 refine zf [.ptr 9 b 0,.v (.int .i64 j)] vH (by simp) hR ?_
 have co:=fun (x:Int) (h1:1<=x) (h2:x<=S.E.length) (hl:0<=(tm S.E x).level) a n c k f1 f2 fp w hR hG=>zqC bp bt bs b  S hw x h1 h2 hl a n c k f1 f2 fp w hR hG
 have hq0:=h0.x1
 have hq1:=h0.x2
 have hq2:=h0.lvd
 (repeat' ((conv=>whnf);first|(refine zh [78,77,3000,9] rfl (fun w hR h=>co x0 hq0 hq1 hq2 _ _ _ _ _ _ _ w h (hG.castL hR)) ?_;rintro _ _ ⟨g1,g2,rfl,rfl⟩;refine ⟨.v _,rfl,?_⟩)|refine zg ?_|((first|apply zb|apply za|apply zc)<;>intro h<;>try (exfalso;omega))|refine pay ?_|intro _));(all_goals (conv=>whnf))
 rename_i b4
 refine zP DnG (fun y=>[(0,.ptr 9 b 0),(1,.v (.int .i64 j)),(4,.ptr 4 y.b4 0)])
  (fun y=>fP bp bt bs S y.f1 y.f2++[bxA b bp  y.a y.fs.length y.c y.x k0,.own 5001 y.a y.fs.length y.c zi 8 (frs S y.fs),.box 4 y.b4 (frO S y.x) zi])
  (fun y=>DnI S false T j W fs0 y.fs y.x) (fun y=>y.x.toNat) ⟨fs0,x0,a,c,g1,g2,b4⟩ h0 (by (repeat ((conv=>whnf);refine vS ?_));exact trivial) (Ref.takes [78,77,3000,9,5001,4] rfl (.refl _)) ?_
 clear hq0 hq1 hq2
 rintro ⟨fs,x,a,c,g1,g2,b4⟩ hI
 dsimp only at hI ⊢
 have hx1:=hI.x1
 have hx2:=hI.x2
 by_cases hlt:(j:Int)<(tm S.E x).level
 ·obtain ⟨hN,hkx,hwh⟩:=hI.next hw hlt
  have c3:=fun w=>jj x (atE S.E x).r.k (atE S.E x).r.l (atE S.E x).r.a (atE S.E x).r.b (atE S.E x).r.t (tm S.E x).level (zy (tm S.E x)) false w
  have hkv:zfF (atE S.E x).r.k (atE S.E x).r.a (atE S.E x).r.b (zy (tm S.E x)) false=vX S false ⟨x,zy (tm S.E x)⟩:=rfl
  rw [hkv] at c3
  have hfl:(fs++[(⟨x,zy (tm S.E x)⟩:FrI)]).length=fs.length+1:=by simp
  have hfs:=vW S fs ⟨x,zy (tm S.E x)⟩
  have hll:=hI.len
  have hsm:=hw.small
  have hk1:=hN.x1
  have hk2:=hN.x2
  have hk3:=hN.lvd
  rw [show frO S x=frC S ⟨x,zy (tm S.E x)⟩ by unfold frO;rw [hwh]]
  generalize vX S false ⟨x,zy (tm S.E x)⟩=y at *
  (repeat' ((conv=>whnf);first|(first|refine puK c3 ?_|refine quK c3 ?_)|rw [hfs]|(refine zh [78,77,3000,9] rfl (fun w hR h=>co _ hk1 hk2 hk3 _ _ _ _ _ _ _ w h (hG.castL hR)) ?_;rintro _ _ ⟨q1,q2,rfl,rfl⟩;refine ⟨.v _,rfl,?_⟩)|refine ⟨.sl 5001 _ _ _,⟨rfl,rfl,rfl,rfl⟩,?_⟩|refine zg ?_|((first|apply zb|apply za|apply zc)<;>intro h<;>try (exfalso;omega))|refine pay ?_|refine And.intro (by first|exact ⟨by omega,by unfold maxLen;omega⟩|exact ⟨by unfold maxLen;omega,by omega⟩) ?_|intro _));(all_goals (conv=>whnf))
  all_goals first|(exfalso;(dsimp only at *);omega)|skip
  exact zm (⟨_,y,_,_,q1,q2,_⟩:DnG) hN (by dsimp only;omega) (by (repeat ((conv=>whnf);refine vS ?_));exact trivial) (Ref.takes [78,77,3000,9,5001,4] rfl (.keep rfl (fun _ h=>h) (.keep rfl (fun _ h=>h) (.keep rfl (fun _ h=>h) (.box (by rw [hfl]) (.own hfl.symm rfl (.refl _)))))))
 ·have c2:=x6 bt bs S hw x
  rw [x8 ⟨hx1,hx2⟩] at c2
  (repeat' ((conv=>whnf);first|refine goT (bt:=bt) (bs:=bs) rfl ?_|(refine zZ (key1:=78) (key2:=77) rfl rfl (fun w hR h0=>c2 _ _ _ _ _ h0 (hG.cast2 hR)) ?_;rintro _ _ ⟨rfl,fp1',fp2',rfl⟩;refine ⟨.v _,rfl,?_⟩)|refine vY [9] (by rfl) ?_|refine zg ?_|((first|apply zb|apply za|apply zc)<;>intro h<;>try (exfalso;omega))|refine pay ?_|refine And.intro (by first|exact fun _=>Ref.take [9] (by rfl)|exact Ref.take [9] (by rfl)) ?_|intro _));(all_goals (conv=>whnf))
  all_goals try (exfalso;omega)
  all_goals exact ⟨⟨_,Ref.takes [78,77,3000,9,5001] rfl (.refl _),fs,x,a,c,_,_,hI,by omega,rfl,rfl⟩⟩
theorem znD (bp bt bs:Nat)  (S:Sto) (hw:WF S) (x0:Int) (h1:1<=x0) (h2:x0<=S.E.length) (hl:0<=(tm S.E x0).level) (f1 f2 fp:List Nat) (w:World)
 (hR:R w fp (fP bp bt bs S f1 f2) w) (hG:qq w fp) :
 Calls Tryz.prog ur #[pS bp,.int .i64 x0,.int .i64 (tm S.E x0).txt.length,.bool false] w fun e w'=>∃ v L1,e=.returned v/\R w fp L1 w'/\∃ fs x a' c' f1' f2',DnI S false (tm S.E x0) 0 (left false 0 [] (tm S.E x0)) [] fs x/\(tm S.E x).level<=0/\v=.agg #[pS bp,.bool false,.slice a' fs.length c',.int .i64 x,.int .u64 (tm S.E x).key]/\L1=fP bp bt bs S f1' f2'++[.own 5001 a' fs.length c' zi 8 (frs S fs)]:=by
 refine zf [.v (pS bp),.v (.int .i64 x0),.v (.int .i64 (tm S.E x0).txt.length),.v (.bool false)] zga (by simp) hR ?_
 have hps:=hw.pos1 h1 h2
 unfold Tm.len at hps
 have hle:=hw.le h2
 unfold Tm.len at hle
 have hLM:LM=1152921504606846976:=rfl
 (repeat' ((conv=>whnf);first|refine zg ?_|((first|apply zb|apply za|apply zc)<;>intro h<;>try (exfalso;omega))|refine pay ?_|intro _));(all_goals (conv=>whnf))
 all_goals first|(exfalso;((try dsimp only at *);omega))|skip
 rename_i b8 b9
 refine zP Unit (fun _=>[(0,.v (pS bp)),(2,.v (.int .i64 (tm S.E x0).txt.length)),(3,.v (.bool false)),(8,.ptr 8 b8 0),(9,.ptr 9 b9 0)])
  (fun _=>fP bp bt bs S f1 f2++[bxA b9 bp  none 0 0 x0 (.int .u64 0),.box 8 b8 [.pointer none,.bool false,.slice none 0 0,.int .i64 0,.int .u64 0] ji]) (fun _=>True) (fun _=>0) () trivial (by (repeat ((conv=>whnf);refine vS ?_));exact trivial) (Ref.takes [78,77,3000,9,8] rfl (.refl _)) ?_
 rintro ⟨⟩ -
 have h0:DnI S false (tm S.E x0) 0 (left false 0 [] (tm S.E x0)) [] [] x0:=⟨EnS.start hw h1 h2 hl 0,rfl,[],rfl,fun f hf=>by simp at hf⟩
 have cs:=fun f1 f2 fp w hR=>kS bp bt bs S hw x0 ⟨by omega,h2⟩ f1 f2 fp w hR
 have cd:=fun a c k0 f1 f2 fp w hR hG=>zqD bp bt bs b9  S hw (tm S.E x0) 0 (left false 0 [] (tm S.E x0)) [] x0 h0 a c k0 f1 f2 fp w hR hG
 (repeat' ((conv=>whnf);first|(refine zh [78,77,3000] rfl (fun w hR h=>cs _ _ _ w h) ?_;rintro _ _ ⟨f2',rfl,rfl⟩;refine ⟨.v _,rfl,?_⟩)|(refine zeL (Ref.ownNil 5001 zi 8) ?_;refine zh [78,77,3000,9,5001] rfl (fun w hR h=>cd none 0 _ _ _ _ w h (hG.castL hR)) ?_;rintro _ _ ⟨fs,x,a',c',g1,g2,hD,hx,rfl,rfl⟩;refine ⟨.v _,rfl,?_⟩)|refine zg ?_|((first|apply zb|apply za|apply zc)<;>intro h<;>try (exfalso;omega))|refine pay ?_|intro _));(all_goals (conv=>whnf))
 all_goals first|(exfalso;((try dsimp only at *);omega))|skip
 all_goals exact ⟨⟨_,Ref.takes [78,77,3000,5001] rfl (.refl _),fs,x,a',c',g1,g2,hD,hx,rfl,rfl⟩⟩
abbrev bxB (b bp:Nat)  (a:Option Addr) (n c:Nat) (x:Int) (k:Value):Ent:=.box 9 b [pS bp,.bool true,.slice a n c,.int .i64 x,k] ji
theorem zqE (bp bt bs b:Nat)  (S:Sto) (hw:WF S) (x:Int) (h1:1<=x) (h2:x<=S.E.length) (hl:0<=(tm S.E x).level) (a:Option Addr) (n c:Nat) (k:Value) (f1 f2 fp:List Nat) (w:World)
 (hR:R w fp (fP bp bt bs S f1 f2++[bxB b bp  a n c x k]) w) (hG:qq w fp) :
 Calls Tryz.prog qV #[.pointer (some ⟨b,0,none⟩)] w fun e w'=>∃ v L1,e=.returned v/\R w fp L1 w'/\zss bp bt bs S x [bxB b bp  a n c x k] v L1:=by
 refine zf [.ptr 9 b 0] vG (by simp) hR ?_
 have c1:=qZ bs S x hw.small
 rw [yy h1 h2] at c1
 have c2:=zat bt bs S hw x
 unfold zed at c2
 rw [if_pos ⟨h1,h2⟩,if_neg (by omega)] at c2
 have c3:=fun w=>jk (atE S.E x).r.k (atE S.E x).r.l (atE S.E x).r.a (atE S.E x).r.b (atE S.E x).r.t w
 (repeat' ((conv=>whnf);first|refine goS (bt:=bt) (bs:=bs) rfl ?_|refine goT (bt:=bt) (bs:=bs) rfl ?_|refine SC.go 77 c1 rfl fun fp'=>?_|(refine zZ (key1:=78) (key2:=77) rfl rfl (fun w hR h0=>c2 _ _ _ _ _ h0 (hG.cast2 hR)) ?_;rintro _ _ ⟨rfl,fp1',fp2',rfl⟩;refine ⟨.v _,rfl,?_⟩)|(first|refine puK c3 ?_|refine quK c3 ?_)|refine xJ ?_ ?_|refine vY [9] (by rfl) ?_|refine zg ?_|((first|apply zb|apply za|apply zc)<;>intro h<;>try (exfalso;omega))|refine pay ?_|refine And.intro (by first|exact fun _=>Ref.take [9] (by rfl)|exact Ref.take [9] (by rfl)) ?_|intro _));(all_goals (conv=>whnf))
 all_goals exact ⟨⟨_,Ref.takes [78,77,3000,9] rfl (.refl _),_,_,rfl,rfl⟩⟩
theorem zqF (bp bt bs b:Nat)  (S:Sto) (hw:WF S) (T:Tm) (j:Nat) (W:List Tm) (fs0:List FrI) (x0:Int) (h0:DnI S true T j W fs0 fs0 x0) (a:Option Addr) (c:Nat) (k0:Value) (f1 f2 fp:List Nat) (w:World)
 (hR:R w fp (fP bp bt bs S f1 f2++[bxB b bp  a fs0.length c x0 k0,.own 5002 a fs0.length c zi 8 (frs S fs0)]) w) (hG:qq w fp) :
 Calls Tryz.prog yu #[.pointer (some ⟨b,0,none⟩),.int .i64 j] w fun e w'=>∃ v L1,e=.returned v/\R w fp L1 w'/\∃ fs x a' c' f1' f2',DnI S true T j W fs0 fs x/\(tm S.E x).level<=j/\v=.tuple #[]/\L1=fP bp bt bs S f1' f2'++[bxB b bp  a' fs.length c' x (.int .u64 (tm S.E x).key),.own 5002 a' fs.length c' zi 8 (frs S fs)]:=by
 refine zf [.ptr 9 b 0,.v (.int .i64 j)] vH (by simp) hR ?_
 have co:=fun (x:Int) (h1:1<=x) (h2:x<=S.E.length) (hl:0<=(tm S.E x).level) a n c k f1 f2 fp w hR hG=>zqE bp bt bs b  S hw x h1 h2 hl a n c k f1 f2 fp w hR hG
 have hq0:=h0.x1
 have hq1:=h0.x2
 have hq2:=h0.lvd
 (repeat' ((conv=>whnf);first|(refine zh [78,77,3000,9] rfl (fun w hR h=>co x0 hq0 hq1 hq2 _ _ _ _ _ _ _ w h (hG.castL hR)) ?_;rintro _ _ ⟨g1,g2,rfl,rfl⟩;refine ⟨.v _,rfl,?_⟩)|refine zg ?_|((first|apply zb|apply za|apply zc)<;>intro h<;>try (exfalso;omega))|refine pay ?_|intro _));(all_goals (conv=>whnf))
 rename_i b4
 refine zP DnG (fun y=>[(0,.ptr 9 b 0),(1,.v (.int .i64 j)),(4,.ptr 4 y.b4 0)])
  (fun y=>fP bp bt bs S y.f1 y.f2++[bxB b bp  y.a y.fs.length y.c y.x k0,.own 5002 y.a y.fs.length y.c zi 8 (frs S y.fs),.box 4 y.b4 (frO S y.x) zi])
  (fun y=>DnI S true T j W fs0 y.fs y.x) (fun y=>y.x.toNat) ⟨fs0,x0,a,c,g1,g2,b4⟩ h0 (by (repeat ((conv=>whnf);refine vS ?_));exact trivial) (Ref.takes [78,77,3000,9,5002,4] rfl (.refl _)) ?_
 clear hq0 hq1 hq2
 rintro ⟨fs,x,a,c,g1,g2,b4⟩ hI
 dsimp only at hI ⊢
 have hx1:=hI.x1
 have hx2:=hI.x2
 by_cases hlt:(j:Int)<(tm S.E x).level
 ·obtain ⟨hN,hkx,hwh⟩:=hI.next hw hlt
  have c3:=fun w=>jj x (atE S.E x).r.k (atE S.E x).r.l (atE S.E x).r.a (atE S.E x).r.b (atE S.E x).r.t (tm S.E x).level (zy (tm S.E x)) true w
  have hkv:zfF (atE S.E x).r.k (atE S.E x).r.a (atE S.E x).r.b (zy (tm S.E x)) true=vX S true ⟨x,zy (tm S.E x)⟩:=rfl
  rw [hkv] at c3
  have hfl:(fs++[(⟨x,zy (tm S.E x)⟩:FrI)]).length=fs.length+1:=by simp
  have hfs:=vW S fs ⟨x,zy (tm S.E x)⟩
  have hll:=hI.len
  have hsm:=hw.small
  have hk1:=hN.x1
  have hk2:=hN.x2
  have hk3:=hN.lvd
  rw [show frO S x=frC S ⟨x,zy (tm S.E x)⟩ by unfold frO;rw [hwh]]
  generalize vX S true ⟨x,zy (tm S.E x)⟩=y at *
  (repeat' ((conv=>whnf);first|(first|refine puK c3 ?_|refine quK c3 ?_)|rw [hfs]|(refine zh [78,77,3000,9] rfl (fun w hR h=>co _ hk1 hk2 hk3 _ _ _ _ _ _ _ w h (hG.castL hR)) ?_;rintro _ _ ⟨q1,q2,rfl,rfl⟩;refine ⟨.v _,rfl,?_⟩)|refine ⟨.sl 5002 _ _ _,⟨rfl,rfl,rfl,rfl⟩,?_⟩|refine zg ?_|((first|apply zb|apply za|apply zc)<;>intro h<;>try (exfalso;omega))|refine pay ?_|refine And.intro (by first|exact ⟨by omega,by unfold maxLen;omega⟩|exact ⟨by unfold maxLen;omega,by omega⟩) ?_|intro _));(all_goals (conv=>whnf))
  all_goals first|(exfalso;(dsimp only at *);omega)|skip
  exact zm (⟨_,y,_,_,q1,q2,_⟩:DnG) hN (by dsimp only;omega) (by (repeat ((conv=>whnf);refine vS ?_));exact trivial) (Ref.takes [78,77,3000,9,5002,4] rfl (.keep rfl (fun _ h=>h) (.keep rfl (fun _ h=>h) (.keep rfl (fun _ h=>h) (.box (by rw [hfl]) (.own hfl.symm rfl (.refl _)))))))
 ·have c2:=x6 bt bs S hw x
  rw [x8 ⟨hx1,hx2⟩] at c2
  (repeat' ((conv=>whnf);first|refine goT (bt:=bt) (bs:=bs) rfl ?_|(refine zZ (key1:=78) (key2:=77) rfl rfl (fun w hR h0=>c2 _ _ _ _ _ h0 (hG.cast2 hR)) ?_;rintro _ _ ⟨rfl,fp1',fp2',rfl⟩;refine ⟨.v _,rfl,?_⟩)|refine vY [9] (by rfl) ?_|refine zg ?_|((first|apply zb|apply za|apply zc)<;>intro h<;>try (exfalso;omega))|refine pay ?_|refine And.intro (by first|exact fun _=>Ref.take [9] (by rfl)|exact Ref.take [9] (by rfl)) ?_|intro _));(all_goals (conv=>whnf))
  all_goals try (exfalso;omega)
  all_goals exact ⟨⟨_,Ref.takes [78,77,3000,9,5002] rfl (.refl _),fs,x,a,c,_,_,hI,by omega,rfl,rfl⟩⟩
theorem znE (bp bt bs:Nat)  (S:Sto) (hw:WF S) (x0:Int) (h1:1<=x0) (h2:x0<=S.E.length) (hl:0<=(tm S.E x0).level) (f1 f2 fp:List Nat) (w:World)
 (hR:R w fp (fP bp bt bs S f1 f2) w) (hG:qq w fp) :
 Calls Tryz.prog ur #[pS bp,.int .i64 x0,.int .i64 (tm S.E x0).txt.length,.bool true] w fun e w'=>∃ v L1,e=.returned v/\R w fp L1 w'/\∃ fs x a' c' f1' f2',DnI S true (tm S.E x0) 0 (left true 0 [] (tm S.E x0)) [] fs x/\(tm S.E x).level<=0/\v=.agg #[pS bp,.bool true,.slice a' fs.length c',.int .i64 x,.int .u64 (tm S.E x).key]/\L1=fP bp bt bs S f1' f2'++[.own 5002 a' fs.length c' zi 8 (frs S fs)]:=by
 refine zf [.v (pS bp),.v (.int .i64 x0),.v (.int .i64 (tm S.E x0).txt.length),.v (.bool true)] zga (by simp) hR ?_
 have hps:=hw.pos1 h1 h2
 unfold Tm.len at hps
 have hle:=hw.le h2
 unfold Tm.len at hle
 have hLM:LM=1152921504606846976:=rfl
 (repeat' ((conv=>whnf);first|refine zg ?_|((first|apply zb|apply za|apply zc)<;>intro h<;>try (exfalso;omega))|refine pay ?_|intro _));(all_goals (conv=>whnf))
 all_goals first|(exfalso;((try dsimp only at *);omega))|skip
 rename_i b8 b9
 refine zP Unit (fun _=>[(0,.v (pS bp)),(2,.v (.int .i64 (tm S.E x0).txt.length)),(3,.v (.bool true)),(8,.ptr 8 b8 0),(9,.ptr 9 b9 0)])
  (fun _=>fP bp bt bs S f1 f2++[bxB b9 bp  none 0 0 x0 (.int .u64 0),.box 8 b8 [.pointer none,.bool false,.slice none 0 0,.int .i64 0,.int .u64 0] ji]) (fun _=>True) (fun _=>0) () trivial (by (repeat ((conv=>whnf);refine vS ?_));exact trivial) (Ref.takes [78,77,3000,9,8] rfl (.refl _)) ?_
 rintro ⟨⟩ -
 have h0:DnI S true (tm S.E x0) 0 (left true 0 [] (tm S.E x0)) [] [] x0:=⟨EnS.start hw h1 h2 hl 0,rfl,[],rfl,fun f hf=>by simp at hf⟩
 have cs:=fun f1 f2 fp w hR=>kS bp bt bs S hw x0 ⟨by omega,h2⟩ f1 f2 fp w hR
 have cd:=fun a c k0 f1 f2 fp w hR hG=>zqF bp bt bs b9  S hw (tm S.E x0) 0 (left true 0 [] (tm S.E x0)) [] x0 h0 a c k0 f1 f2 fp w hR hG
 (repeat' ((conv=>whnf);first|(refine zh [78,77,3000] rfl (fun w hR h=>cs _ _ _ w h) ?_;rintro _ _ ⟨f2',rfl,rfl⟩;refine ⟨.v _,rfl,?_⟩)|(refine zeL (Ref.ownNil 5002 zi 8) ?_;refine zh [78,77,3000,9,5002] rfl (fun w hR h=>cd none 0 _ _ _ _ w h (hG.castL hR)) ?_;rintro _ _ ⟨fs,x,a',c',g1,g2,hD,hx,rfl,rfl⟩;refine ⟨.v _,rfl,?_⟩)|refine zg ?_|((first|apply zb|apply za|apply zc)<;>intro h<;>try (exfalso;omega))|refine pay ?_|intro _));(all_goals (conv=>whnf))
 all_goals first|(exfalso;((try dsimp only at *);omega))|skip
 all_goals exact ⟨⟨_,Ref.takes [78,77,3000,5002] rfl (.refl _),fs,x,a',c',g1,g2,hD,hx,rfl,rfl⟩⟩
abbrev bxL (b bp:Nat) (v0 v6 v7 v8 v9 v10 v11:Value) (a:Option Addr) (n c:Nat) (x:Int) (k:Value):Ent:=.box 5000 b [v0,pS bp,.bool false,.slice a n c,.int .i64 x,k,v6,v7,v8,v9,v10,v11] kZ
theorem zqG (bp bt bs b:Nat) (v0 v6 v7 v8 v9 v10 v11:Value) (S:Sto) (hw:WF S) (x:Int) (h1:1<=x) (h2:x<=S.E.length) (hl:0<=(tm S.E x).level) (a:Option Addr) (n c:Nat) (k:Value) (f1 f2 fp:List Nat) (w:World)
 (hR:R w fp (fP bp bt bs S f1 f2++[bxL b bp v0 v6 v7 v8 v9 v10 v11 a n c x k]) w) (hG:qq w fp) :
 Calls Tryz.prog qV #[.pointer (some ⟨b,1,none⟩)] w fun e w'=>∃ v L1,e=.returned v/\R w fp L1 w'/\zss bp bt bs S x [bxL b bp v0 v6 v7 v8 v9 v10 v11 a n c x k] v L1:=by
 refine zf [.ptr 5000 b 1] vG (by simp) hR ?_
 have c1:=qZ bs S x hw.small
 rw [yy h1 h2] at c1
 have c2:=zat bt bs S hw x
 unfold zed at c2
 rw [if_pos ⟨h1,h2⟩,if_neg (by omega)] at c2
 have c3:=fun w=>jk (atE S.E x).r.k (atE S.E x).r.l (atE S.E x).r.a (atE S.E x).r.b (atE S.E x).r.t w
 (repeat' ((conv=>whnf);first|refine goS (bt:=bt) (bs:=bs) rfl ?_|refine goT (bt:=bt) (bs:=bs) rfl ?_|refine SC.go 77 c1 rfl fun fp'=>?_|(refine zZ (key1:=78) (key2:=77) rfl rfl (fun w hR h0=>c2 _ _ _ _ _ h0 (hG.cast2 hR)) ?_;rintro _ _ ⟨rfl,fp1',fp2',rfl⟩;refine ⟨.v _,rfl,?_⟩)|(first|refine puK c3 ?_|refine quK c3 ?_)|refine xJ ?_ ?_|refine vY [5000] (by rfl) ?_|refine zg ?_|((first|apply zb|apply za|apply zc)<;>intro h<;>try (exfalso;omega))|refine pay ?_|refine And.intro (by first|exact fun _=>Ref.take [5000] (by rfl)|exact Ref.take [5000] (by rfl)) ?_|intro _));(all_goals (conv=>whnf))
 all_goals exact ⟨⟨_,Ref.takes [78,77,3000,5000] rfl (.refl _),_,_,rfl,rfl⟩⟩
theorem zqH (bp bt bs b:Nat) (v0 v6 v7 v8 v9 v10 v11:Value) (S:Sto) (hw:WF S) (T:Tm) (j:Nat) (W:List Tm) (fs0:List FrI) (x0:Int) (h0:DnI S false T j W fs0 fs0 x0) (a:Option Addr) (c:Nat) (k0:Value) (f1 f2 fp:List Nat) (w:World)
 (hR:R w fp (fP bp bt bs S f1 f2++[bxL b bp v0 v6 v7 v8 v9 v10 v11 a fs0.length c x0 k0,.own 5001 a fs0.length c zi 8 (frs S fs0)]) w) (hG:qq w fp) :
 Calls Tryz.prog yu #[.pointer (some ⟨b,1,none⟩),.int .i64 j] w fun e w'=>∃ v L1,e=.returned v/\R w fp L1 w'/\∃ fs x a' c' f1' f2',DnI S false T j W fs0 fs x/\(tm S.E x).level<=j/\v=.tuple #[]/\L1=fP bp bt bs S f1' f2'++[bxL b bp v0 v6 v7 v8 v9 v10 v11 a' fs.length c' x (.int .u64 (tm S.E x).key),.own 5001 a' fs.length c' zi 8 (frs S fs)]:=by
 refine zf [.ptr 5000 b 1,.v (.int .i64 j)] vH (by simp) hR ?_
 have co:=fun (x:Int) (h1:1<=x) (h2:x<=S.E.length) (hl:0<=(tm S.E x).level) a n c k f1 f2 fp w hR hG=>zqG bp bt bs b v0 v6 v7 v8 v9 v10 v11 S hw x h1 h2 hl a n c k f1 f2 fp w hR hG
 have hq0:=h0.x1
 have hq1:=h0.x2
 have hq2:=h0.lvd
 (repeat' ((conv=>whnf);first|(refine zh [78,77,3000,5000] rfl (fun w hR h=>co x0 hq0 hq1 hq2 _ _ _ _ _ _ _ w h (hG.castL hR)) ?_;rintro _ _ ⟨g1,g2,rfl,rfl⟩;refine ⟨.v _,rfl,?_⟩)|refine zg ?_|((first|apply zb|apply za|apply zc)<;>intro h<;>try (exfalso;omega))|refine pay ?_|intro _));(all_goals (conv=>whnf))
 rename_i b4
 refine zP DnG (fun y=>[(0,.ptr 5000 b 1),(1,.v (.int .i64 j)),(4,.ptr 4 y.b4 0)])
  (fun y=>fP bp bt bs S y.f1 y.f2++[bxL b bp v0 v6 v7 v8 v9 v10 v11 y.a y.fs.length y.c y.x k0,.own 5001 y.a y.fs.length y.c zi 8 (frs S y.fs),.box 4 y.b4 (frO S y.x) zi])
  (fun y=>DnI S false T j W fs0 y.fs y.x) (fun y=>y.x.toNat) ⟨fs0,x0,a,c,g1,g2,b4⟩ h0 (by (repeat ((conv=>whnf);refine vS ?_));exact trivial) (Ref.takes [78,77,3000,5000,5001,4] rfl (.refl _)) ?_
 clear hq0 hq1 hq2
 rintro ⟨fs,x,a,c,g1,g2,b4⟩ hI
 dsimp only at hI ⊢
 have hx1:=hI.x1
 have hx2:=hI.x2
 by_cases hlt:(j:Int)<(tm S.E x).level
 ·obtain ⟨hN,hkx,hwh⟩:=hI.next hw hlt
  have c3:=fun w=>jj x (atE S.E x).r.k (atE S.E x).r.l (atE S.E x).r.a (atE S.E x).r.b (atE S.E x).r.t (tm S.E x).level (zy (tm S.E x)) false w
  have hkv:zfF (atE S.E x).r.k (atE S.E x).r.a (atE S.E x).r.b (zy (tm S.E x)) false=vX S false ⟨x,zy (tm S.E x)⟩:=rfl
  rw [hkv] at c3
  have hfl:(fs++[(⟨x,zy (tm S.E x)⟩:FrI)]).length=fs.length+1:=by simp
  have hfs:=vW S fs ⟨x,zy (tm S.E x)⟩
  have hll:=hI.len
  have hsm:=hw.small
  have hk1:=hN.x1
  have hk2:=hN.x2
  have hk3:=hN.lvd
  rw [show frO S x=frC S ⟨x,zy (tm S.E x)⟩ by unfold frO;rw [hwh]]
  generalize vX S false ⟨x,zy (tm S.E x)⟩=y at *
  (repeat' ((conv=>whnf);first|(first|refine puK c3 ?_|refine quK c3 ?_)|rw [hfs]|(refine zh [78,77,3000,5000] rfl (fun w hR h=>co _ hk1 hk2 hk3 _ _ _ _ _ _ _ w h (hG.castL hR)) ?_;rintro _ _ ⟨q1,q2,rfl,rfl⟩;refine ⟨.v _,rfl,?_⟩)|refine ⟨.sl 5001 _ _ _,⟨rfl,rfl,rfl,rfl⟩,?_⟩|refine zg ?_|((first|apply zb|apply za|apply zc)<;>intro h<;>try (exfalso;omega))|refine pay ?_|refine And.intro (by first|exact ⟨by omega,by unfold maxLen;omega⟩|exact ⟨by unfold maxLen;omega,by omega⟩) ?_|intro _));(all_goals (conv=>whnf))
  all_goals first|(exfalso;(dsimp only at *);omega)|skip
  exact zm (⟨_,y,_,_,q1,q2,_⟩:DnG) hN (by dsimp only;omega) (by (repeat ((conv=>whnf);refine vS ?_));exact trivial) (Ref.takes [78,77,3000,5000,5001,4] rfl (.keep rfl (fun _ h=>h) (.keep rfl (fun _ h=>h) (.keep rfl (fun _ h=>h) (.box (by rw [hfl]) (.own hfl.symm rfl (.refl _)))))))
 ·have c2:=x6 bt bs S hw x
  rw [x8 ⟨hx1,hx2⟩] at c2
  (repeat' ((conv=>whnf);first|refine goT (bt:=bt) (bs:=bs) rfl ?_|(refine zZ (key1:=78) (key2:=77) rfl rfl (fun w hR h0=>c2 _ _ _ _ _ h0 (hG.cast2 hR)) ?_;rintro _ _ ⟨rfl,fp1',fp2',rfl⟩;refine ⟨.v _,rfl,?_⟩)|refine vY [5000] (by rfl) ?_|refine zg ?_|((first|apply zb|apply za|apply zc)<;>intro h<;>try (exfalso;omega))|refine pay ?_|refine And.intro (by first|exact fun _=>Ref.take [5000] (by rfl)|exact Ref.take [5000] (by rfl)) ?_|intro _));(all_goals (conv=>whnf))
  all_goals try (exfalso;omega)
  all_goals exact ⟨⟨_,Ref.takes [78,77,3000,5000,5001] rfl (.refl _),fs,x,a,c,_,_,hI,by omega,rfl,rfl⟩⟩
theorem zaC (b bp:Nat) (v0 v6 v7 v8 v9 v10 v11:Value) (S:Sto) (fs:List FrI) (hl:fs.length<=1048576) (x:Int) (k:Value) (l:Nat) (a:Option Addr) (c:Nat) (fp:List Nat) (w:World)
 (hR:R w fp [bxL b bp v0 v6 v7 v8 v9 v10 v11 a fs.length c x k,.own 5001 a fs.length c zi 8 (frs S fs)] w) :
 Calls Tryz.prog qf #[.pointer (some ⟨b,1,none⟩),.int .i64 l] w fun e w'=>∃ v L1,e=.returned v/\R w fp L1 w'/\zvs S fs l a v/\L1=[bxL b bp v0 v6 v7 v8 v9 v10 v11 a fs.length c x k,.own 5001 a fs.length c zi 8 (frs S fs)]:=by
 refine zf [.ptr 5000 b 1,.v (.int .i64 l)] zbp (by simp) hR ?_
 rcases yw fs with rfl|⟨fs1,f,rfl⟩
 ·(repeat' ((conv=>whnf);first|refine ⟨.sl 5001 _ _ _,⟨rfl,rfl,rfl,rfl⟩,?_⟩|refine zg ?_|((first|apply zb|apply za|apply zc)<;>intro h<;>try (exfalso;omega))|refine pay ?_|intro _));(all_goals (conv=>whnf))
  all_goals first|(exfalso;simp at *;done)|skip
  all_goals exact ⟨⟨_,Ref.refl _,.inr ⟨fun fs1 f e=>by simp at e,rfl⟩,rfl⟩⟩
 ·have hn:(fs1++[f]).length=fs1.length+1:=by simp
  have e1:(((fs1.length+1:Nat):Int) - 1).toNat=fs1.length:=by omega
  have r6:=qC S fs1 f 6
  rw [hn] at hl hR ⊢
  (repeat' ((conv=>whnf);first|rw [e1]|refine zB r6 ?_|refine ⟨.sl 5001 _ _ _,⟨rfl,rfl,rfl,rfl⟩,?_⟩|refine zg ?_|((first|apply zb|apply za|apply zc)<;>intro h<;>try (exfalso;omega))|refine pay ?_|refine And.intro (by first|exact ⟨rfl,by omega⟩) ?_|intro _));(all_goals (conv=>whnf))
  all_goals try (exfalso;omega)
  ·exact ⟨⟨_,Ref.refl _,.inl ⟨fs1,f,rfl,by omega,rfl⟩,rfl⟩⟩
  ·refine ⟨⟨_,Ref.refl _,.inr ⟨fun fs2 g e=>?_,rfl⟩,rfl⟩⟩
   have e1:=(List.append_inj' e rfl).2
   simp only [List.cons.injEq,and_true] at e1
   subst e1
   omega
theorem ztP (bp bt bs b:Nat) (v0 v6 v7 v8 v9 v10 v11:Value) (S:Sto) (hw:WF S) (T:Tm) (hT:Is T) (j:Nat) (fs:List FrI) (x:Int) (h:EnS S false T j fs x) (hx:(tm S.E x).level<=j) (hcl:∀ f∈fs,(tm S.E f.i).level=((j+1:Nat):Int)->f.h=zy (tm S.E f.i)) (k:Value) (a:Option Addr) (c:Nat) (f1 f2 fp:List Nat) (w:World)
 (hR:R w fp (fP bp bt bs S f1 f2++[bxL b bp v0 v6 v7 v8 v9 v10 v11 a fs.length c x k,.own 5001 a fs.length c zi 8 (frs S fs)]) w) (hG:qq w fp) :
 Calls Tryz.prog qB #[.pointer (some ⟨b,1,none⟩),.int .i64 ((j+1:Nat):Int)] w fun e w'=>∃ v L1,e=.returned v/\R w fp L1 w'/\∃ fs' x' k' f1' f2',UpQ S false T j fs x k fs' x' k'/\v=.tuple #[]/\L1=fP bp bt bs S f1' f2'++[bxL b bp v0 v6 v7 v8 v9 v10 v11 a fs'.length c x' k',.own 5001 a fs'.length c zi 8 (frs S fs')]:=by
 refine zf [.ptr 5000 b 1,.v (.int .i64 ((j+1:Nat):Int))] uO (by simp) hR ?_
 have hsm:=hw.small
 have hll:=h.len
 have cp:=fun fp w hR=>zaC b bp v0 v6 v7 v8 v9 v10 v11 S fs (by omega) x k (j+1) a c fp w hR
 have hx1:=h.x1
 have hx2:=h.x2
 (repeat' ((conv=>whnf);first|(refine zh [5000,5001] rfl (fun w hR h=>cp _ w h) ?_;rintro _ _ ⟨hq,rfl⟩) |((first|apply zb|apply za|apply zc)<;>intro h<;>try (exfalso;omega))|refine pay ?_|intro _));(all_goals (conv=>whnf))
 rcases hq with ⟨fs1,f,rfl,hlv,rfl⟩|⟨hno,rfl⟩
 ·have hn:(fs1++[f]).length=fs1.length+1:=by simp
  have e1:(((fs1.length+1:Nat):Int) - 1).toNat=fs1.length:=by omega
  have hid:=h.ids f (by simp)
  have hwl:=hcl f (by simp) hlv
  have hwh:=zpG hw hid.1 hid.2 (by omega)
  have c3:=fun w=>jk (atE S.E f.i).r.k (atE S.E f.i).r.l (atE S.E f.i).r.a (atE S.E f.i).r.b (atE S.E f.i).r.t w
  rw [hwh] at c3
  have c2:=x6 bt bs S hw f.i
  rw [x8 hid] at c2
  have hU:=EnS.up (k:=k) hw hT h hx hlv hwl
  have r0:=qC S fs1 f 0
  have r1:=zrw S fs1 f
  have r7:=qC S fs1 f 7
  have htk:=zhm S fs1 f
  rw [hn] at hll hR ⊢
  have hane:a≠none:=xZ hR (key:=5001) rfl (Nat.succ_pos _)
  obtain ⟨a0,rfl⟩:=Option.ne_none_iff_exists'.1 hane
  refine ⟨.ek 5001 (some a0) (fs1.length*8),rfl,?_⟩
  (repeat' ((conv=>whnf);first|(first|refine puK c3 ?_|refine quK c3 ?_)|(refine zZ (key1:=78) (key2:=77) rfl rfl (fun w hR h0=>c2 _ _ _ _ _ h0 (hG.cast2 hR)) ?_;rintro _ _ ⟨rfl,fp1',fp2',rfl⟩;refine ⟨.v _,rfl,?_⟩)|rw [e1]|rw [htk]|refine goT (bt:=bt) (bs:=bs) rfl ?_|refine zB r0 ?_|refine zB r7 ?_|refine ue r1 ?_|refine vY [5000,5001] (by rfl) ?_|refine ⟨.sl 5001 _ _ _,⟨rfl,rfl,rfl,rfl⟩,?_⟩|refine ⟨.ek 5001 _ _,⟨rfl,trivial⟩,?_⟩|refine zg ?_|((first|apply zb|apply za|apply zc)<;>intro h<;>try (exfalso;omega))|refine pay ?_|refine And.intro (by first|exact ⟨rfl,by omega⟩|exact ⟨rfl,rfl,rfl,by omega,by omega⟩|exact fun _=>Ref.take [5000,5001] (by rfl)|exact Ref.take [5000,5001] (by rfl)) ?_|intro _));(all_goals (conv=>whnf))
  all_goals first|(exfalso;((try dsimp only at *);omega))|skip
  all_goals exact ⟨⟨_,Ref.takes [78,77,3000,5000,5001] rfl (.refl _),fs1,f.i,_,_,_,hU,rfl,rfl⟩⟩
 ·refine ⟨.v (.pointer none),rfl,?_⟩
  (repeat' ((conv=>whnf);first|refine zg ?_|((first|apply zb|apply za|apply zc)<;>intro h<;>try (exfalso;omega))|refine pay ?_|intro _));(all_goals (conv=>whnf))
  all_goals exact ⟨⟨_,Ref.takes [78,77,3000,5000,5001] rfl (.refl _),fs,x,k,_,_,EnS.stay hT h hx hno,rfl,rfl⟩⟩
theorem zst (b bp:Nat) (v0 v6 v7 v8 v9 v10 v11:Value) (S:Sto) (fs:List FrI) (hl:fs.length<=1048576) (x:Int) (k:Value) (l:Nat) (a:Option Addr) (c:Nat) (fp:List Nat) (w:World)
 (hR:R w fp [bxL b bp v0 v6 v7 v8 v9 v10 v11 a fs.length c x k,.own 5001 a fs.length c zi 8 (frs S fs)] w) :
 Calls Tryz.prog kI #[.pointer (some ⟨b,1,none⟩),.int .i64 l] w fun e w'=>∃ v L1,e=.returned v/\R w fp L1 w'/\zvt S fs l v/\L1=[bxL b bp v0 v6 v7 v8 v9 v10 v11 a fs.length c x k,.own 5001 a fs.length c zi 8 (frs S fs)]:=by
 refine zf [.ptr 5000 b 1,.v (.int .i64 l)] zdc (by simp) hR ?_
 have cp:=fun fp w hR=>zaC b bp v0 v6 v7 v8 v9 v10 v11 S fs hl x k l a c fp w hR
 (repeat' ((conv=>whnf);first|(refine zh [5000,5001] rfl (fun w hR h=>cp _ w h) ?_;rintro _ _ ⟨hq,rfl⟩) |((first|apply zb|apply za|apply zc)<;>intro h<;>try (exfalso;omega))|refine pay ?_|intro _));(all_goals (conv=>whnf))
 rcases hq with ⟨fs1,f,rfl,hlv,rfl⟩|⟨hno,rfl⟩
 ·have hn:(fs1++[f]).length=fs1.length+1:=by simp
  have r4:=qC S fs1 f 5
  have r7:=qC S fs1 f 7
  rw [hn] at hl hR ⊢
  have hane:a≠none:=xZ hR (key:=5001) rfl (Nat.succ_pos _)
  obtain ⟨a0,rfl⟩:=Option.ne_none_iff_exists'.1 hane
  refine ⟨.ek 5001 (some a0) (fs1.length*8),rfl,?_⟩
  (repeat' ((conv=>whnf);first|refine zB r4 ?_|refine zB r7 ?_|refine zg ?_|((first|apply zb|apply za|apply zc)<;>intro h<;>try (exfalso;omega))|refine pay ?_|refine And.intro (by first|exact ⟨rfl,by omega⟩) ?_|intro _));(all_goals (conv=>whnf))
  all_goals first|(exfalso;((try dsimp only at *);omega))|skip
  all_goals exact ⟨⟨_,Ref.refl _,.inl ⟨fs1,f,rfl,hlv,rfl⟩,rfl⟩⟩
 ·refine ⟨.v (.pointer none),rfl,?_⟩
  (repeat' ((conv=>whnf);first|refine zg ?_|((first|apply zb|apply za|apply zc)<;>intro h<;>try (exfalso;omega))|refine pay ?_|intro _));(all_goals (conv=>whnf))
  all_goals exact ⟨⟨_,Ref.refl _,.inr ⟨hno,rfl⟩,rfl⟩⟩
theorem zjs (bp bt bs b:Nat) (v0 v6 v7 v8 v9 v10 v11:Value) (S:Sto) (hw:WF S) (T:Tm) (j:Nat) (W:List Tm) (lv:Int) (kp:Prop) (fs0:List FrI) (n0:Nat) (h0:DrI S false T j W lv kp fs0 n0) (x0:Int) (k0:Value) (a:Option Addr) (c:Nat) (f1 f2 fp:List Nat) (w:World)
 (hR:R w fp (fP bp bt bs S f1 f2++[bxL b bp v0 v6 v7 v8 v9 v10 v11 a fs0.length c x0 k0,.own 5001 a fs0.length c zi 8 (frs S fs0)]) w) (hG:qq w fp) :
 Calls Tryz.prog qz #[.pointer (some ⟨b,1,none⟩),.int .i64 n0,.int .i64 j] w fun e w'=>∃ v L1,e=.returned v/\R w fp L1 w'/\∃ fs x a' c' f1' f2',DrQ S false T j W lv kp fs x/\v=.tuple #[]/\L1=fP bp bt bs S f1' f2'++[bxL b bp v0 v6 v7 v8 v9 v10 v11 a' fs.length c' x (.int .u64 (tm S.E x).key),.own 5001 a' fs.length c' zi 8 (frs S fs)]:=by
 refine zf [.ptr 5000 b 1,.v (.int .i64 n0),.v (.int .i64 j)] zcI (by simp) hR ?_
 (repeat' ((conv=>whnf);first|refine ⟨.sl 5001 _ _ _,⟨rfl,rfl,rfl,rfl⟩,?_⟩|refine zg ?_|((first|apply zb|apply za|apply zc)<;>intro h<;>try (exfalso;omega))|refine pay ?_|intro _));(all_goals (conv=>whnf))
 refine zP DrG (fun y=>[(0,.ptr 5000 b 1),(1,.v (.int .i64 y.n)),(2,.v (.int .i64 j)),(6,.v (.int .i64 y.fs.length))])
  (fun y=>fP bp bt bs S f1 f2++[bxL b bp v0 v6 v7 v8 v9 v10 v11 a y.fs.length c 0 (.int .u64 0),.own 5001 a y.fs.length c zi 8 (frs S y.fs)])
  (fun y=>DrI S false T j W lv kp y.fs y.n) (fun y=>y.fs.length) ⟨fs0,n0⟩ h0 (by (repeat ((conv=>whnf);refine vS ?_));exact trivial) (Ref.takes [78,77,3000,5000,5001] rfl (.refl _)) ?_
 clear h0 hR
 rintro ⟨fs,n⟩ hI
 dsimp only at hI ⊢
 have hll:=hI.len
 have hsm:=hw.small
 rcases yw fs with rfl|⟨fs1,f,rfl⟩
 ·(repeat' ((conv=>whnf);first|refine zg ?_|((first|apply zb|apply za|apply zc)<;>intro h<;>try (exfalso;omega))|refine pay ?_|intro _));(all_goals (conv=>whnf))
  all_goals first|(exfalso;((try dsimp only at *);omega))|skip
  all_goals exact ⟨⟨_,Ref.takes [78,77,3000,5000,5001] rfl (.refl _),[],0,a,c,f1,f2,.inl ⟨rfl,rfl,hI.nil rfl⟩,rfl,rfl⟩⟩
 ·have hn:(fs1++[f]).length=fs1.length+1:=by simp
  have e1:(((fs1.length+1:Nat):Int) - 1).toNat=fs1.length:=by omega
  have hid:=hI.ids f (by simp)
  obtain ⟨hc,hok,hW,hlv⟩:=hI.last fs1 f rfl
  have hnf:n<=f.h:=hok.2.1
  have hle:=zrx hw hid (hI.ok f (by simp)).1
  have hLM:LM=1152921504606846976:=rfl
  have r7:=qC S fs1 f 7
  have htk:=zhm S fs1 ⟨f.i,f.h - n⟩
  have hhv:=zpF S fs1 f (f.h - n)
  have hcast:((f.h:Int) - (n:Int))=((f.h - n:Nat):Int):=by omega
  have r7':=qC S fs1 ⟨f.i,f.h - n⟩ 7
  have rw8:=zpE S fs1 ⟨f.i,f.h - n⟩
  have hfl:(frs S (fs1++[f])).length=(fs1.length+1)*8:=by rw [vK,hn]
  have c3:=fun w=>jj f.i (atE S.E f.i).r.k (atE S.E f.i).r.l (atE S.E f.i).r.a (atE S.E f.i).r.b (atE S.E f.i).r.t (tm S.E f.i).level ((f.h - n:Nat):Int) false w
  have hkv:zfF (atE S.E f.i).r.k (atE S.E f.i).r.a (atE S.E f.i).r.b ((f.h - n:Nat):Int) false=vX S false ⟨f.i,f.h - n⟩:=rfl
  rw [hkv] at c3
  rw [hn] at hll ⊢
  by_cases hlt:n<f.h
  ·obtain ⟨hD,hP⟩:=hI.some hw hlt
   have cd:=fun a c k0 f1 f2 fp w hR hG=>zqH bp bt bs b v0 v6 v7 v8 v9 v10 v11 S hw T j W _ _ hD a c k0 f1 f2 fp w hR hG
   have hn':(fs1++[(⟨f.i,f.h - n⟩:FrI)]).length=fs1.length+1:=by simp
   rw [hn'] at cd
   generalize vX S false ⟨f.i,f.h - n⟩=y at *
   generalize hN:fs1.length+1=N at *
   (repeat' ((conv=>whnf);first|(first|refine puK c3 ?_|refine quK c3 ?_)|rw [e1]|rw [hcast]|rw [hhv]|refine zB r7 ?_|refine zB r7' ?_|refine ue rw8 ?_|(refine zh [78,77,3000,5000,5001] rfl (fun w hR h=>cd _ _ _ _ _ _ w h (hG.castL hR)) ?_;rintro _ _ ⟨fs',x',a',c',g1,g2,hDn,hxl,rfl,rfl⟩;refine ⟨.v _,rfl,?_⟩)|refine ⟨.sl 5001 _ _ _,⟨rfl,rfl,rfl,rfl⟩,?_⟩|refine zg ?_|((first|apply zb|apply za|apply zc)<;>intro h<;>try (exfalso;omega))|refine pay ?_|refine And.intro (by first|exact ⟨rfl,by omega⟩|exact ⟨rfl,by rw [hfl];omega⟩) ?_|intro _));(all_goals (conv=>whnf))
   all_goals first|(exfalso;((try dsimp only at *);omega))|skip
   all_goals exact ⟨⟨_,Ref.takes [78,77,3000,5000,5001] rfl (.refl _),fs',x',a',c',g1,g2,hDn.drq hxl hP,rfl,rfl⟩⟩
  ·have hnh:n=f.h:=by omega
   have hpop:=hI.pop hnh
   generalize hN:fs1.length+1=N at *
   (repeat' ((conv=>whnf);first|rw [e1]|rw [hcast]|rw [hhv]|rw [htk]|refine zB r7 ?_|refine zB r7' ?_|refine ⟨.sl 5001 _ _ _,⟨rfl,rfl,rfl,rfl⟩,?_⟩|refine zg ?_|((first|apply zb|apply za|apply zc)<;>intro h<;>try (exfalso;omega))|refine pay ?_|refine And.intro (by first|exact ⟨rfl,by omega⟩|exact ⟨rfl,by rw [hfl];omega⟩|exact ⟨rfl,rfl,rfl,by omega,by omega⟩) ?_|intro _));(all_goals (conv=>whnf))
   all_goals first|(exfalso;((try dsimp only at *);omega))|skip
   all_goals exact zm (⟨fs1,1⟩:DrG) hpop (by dsimp only;omega) (by (repeat ((conv=>whnf);refine vS ?_));exact trivial) (Ref.takes [78,77,3000,5000,5001] rfl (.refl _))
abbrev bxR (b bp:Nat) (v0 v1 v2 v3 v4 v5 v11:Value) (a:Option Addr) (n c:Nat) (x:Int) (k:Value):Ent:=.box 5000 b [v0,v1,v2,v3,v4,v5,pS bp,.bool true,.slice a n c,.int .i64 x,k,v11] kZ
theorem zqI (bp bt bs b:Nat) (v0 v1 v2 v3 v4 v5 v11:Value) (S:Sto) (hw:WF S) (x:Int) (h1:1<=x) (h2:x<=S.E.length) (hl:0<=(tm S.E x).level) (a:Option Addr) (n c:Nat) (k:Value) (f1 f2 fp:List Nat) (w:World)
 (hR:R w fp (fP bp bt bs S f1 f2++[bxR b bp v0 v1 v2 v3 v4 v5 v11 a n c x k]) w) (hG:qq w fp) :
 Calls Tryz.prog qV #[.pointer (some ⟨b,6,none⟩)] w fun e w'=>∃ v L1,e=.returned v/\R w fp L1 w'/\zss bp bt bs S x [bxR b bp v0 v1 v2 v3 v4 v5 v11 a n c x k] v L1:=by
 refine zf [.ptr 5000 b 6] vG (by simp) hR ?_
 have c1:=qZ bs S x hw.small
 rw [yy h1 h2] at c1
 have c2:=zat bt bs S hw x
 unfold zed at c2
 rw [if_pos ⟨h1,h2⟩,if_neg (by omega)] at c2
 have c3:=fun w=>jk (atE S.E x).r.k (atE S.E x).r.l (atE S.E x).r.a (atE S.E x).r.b (atE S.E x).r.t w
 (repeat' ((conv=>whnf);first|refine goS (bt:=bt) (bs:=bs) rfl ?_|refine goT (bt:=bt) (bs:=bs) rfl ?_|refine SC.go 77 c1 rfl fun fp'=>?_|(refine zZ (key1:=78) (key2:=77) rfl rfl (fun w hR h0=>c2 _ _ _ _ _ h0 (hG.cast2 hR)) ?_;rintro _ _ ⟨rfl,fp1',fp2',rfl⟩;refine ⟨.v _,rfl,?_⟩)|(first|refine puK c3 ?_|refine quK c3 ?_)|refine xJ ?_ ?_|refine vY [5000] (by rfl) ?_|refine zg ?_|((first|apply zb|apply za|apply zc)<;>intro h<;>try (exfalso;omega))|refine pay ?_|refine And.intro (by first|exact fun _=>Ref.take [5000] (by rfl)|exact Ref.take [5000] (by rfl)) ?_|intro _));(all_goals (conv=>whnf))
 all_goals exact ⟨⟨_,Ref.takes [78,77,3000,5000] rfl (.refl _),_,_,rfl,rfl⟩⟩
theorem zqJ (bp bt bs b:Nat) (v0 v1 v2 v3 v4 v5 v11:Value) (S:Sto) (hw:WF S) (T:Tm) (j:Nat) (W:List Tm) (fs0:List FrI) (x0:Int) (h0:DnI S true T j W fs0 fs0 x0) (a:Option Addr) (c:Nat) (k0:Value) (f1 f2 fp:List Nat) (w:World)
 (hR:R w fp (fP bp bt bs S f1 f2++[bxR b bp v0 v1 v2 v3 v4 v5 v11 a fs0.length c x0 k0,.own 5002 a fs0.length c zi 8 (frs S fs0)]) w) (hG:qq w fp) :
 Calls Tryz.prog yu #[.pointer (some ⟨b,6,none⟩),.int .i64 j] w fun e w'=>∃ v L1,e=.returned v/\R w fp L1 w'/\∃ fs x a' c' f1' f2',DnI S true T j W fs0 fs x/\(tm S.E x).level<=j/\v=.tuple #[]/\L1=fP bp bt bs S f1' f2'++[bxR b bp v0 v1 v2 v3 v4 v5 v11 a' fs.length c' x (.int .u64 (tm S.E x).key),.own 5002 a' fs.length c' zi 8 (frs S fs)]:=by
 refine zf [.ptr 5000 b 6,.v (.int .i64 j)] vH (by simp) hR ?_
 have co:=fun (x:Int) (h1:1<=x) (h2:x<=S.E.length) (hl:0<=(tm S.E x).level) a n c k f1 f2 fp w hR hG=>zqI bp bt bs b v0 v1 v2 v3 v4 v5 v11 S hw x h1 h2 hl a n c k f1 f2 fp w hR hG
 have hq0:=h0.x1
 have hq1:=h0.x2
 have hq2:=h0.lvd
 (repeat' ((conv=>whnf);first|(refine zh [78,77,3000,5000] rfl (fun w hR h=>co x0 hq0 hq1 hq2 _ _ _ _ _ _ _ w h (hG.castL hR)) ?_;rintro _ _ ⟨g1,g2,rfl,rfl⟩;refine ⟨.v _,rfl,?_⟩)|refine zg ?_|((first|apply zb|apply za|apply zc)<;>intro h<;>try (exfalso;omega))|refine pay ?_|intro _));(all_goals (conv=>whnf))
 rename_i b4
 refine zP DnG (fun y=>[(0,.ptr 5000 b 6),(1,.v (.int .i64 j)),(4,.ptr 4 y.b4 0)])
  (fun y=>fP bp bt bs S y.f1 y.f2++[bxR b bp v0 v1 v2 v3 v4 v5 v11 y.a y.fs.length y.c y.x k0,.own 5002 y.a y.fs.length y.c zi 8 (frs S y.fs),.box 4 y.b4 (frO S y.x) zi])
  (fun y=>DnI S true T j W fs0 y.fs y.x) (fun y=>y.x.toNat) ⟨fs0,x0,a,c,g1,g2,b4⟩ h0 (by (repeat ((conv=>whnf);refine vS ?_));exact trivial) (Ref.takes [78,77,3000,5000,5002,4] rfl (.refl _)) ?_
 clear hq0 hq1 hq2
 rintro ⟨fs,x,a,c,g1,g2,b4⟩ hI
 dsimp only at hI ⊢
 have hx1:=hI.x1
 have hx2:=hI.x2
 by_cases hlt:(j:Int)<(tm S.E x).level
 ·obtain ⟨hN,hkx,hwh⟩:=hI.next hw hlt
  have c3:=fun w=>jj x (atE S.E x).r.k (atE S.E x).r.l (atE S.E x).r.a (atE S.E x).r.b (atE S.E x).r.t (tm S.E x).level (zy (tm S.E x)) true w
  have hkv:zfF (atE S.E x).r.k (atE S.E x).r.a (atE S.E x).r.b (zy (tm S.E x)) true=vX S true ⟨x,zy (tm S.E x)⟩:=rfl
  rw [hkv] at c3
  have hfl:(fs++[(⟨x,zy (tm S.E x)⟩:FrI)]).length=fs.length+1:=by simp
  have hfs:=vW S fs ⟨x,zy (tm S.E x)⟩
  have hll:=hI.len
  have hsm:=hw.small
  have hk1:=hN.x1
  have hk2:=hN.x2
  have hk3:=hN.lvd
  rw [show frO S x=frC S ⟨x,zy (tm S.E x)⟩ by unfold frO;rw [hwh]]
  generalize vX S true ⟨x,zy (tm S.E x)⟩=y at *
  (repeat' ((conv=>whnf);first|(first|refine puK c3 ?_|refine quK c3 ?_)|rw [hfs]|(refine zh [78,77,3000,5000] rfl (fun w hR h=>co _ hk1 hk2 hk3 _ _ _ _ _ _ _ w h (hG.castL hR)) ?_;rintro _ _ ⟨q1,q2,rfl,rfl⟩;refine ⟨.v _,rfl,?_⟩)|refine ⟨.sl 5002 _ _ _,⟨rfl,rfl,rfl,rfl⟩,?_⟩|refine zg ?_|((first|apply zb|apply za|apply zc)<;>intro h<;>try (exfalso;omega))|refine pay ?_|refine And.intro (by first|exact ⟨by omega,by unfold maxLen;omega⟩|exact ⟨by unfold maxLen;omega,by omega⟩) ?_|intro _));(all_goals (conv=>whnf))
  all_goals first|(exfalso;(dsimp only at *);omega)|skip
  exact zm (⟨_,y,_,_,q1,q2,_⟩:DnG) hN (by dsimp only;omega) (by (repeat ((conv=>whnf);refine vS ?_));exact trivial) (Ref.takes [78,77,3000,5000,5002,4] rfl (.keep rfl (fun _ h=>h) (.keep rfl (fun _ h=>h) (.keep rfl (fun _ h=>h) (.box (by rw [hfl]) (.own hfl.symm rfl (.refl _)))))))
 ·have c2:=x6 bt bs S hw x
  rw [x8 ⟨hx1,hx2⟩] at c2
  (repeat' ((conv=>whnf);first|refine goT (bt:=bt) (bs:=bs) rfl ?_|(refine zZ (key1:=78) (key2:=77) rfl rfl (fun w hR h0=>c2 _ _ _ _ _ h0 (hG.cast2 hR)) ?_;rintro _ _ ⟨rfl,fp1',fp2',rfl⟩;refine ⟨.v _,rfl,?_⟩)|refine vY [5000] (by rfl) ?_|refine zg ?_|((first|apply zb|apply za|apply zc)<;>intro h<;>try (exfalso;omega))|refine pay ?_|refine And.intro (by first|exact fun _=>Ref.take [5000] (by rfl)|exact Ref.take [5000] (by rfl)) ?_|intro _));(all_goals (conv=>whnf))
  all_goals try (exfalso;omega)
  all_goals exact ⟨⟨_,Ref.takes [78,77,3000,5000,5002] rfl (.refl _),fs,x,a,c,_,_,hI,by omega,rfl,rfl⟩⟩
theorem vz (b bp:Nat) (v0 v1 v2 v3 v4 v5 v11:Value) (S:Sto) (fs:List FrI) (hl:fs.length<=1048576) (x:Int) (k:Value) (l:Nat) (a:Option Addr) (c:Nat) (fp:List Nat) (w:World)
 (hR:R w fp [bxR b bp v0 v1 v2 v3 v4 v5 v11 a fs.length c x k,.own 5002 a fs.length c zi 8 (frs S fs)] w) :
 Calls Tryz.prog qf #[.pointer (some ⟨b,6,none⟩),.int .i64 l] w fun e w'=>∃ v L1,e=.returned v/\R w fp L1 w'/\zvs S fs l a v/\L1=[bxR b bp v0 v1 v2 v3 v4 v5 v11 a fs.length c x k,.own 5002 a fs.length c zi 8 (frs S fs)]:=by
 refine zf [.ptr 5000 b 6,.v (.int .i64 l)] zbp (by simp) hR ?_
 rcases yw fs with rfl|⟨fs1,f,rfl⟩
 ·(repeat' ((conv=>whnf);first|refine ⟨.sl 5002 _ _ _,⟨rfl,rfl,rfl,rfl⟩,?_⟩|refine zg ?_|((first|apply zb|apply za|apply zc)<;>intro h<;>try (exfalso;omega))|refine pay ?_|intro _));(all_goals (conv=>whnf))
  all_goals first|(exfalso;simp at *;done)|skip
  all_goals exact ⟨⟨_,Ref.refl _,.inr ⟨fun fs1 f e=>by simp at e,rfl⟩,rfl⟩⟩
 ·have hn:(fs1++[f]).length=fs1.length+1:=by simp
  have e1:(((fs1.length+1:Nat):Int) - 1).toNat=fs1.length:=by omega
  have r6:=qC S fs1 f 6
  rw [hn] at hl hR ⊢
  (repeat' ((conv=>whnf);first|rw [e1]|refine zB r6 ?_|refine ⟨.sl 5002 _ _ _,⟨rfl,rfl,rfl,rfl⟩,?_⟩|refine zg ?_|((first|apply zb|apply za|apply zc)<;>intro h<;>try (exfalso;omega))|refine pay ?_|refine And.intro (by first|exact ⟨rfl,by omega⟩) ?_|intro _));(all_goals (conv=>whnf))
  all_goals try (exfalso;omega)
  ·exact ⟨⟨_,Ref.refl _,.inl ⟨fs1,f,rfl,by omega,rfl⟩,rfl⟩⟩
  ·refine ⟨⟨_,Ref.refl _,.inr ⟨fun fs2 g e=>?_,rfl⟩,rfl⟩⟩
   have e1:=(List.append_inj' e rfl).2
   simp only [List.cons.injEq,and_true] at e1
   subst e1
   omega
theorem zm7 (bp bt bs b:Nat) (v0 v1 v2 v3 v4 v5 v11:Value) (S:Sto) (hw:WF S) (T:Tm) (hT:Is T) (j:Nat) (fs:List FrI) (x:Int) (h:EnS S true T j fs x) (hx:(tm S.E x).level<=j) (hcl:∀ f∈fs,(tm S.E f.i).level=((j+1:Nat):Int)->f.h=zy (tm S.E f.i)) (k:Value) (a:Option Addr) (c:Nat) (f1 f2 fp:List Nat) (w:World)
 (hR:R w fp (fP bp bt bs S f1 f2++[bxR b bp v0 v1 v2 v3 v4 v5 v11 a fs.length c x k,.own 5002 a fs.length c zi 8 (frs S fs)]) w) (hG:qq w fp) :
 Calls Tryz.prog qB #[.pointer (some ⟨b,6,none⟩),.int .i64 ((j+1:Nat):Int)] w fun e w'=>∃ v L1,e=.returned v/\R w fp L1 w'/\∃ fs' x' k' f1' f2',UpQ S true T j fs x k fs' x' k'/\v=.tuple #[]/\L1=fP bp bt bs S f1' f2'++[bxR b bp v0 v1 v2 v3 v4 v5 v11 a fs'.length c x' k',.own 5002 a fs'.length c zi 8 (frs S fs')]:=by
 refine zf [.ptr 5000 b 6,.v (.int .i64 ((j+1:Nat):Int))] uO (by simp) hR ?_
 have hsm:=hw.small
 have hll:=h.len
 have cp:=fun fp w hR=>vz b bp v0 v1 v2 v3 v4 v5 v11 S fs (by omega) x k (j+1) a c fp w hR
 have hx1:=h.x1
 have hx2:=h.x2
 (repeat' ((conv=>whnf);first|(refine zh [5000,5002] rfl (fun w hR h=>cp _ w h) ?_;rintro _ _ ⟨hq,rfl⟩) |((first|apply zb|apply za|apply zc)<;>intro h<;>try (exfalso;omega))|refine pay ?_|intro _));(all_goals (conv=>whnf))
 rcases hq with ⟨fs1,f,rfl,hlv,rfl⟩|⟨hno,rfl⟩
 ·have hn:(fs1++[f]).length=fs1.length+1:=by simp
  have e1:(((fs1.length+1:Nat):Int) - 1).toNat=fs1.length:=by omega
  have hid:=h.ids f (by simp)
  have hwl:=hcl f (by simp) hlv
  have hwh:=zpG hw hid.1 hid.2 (by omega)
  have c3:=fun w=>jk (atE S.E f.i).r.k (atE S.E f.i).r.l (atE S.E f.i).r.a (atE S.E f.i).r.b (atE S.E f.i).r.t w
  rw [hwh] at c3
  have c2:=x6 bt bs S hw f.i
  rw [x8 hid] at c2
  have hU:=EnS.up (k:=k) hw hT h hx hlv hwl
  have r0:=qC S fs1 f 0
  have r1:=zrw S fs1 f
  have r7:=qC S fs1 f 7
  have htk:=zhm S fs1 f
  rw [hn] at hll hR ⊢
  have hane:a≠none:=xZ hR (key:=5002) rfl (Nat.succ_pos _)
  obtain ⟨a0,rfl⟩:=Option.ne_none_iff_exists'.1 hane
  refine ⟨.ek 5002 (some a0) (fs1.length*8),rfl,?_⟩
  (repeat' ((conv=>whnf);first|(first|refine puK c3 ?_|refine quK c3 ?_)|(refine zZ (key1:=78) (key2:=77) rfl rfl (fun w hR h0=>c2 _ _ _ _ _ h0 (hG.cast2 hR)) ?_;rintro _ _ ⟨rfl,fp1',fp2',rfl⟩;refine ⟨.v _,rfl,?_⟩)|rw [e1]|rw [htk]|refine goT (bt:=bt) (bs:=bs) rfl ?_|refine zB r0 ?_|refine zB r7 ?_|refine ue r1 ?_|refine vY [5000,5002] (by rfl) ?_|refine ⟨.sl 5002 _ _ _,⟨rfl,rfl,rfl,rfl⟩,?_⟩|refine ⟨.ek 5002 _ _,⟨rfl,trivial⟩,?_⟩|refine zg ?_|((first|apply zb|apply za|apply zc)<;>intro h<;>try (exfalso;omega))|refine pay ?_|refine And.intro (by first|exact ⟨rfl,by omega⟩|exact ⟨rfl,rfl,rfl,by omega,by omega⟩|exact fun _=>Ref.take [5000,5002] (by rfl)|exact Ref.take [5000,5002] (by rfl)) ?_|intro _));(all_goals (conv=>whnf))
  all_goals first|(exfalso;((try dsimp only at *);omega))|skip
  all_goals exact ⟨⟨_,Ref.takes [78,77,3000,5000,5002] rfl (.refl _),fs1,f.i,_,_,_,hU,rfl,rfl⟩⟩
 ·refine ⟨.v (.pointer none),rfl,?_⟩
  (repeat' ((conv=>whnf);first|refine zg ?_|((first|apply zb|apply za|apply zc)<;>intro h<;>try (exfalso;omega))|refine pay ?_|intro _));(all_goals (conv=>whnf))
  all_goals exact ⟨⟨_,Ref.takes [78,77,3000,5000,5002] rfl (.refl _),fs,x,k,_,_,EnS.stay hT h hx hno,rfl,rfl⟩⟩
theorem zsu (b bp:Nat) (v0 v1 v2 v3 v4 v5 v11:Value) (S:Sto) (fs:List FrI) (hl:fs.length<=1048576) (x:Int) (k:Value) (l:Nat) (a:Option Addr) (c:Nat) (fp:List Nat) (w:World)
 (hR:R w fp [bxR b bp v0 v1 v2 v3 v4 v5 v11 a fs.length c x k,.own 5002 a fs.length c zi 8 (frs S fs)] w) :
 Calls Tryz.prog kI #[.pointer (some ⟨b,6,none⟩),.int .i64 l] w fun e w'=>∃ v L1,e=.returned v/\R w fp L1 w'/\zvt S fs l v/\L1=[bxR b bp v0 v1 v2 v3 v4 v5 v11 a fs.length c x k,.own 5002 a fs.length c zi 8 (frs S fs)]:=by
 refine zf [.ptr 5000 b 6,.v (.int .i64 l)] zdc (by simp) hR ?_
 have cp:=fun fp w hR=>vz b bp v0 v1 v2 v3 v4 v5 v11 S fs hl x k l a c fp w hR
 (repeat' ((conv=>whnf);first|(refine zh [5000,5002] rfl (fun w hR h=>cp _ w h) ?_;rintro _ _ ⟨hq,rfl⟩) |((first|apply zb|apply za|apply zc)<;>intro h<;>try (exfalso;omega))|refine pay ?_|intro _));(all_goals (conv=>whnf))
 rcases hq with ⟨fs1,f,rfl,hlv,rfl⟩|⟨hno,rfl⟩
 ·have hn:(fs1++[f]).length=fs1.length+1:=by simp
  have r4:=qC S fs1 f 5
  have r7:=qC S fs1 f 7
  rw [hn] at hl hR ⊢
  have hane:a≠none:=xZ hR (key:=5002) rfl (Nat.succ_pos _)
  obtain ⟨a0,rfl⟩:=Option.ne_none_iff_exists'.1 hane
  refine ⟨.ek 5002 (some a0) (fs1.length*8),rfl,?_⟩
  (repeat' ((conv=>whnf);first|refine zB r4 ?_|refine zB r7 ?_|refine zg ?_|((first|apply zb|apply za|apply zc)<;>intro h<;>try (exfalso;omega))|refine pay ?_|refine And.intro (by first|exact ⟨rfl,by omega⟩) ?_|intro _));(all_goals (conv=>whnf))
  all_goals first|(exfalso;((try dsimp only at *);omega))|skip
  all_goals exact ⟨⟨_,Ref.refl _,.inl ⟨fs1,f,rfl,hlv,rfl⟩,rfl⟩⟩
 ·refine ⟨.v (.pointer none),rfl,?_⟩
  (repeat' ((conv=>whnf);first|refine zg ?_|((first|apply zb|apply za|apply zc)<;>intro h<;>try (exfalso;omega))|refine pay ?_|intro _));(all_goals (conv=>whnf))
  all_goals exact ⟨⟨_,Ref.refl _,.inr ⟨hno,rfl⟩,rfl⟩⟩
theorem jl (bp bt bs b:Nat) (v0 v1 v2 v3 v4 v5 v11:Value) (S:Sto) (hw:WF S) (T:Tm) (j:Nat) (W:List Tm) (lv:Int) (kp:Prop) (fs0:List FrI) (n0:Nat) (h0:DrI S true T j W lv kp fs0 n0) (x0:Int) (k0:Value) (a:Option Addr) (c:Nat) (f1 f2 fp:List Nat) (w:World)
 (hR:R w fp (fP bp bt bs S f1 f2++[bxR b bp v0 v1 v2 v3 v4 v5 v11 a fs0.length c x0 k0,.own 5002 a fs0.length c zi 8 (frs S fs0)]) w) (hG:qq w fp) :
 Calls Tryz.prog qz #[.pointer (some ⟨b,6,none⟩),.int .i64 n0,.int .i64 j] w fun e w'=>∃ v L1,e=.returned v/\R w fp L1 w'/\∃ fs x a' c' f1' f2',DrQ S true T j W lv kp fs x/\v=.tuple #[]/\L1=fP bp bt bs S f1' f2'++[bxR b bp v0 v1 v2 v3 v4 v5 v11 a' fs.length c' x (.int .u64 (tm S.E x).key),.own 5002 a' fs.length c' zi 8 (frs S fs)]:=by
 refine zf [.ptr 5000 b 6,.v (.int .i64 n0),.v (.int .i64 j)] zcI (by simp) hR ?_
 (repeat' ((conv=>whnf);first|refine ⟨.sl 5002 _ _ _,⟨rfl,rfl,rfl,rfl⟩,?_⟩|refine zg ?_|((first|apply zb|apply za|apply zc)<;>intro h<;>try (exfalso;omega))|refine pay ?_|intro _));(all_goals (conv=>whnf))
 refine zP DrG (fun y=>[(0,.ptr 5000 b 6),(1,.v (.int .i64 y.n)),(2,.v (.int .i64 j)),(6,.v (.int .i64 y.fs.length))])
  (fun y=>fP bp bt bs S f1 f2++[bxR b bp v0 v1 v2 v3 v4 v5 v11 a y.fs.length c 0 (.int .u64 0),.own 5002 a y.fs.length c zi 8 (frs S y.fs)])
  (fun y=>DrI S true T j W lv kp y.fs y.n) (fun y=>y.fs.length) ⟨fs0,n0⟩ h0 (by (repeat ((conv=>whnf);refine vS ?_));exact trivial) (Ref.takes [78,77,3000,5000,5002] rfl (.refl _)) ?_
 clear h0 hR
 rintro ⟨fs,n⟩ hI
 dsimp only at hI ⊢
 have hll:=hI.len
 have hsm:=hw.small
 rcases yw fs with rfl|⟨fs1,f,rfl⟩
 ·(repeat' ((conv=>whnf);first|refine zg ?_|((first|apply zb|apply za|apply zc)<;>intro h<;>try (exfalso;omega))|refine pay ?_|intro _));(all_goals (conv=>whnf))
  all_goals first|(exfalso;((try dsimp only at *);omega))|skip
  all_goals exact ⟨⟨_,Ref.takes [78,77,3000,5000,5002] rfl (.refl _),[],0,a,c,f1,f2,.inl ⟨rfl,rfl,hI.nil rfl⟩,rfl,rfl⟩⟩
 ·have hn:(fs1++[f]).length=fs1.length+1:=by simp
  have e1:(((fs1.length+1:Nat):Int) - 1).toNat=fs1.length:=by omega
  have hid:=hI.ids f (by simp)
  obtain ⟨hc,hok,hW,hlv⟩:=hI.last fs1 f rfl
  have hnf:n<=f.h:=hok.2.1
  have hle:=zrx hw hid (hI.ok f (by simp)).1
  have hLM:LM=1152921504606846976:=rfl
  have r7:=qC S fs1 f 7
  have htk:=zhm S fs1 ⟨f.i,f.h - n⟩
  have hhv:=zpF S fs1 f (f.h - n)
  have hcast:((f.h:Int) - (n:Int))=((f.h - n:Nat):Int):=by omega
  have r7':=qC S fs1 ⟨f.i,f.h - n⟩ 7
  have rw8:=zpE S fs1 ⟨f.i,f.h - n⟩
  have hfl:(frs S (fs1++[f])).length=(fs1.length+1)*8:=by rw [vK,hn]
  have c3:=fun w=>jj f.i (atE S.E f.i).r.k (atE S.E f.i).r.l (atE S.E f.i).r.a (atE S.E f.i).r.b (atE S.E f.i).r.t (tm S.E f.i).level ((f.h - n:Nat):Int) true w
  have hkv:zfF (atE S.E f.i).r.k (atE S.E f.i).r.a (atE S.E f.i).r.b ((f.h - n:Nat):Int) true=vX S true ⟨f.i,f.h - n⟩:=rfl
  rw [hkv] at c3
  rw [hn] at hll ⊢
  by_cases hlt:n<f.h
  ·obtain ⟨hD,hP⟩:=hI.some hw hlt
   have cd:=fun a c k0 f1 f2 fp w hR hG=>zqJ bp bt bs b v0 v1 v2 v3 v4 v5 v11 S hw T j W _ _ hD a c k0 f1 f2 fp w hR hG
   have hn':(fs1++[(⟨f.i,f.h - n⟩:FrI)]).length=fs1.length+1:=by simp
   rw [hn'] at cd
   generalize vX S true ⟨f.i,f.h - n⟩=y at *
   generalize hN:fs1.length+1=N at *
   (repeat' ((conv=>whnf);first|(first|refine puK c3 ?_|refine quK c3 ?_)|rw [e1]|rw [hcast]|rw [hhv]|refine zB r7 ?_|refine zB r7' ?_|refine ue rw8 ?_|(refine zh [78,77,3000,5000,5002] rfl (fun w hR h=>cd _ _ _ _ _ _ w h (hG.castL hR)) ?_;rintro _ _ ⟨fs',x',a',c',g1,g2,hDn,hxl,rfl,rfl⟩;refine ⟨.v _,rfl,?_⟩)|refine ⟨.sl 5002 _ _ _,⟨rfl,rfl,rfl,rfl⟩,?_⟩|refine zg ?_|((first|apply zb|apply za|apply zc)<;>intro h<;>try (exfalso;omega))|refine pay ?_|refine And.intro (by first|exact ⟨rfl,by omega⟩|exact ⟨rfl,by rw [hfl];omega⟩) ?_|intro _));(all_goals (conv=>whnf))
   all_goals first|(exfalso;((try dsimp only at *);omega))|skip
   all_goals exact ⟨⟨_,Ref.takes [78,77,3000,5000,5002] rfl (.refl _),fs',x',a',c',g1,g2,hDn.drq hxl hP,rfl,rfl⟩⟩
  ·have hnh:n=f.h:=by omega
   have hpop:=hI.pop hnh
   generalize hN:fs1.length+1=N at *
   (repeat' ((conv=>whnf);first|rw [e1]|rw [hcast]|rw [hhv]|rw [htk]|refine zB r7 ?_|refine zB r7' ?_|refine ⟨.sl 5002 _ _ _,⟨rfl,rfl,rfl,rfl⟩,?_⟩|refine zg ?_|((first|apply zb|apply za|apply zc)<;>intro h<;>try (exfalso;omega))|refine pay ?_|refine And.intro (by first|exact ⟨rfl,by omega⟩|exact ⟨rfl,by rw [hfl];omega⟩|exact ⟨rfl,rfl,rfl,by omega,by omega⟩) ?_|intro _));(all_goals (conv=>whnf))
   all_goals first|(exfalso;((try dsimp only at *);omega))|skip
   all_goals exact zm (⟨fs1,1⟩:DrG) hpop (by dsimp only;omega) (by (repeat ((conv=>whnf);refine vS ?_));exact trivial) (Ref.takes [78,77,3000,5000,5002] rfl (.refl _))
theorem zqK {w0 w:World} {fp0:List Nat} {L:List Ent} {k1 k2 T1 T2 n1 n2 c1 c2 s1 s2:Nat} {a1 a2:Option Addr} {xs ys:List Value} (hR:R w0 fp0 L w) {L':List Ent} (hp:L.Perm (.own k1 a1 n1 c1 T1 s1 xs::.own k2 a2 n2 c2 T2 s2 ys::L'))
 (hx:0<xs.length) (hy:0<ys.length) (m c3 lb cb:Nat) (o:Nat):∀ b2,a2=some ⟨b2,0,none⟩ ->
 (callFunc 154 #[.slice a1 m c3,.slice (some ⟨b2,o,none⟩) lb cb]).run Tryz.prog w=.ok (.value (.bool false)) w:=by
 intro b2 h2
 have hR':=hR.perm hp
 have r1:w.ownsRow 0 T1 s1 (.slice a1 n1 c1) n1 xs:=hR'.ok _ g5q
 have r2:w.ownsRow 0 T2 s2 (.slice a2 n2 c2) n2 ys:=hR'.ok _ (g4q _ g5q)
 obtain ⟨g1,cur1,e1,h1,l1,_⟩:=kT r1 hx
 obtain ⟨g2,cur2,e2,h2',l2,_⟩:=kT r2 hy
 rw [h2] at e2
 simp only [g3q,Addr.mk.injEq,and_true] at e2
 subst e1 h2 e2
 have hnd:=hR'.nodup
 simp only [qd,Ent.fp,Value.ownBlock,Option.toList_some,List.singleton_append,List.nodup_cons,List.mem_cons] at hnd
 have hne:g1≠b2:=fun h=>hnd.1 (.inl h)
 have hsz:∀ w,(Go.sizeOf zj).run Tryz.prog w=.ok 4 w:=fun w=>by
  have hi:(Tryz.prog.info? zj).map (·.size)=some 4:=by kernel_rfl
  cases hq:Tryz.prog.info? zj with
  | none=>rw [hq] at hi;cases hi
  | some j =>
    rw [hq] at hi
    simp only [Option.map_some,g3q] at hi
    simp [Go.sizeOf,typeInfo,hq,hi]
 rw [run_callFunc_extern Tryz.func154 (by kernel_rfl) (by kernel_rfl) (by kernel_rfl) (e:=Extern.SlicesOverlaps.overlaps #[180,180] #[4]) (by kernel_rfl)]
 rw [Lib.run_overlaps_apart w 180 4 zj Tryz.underlying180 4 hsz ⟨g1,0,none⟩ ⟨b2,o,none⟩ m c3 lb cb hne T1 T2 cur1.size cur2.size (by simp [World.shape?,h1]) (by simp [World.shape?,h2']) (by omega) (by simp [World.frozen?,h1]) (by simp [World.frozen?,h1])]
 rfl
theorem zw6 {w0:World} {fp0:List Nat} {L:List Ent} (key:Nat) {a:Option Addr} {n c T sz m:Nat} {xs:List Value} (h:zL key L=some ⟨a,n,c,T,sz,xs⟩) (hm:m=xs.length):RdS w0 fp0 L a m xs:=by
 refine ⟨hm,?_⟩
 by_cases hx:xs=[]
 ·exact .inl hx
 ·refine .inr fun w hR=>?_
  have h0:0<xs.length:=List.length_pos_iff.2 hx
  obtain ⟨g,cur,ha,hg,_⟩:=kT (qW hR h) h0
  refine ⟨g,0,ha,fun j v hv=>?_⟩
  obtain ⟨g',ha',hc⟩:=kz hR h hv
  rw [show (⟨a,n,c,T,sz,xs⟩:Own).a=a from rfl] at ha'
  have ha'':a=some ⟨g,0,none⟩:=ha
  rw [ha''] at ha'
  simp only [g3q,Addr.mk.injEq,and_true] at ha'
  subst ha'
  rw [Nat.zero_add]
  exact hc
theorem ztQ {a b m kk on oc n' sz:Nat} (hm:Nat.min a b=m) (h1:kk<=on/\kk+m<=oc/\0<on/\n'=max on (kk+m)/\0<m/\0<sz):kk<=on/\kk+Nat.min a b<=oc/\0<on/\n'=max on (kk+Nat.min a b)/\0<Nat.min a b/\0<sz:=by rw [hm];exact h1
theorem zvu {z xs ys:List Value} {n:Nat} (hz:z.length=(n+1)*4) (hx:xs.length=n*4) (hy:ys.length=4):zD (zD z 0 ys) 4 xs=ys++xs:=by
 have e1:zD z 0 ys=ys++z.drop 4:=by unfold zD;rw [hy];rfl
 rw [e1]
 unfold zD
 rw [show (4:Nat)=ys.length from hy.symm,List.take_left,List.drop_eq_nil_of_le,List.append_nil]
 rw [g6q,List.length_drop];omega
theorem zvv {xs ys:List Value} {n:Nat} (hx:xs.length=n*4) (hn:0<n) (hy:ys.length=4):zD (zD xs 4 xs) 0 ys=ys++xs:=by
 have e1:zD xs 4 xs=xs.take 4++xs:=by unfold zD;rw [List.drop_eq_nil_of_le (by omega),List.append_nil]
 rw [e1]
 unfold zD
 have:(xs.take 4).length=4:=by rw [List.length_take];omega
 rw [List.take_zero,List.nil_append,Nat.zero_add,hy]
 congr 1
 exact List.drop_left' this
def zxI (n:Nat) (xs:List Value) (v:Value) (L1:List Ent):Prop:=∃ a' c',v=.slice a' (n+1) c'/\L1=[.own 5003 a' (n+1) c' zj 4 xs]
theorem ziy (a:Option Addr) (n c:Nat) (xs:List Value) (va:Option Addr) (vc:Nat) (ys:List Value) (hx:xs.length=n*4) (hy:ys.length=4) (h1:yq xs) (h2:yq ys) (hn:n<=1048576) (fp:List Nat) (w:World)
 (hR:R w fp [.own 5003 a n c zj 4 xs,.own 5004 va 1 vc zj 4 ys] w) :
 Calls Tryz.prog qt #[.slice a n c,.int .i64 0,.slice va 1 vc] w fun e w'=>∃ v L1,e=.returned v/\R w fp L1 w'/\zxI n (ys++xs) v L1:=by
 refine zf [.sl 5003 a n c,.v (.int .i64 0),.sl 5004 va 1 vc] u0 (by simp) hR ?_
 by_cases h0:n=0
 ·subst h0
  have:xs=[]:=List.eq_nil_of_length_eq_zero (by simpa using hx)
  subst this
  (repeat' ((conv=>whnf);first|((first|apply zb|apply za|apply zc)<;>intro h<;>try (exfalso;omega))|refine pay ?_|intro _));(all_goals (conv=>whnf))
  all_goals exact ⟨⟨_,Ref.takes [5003] rfl (.own rfl (by rw [List.append_nil];rfl) (.nil _)),_,_,rfl,rfl⟩⟩
 ·have hc:=zbW hR (key:=5003) rfl
  obtain ⟨g,cur,ha,_,_,_,_,hcm,_⟩:=kT (qW hR (key:=5003) rfl) (show 0<xs.length by omega)
  dsimp only at ha hcm
  subst ha
  have hov:=fun {w0 w:World} (hR:R w0 fp [Ent.own 5003 (some ⟨g,0,none⟩) n c zj 4 xs,Ent.own 5004 va 1 vc zj 4 ys] w)=>zqK hR (.swap _ _ _) (show 0<ys.length by omega) (show 0<xs.length by omega)
  have e1:((n:Int)+((1:Nat):Int) - 0).toNat=n+1:=by omega
  have e2:((n:Int)+((1:Nat):Int)).toNat=n+1:=by omega
  have e3:(0+((1:Nat):Int)).toNat=1:=by omega
  have e4:((n+1 - 0:Nat):Int).toNat=n+1:=by omega
  have e5:((n+1:Nat):Int).toNat=n+1:=by omega
  have hoff:2<=c->xc (some ⟨g,0,none⟩) (c - 0) 1 4=some ⟨g,4,none⟩:=fun h=>by unfold xc;rw [if_neg (by omega)];simp [yR]
  have m1:Nat.min 1 (n+1)=1:=Nat.min_eq_left (by omega)
  have m2:Nat.min n n=n:=Nat.min_self n
  have m3:Nat.min (n+1) n=n:=Nat.min_eq_right (by omega)
  (repeat' ((conv=>whnf);first|rw [e1]|rw [e2]|rw [e3]|rw [e4]|rw [e5]|rw [uy]|rw [Int.toNat_zero]|(refine ⟨40, ?_⟩; change ∃ (_ _ _ _ _ _ : Nat) (_ : Option Addr) (_ : List Value), _ /\ _; refine ⟨0, _, _, _, _, (n+1), _, ys, ⟨(by first | rfl | (rw [uy]; rfl)), (by rfl), (by rfl), ztQ m1 ⟨by omega, by omega, by omega, by omega, by omega, by omega⟩, zw6 5004 (by rfl) (by rw [m1]; omega), h2⟩, ?_⟩)|(refine ⟨40, ?_⟩; change ∃ (_ _ _ _ _ _ : Nat) (_ : Option Addr) (_ : List Value), _ /\ _; refine ⟨1, _, _, _, _, (n+1), _, xs, ⟨(by first | rfl | (rw [uy]; rfl)), (by rfl), (by rfl), ztQ m2 ⟨by omega, by omega, by omega, by omega, by omega, by omega⟩, zw6 5003 (by rfl) (by rw [m2]; omega), h1⟩, ?_⟩)|(refine ⟨5003, ?_⟩; change ∃ (_ _ _ _ _ _ : Nat) (_ : Option Addr) (_ : List Value), _ /\ _; refine ⟨1, _, _, _, _, (n+1), _, xs, ⟨(by first | rfl | (rw [uy]; rfl)), (by rfl), (by rfl), ztQ m3 ⟨by omega, by omega, by omega, by omega, by omega, by omega⟩, zw6 5003 (by rfl) (by rw [m3]; omega), h1⟩, ?_⟩)|(refine ⟨5003, ?_⟩; change ∃ (_ _ _ _ _ _ : Nat) (_ : Option Addr) (_ : List Value), _ /\ _; refine ⟨0, _, _, _, _, (n+1), _, ys, ⟨(by first | rfl | (rw [uy]; rfl)), (by rfl), (by rfl), ztQ m1 ⟨by omega, by omega, by omega, by omega, by omega, by omega⟩, zw6 5004 (by rfl) (by rw [m1]; omega), h2⟩, ?_⟩)|refine ⟨.bool false,fun w hR=>?_,?_⟩|((first|apply zb|apply za|apply zc)<;>intro h<;>try (exfalso;omega))|refine pay ?_|refine And.intro (by first|exact ⟨by omega,by omega,by omega⟩|exact ⟨by omega,zcu rfl⟩|exact ⟨by omega,by unfold maxLen;omega,by omega⟩) ?_|intro _));(all_goals (conv=>whnf))
  all_goals try (exfalso;omega)
  ·rename_i hlz
   rw [show zD (zD (List.replicate (n+1) [Value.int .i64 0,Value.int .i64 0,Value.int .u64 0,Value.int .i64 0]).flatten (0*4) ys) (1*4) xs=ys++xs from zvu (by simp) hx hy]
   exact ⟨_,Ref.takes [40] rfl (.own rfl rfl (.nil _)),_,_,rfl,rfl⟩
  ·rw [hoff (by omega)]
   exact hov hR _ _ _ _ _ g rfl
  ·rw [show zD (zD xs (1*4) xs) (0*4) ys=ys++xs from zvv hx (by omega) hy]
   exact ⟨_,Ref.takes [5003] rfl (.own rfl rfl (.nil _)),_,_,rfl,rfl⟩
end
section
open Go.EG
def EndI (S:Sto) (bh:Bool) (T:Tm) (j:Nat) (fs:List FrI) (x:Int):Prop:=(x=0/\fs=[])∨(EnS S bh T j fs x/\(tm S.E x).level<=j)
def zM (S:Sto) (bh:Bool) (j:Nat) (fs:List FrI) (x:Int):List Tm:=if x=0 then [] else left bh j (fs.map (frM S)) (tm S.E x)
def Cl (S:Sto) (l:Nat) (fs:List FrI):Prop:=∀ f∈fs,(tm S.E f.i).level=l->f.h=zy (tm S.E f.i)
theorem EndI.ens {S:Sto} {bh:Bool} {T:Tm} {j:Nat} {fs:List FrI} {x:Int} (h:EndI S bh T j fs x) (hx:x≠0):EnS S bh T j fs x/\(tm S.E x).level<=j:=by
 rcases h with h|h
 ·exact absurd h.1 hx
 ·exact h
theorem EndI.known {S:Sto} {bh:Bool} {T:Tm} {j:Nat} {fs:List FrI} {x:Int} (h:EndI S bh T j fs x):0<=x/\x<=S.E.length:=by
 rcases h with h|h
 ·rw [h.1];exact ⟨Int.le_refl _,by omega⟩
 ·have:=h.1.x1;have:=h.1.x2;omega
theorem qm {S:Sto} {bh:Bool} {j:Nat} {fs:List FrI} {x:Int} (hx:x≠0):zM S bh j fs x=left bh j (fs.map (frM S)) (tm S.E x):=if_neg hx
theorem yn {S:Sto} {bh:Bool} {j:Nat} {fs:List FrI}:zM S bh j fs 0=[]:=if_pos rfl
theorem zhn {bh:Bool} {j:Nat} {fs:List Fr} {x:Tm} (hx:x.level<=j):left bh j fs x=ap bh (ex j (vP bh fs)) [x]:=by
 unfold left
 rw [zdw,zbo,zbZ hx]
theorem zho {j:Nat} {fs:List Fr} {x:Tm} (hx:x.level<=j):(left false j fs x).getLast?=some x:=by
 rw [zhn hx];simp [ap]
theorem zbx {j:Nat} {fs:List Fr} {x:Tm} (hx:x.level<=j):left true j fs x=x::ex j (vP true fs):=by
 rw [zhn hx];rfl
theorem DrQ.endI {S:Sto} {bh:Bool} {T:Tm} {j:Nat} {W:List Tm} {lv:Int} {kp:Prop} {fs:List FrI} {x:Int} (h:DrQ S bh T j W lv kp fs x):EndI S bh T j fs x/\zM S bh j fs x=W/\Part S lv kp fs:=by
 rcases h with ⟨rfl,rfl,rfl⟩|⟨h1,h2,h3,h4⟩
 ·exact ⟨.inl ⟨rfl,rfl⟩,yn,fun f hf=>by simp at hf⟩
 ·have:=h1.x1
  exact ⟨.inr ⟨h1,h2⟩,by rw [qm (by omega)];exact h3,h4⟩
theorem Part.cl {S:Sto} {lv:Int} {kp:Prop} {fs:List FrI} (h:Part S lv kp fs) {l:Nat} (hl:(l:Int)<lv∨((l:Int)<=lv/\¬kp)):Cl S l fs:=fun f hf hfl=>by
 rcases h f hf with h1|h1|h1
 ·exact h1
 ·omega
 ·rcases hl with hl|hl
  ·omega
  ·exact absurd h1.2 hl.2
theorem EnS.above {S:Sto} {bh:Bool} {T:Tm} {j:Nat} {fs:List FrI} {f:FrI} {x:Int} (h:EnS S bh T j (fs++[f]) x):((j+1:Nat):Int)<=(tm S.E f.i).level/\∀ g∈fs,((j+1:Nat):Int)<(tm S.E g.i).level:=by
 have h1:=(h.sd.ok (frM S f) (by rw [qQ];simp [frM])).2
 simp only [frM] at h1
 refine ⟨by omega,fun g hg=>?_⟩
 have hd:=h.sd.down
 rw [qQ] at hd
 have:=(List.pairwise_append.1 hd).2.2 (frM S g) (List.mem_map_of_mem hg) (tm S.E f.i,f.h) (by simp)
 simp only [frM] at this
 omega
theorem EnS.cl_last {S:Sto} {bh:Bool} {T:Tm} {j:Nat} {fs:List FrI} {x:Int} (h:EnS S bh T j fs x) (hl:∀ fs1 f,fs=fs1++[f]->(tm S.E f.i).level=((j+1:Nat):Int)->f.h=zy (tm S.E f.i)):Cl S (j+1) fs:=fun g hg hgl=>by
 rcases yw fs with rfl|⟨fs1,f,rfl⟩
 ·simp at hg
 ·rw [List.mem_append,List.mem_singleton] at hg
  rcases hg with hg|rfl
  ·have:=h.above.2 g hg
   omega
  ·exact hl fs1 g rfl hgl
theorem EnS.mono {S:Sto} {bh:Bool} {T:Tm} {j:Nat} {fs:List FrI} {x:Int} (h:EnS S bh T (j+1) fs x):EnS S bh T j fs x :=
 ⟨⟨h.sd.chain,fun f hf=>⟨(h.sd.ok f hf).1,by have:=(h.sd.ok f hf).2;omega⟩,h.sd.lvd,h.sd.low,h.sd.down,h.sd.pos⟩,h.ids,h.x1,h.x2,h.num,h.dec⟩
theorem EnS.okN1 {S:Sto} {bh:Bool} {T:Tm} {j:Nat} {fs:List FrI} {f:FrI} {x:Int} (h:EnS S bh T j (fs++[f]) x):okN (frM S f) 1 :=
 ⟨Nat.le_refl _,(h.sd.ok (frM S f) (by rw [qQ];simp [frM])).1.1,fun _=>.inl rfl,fun _=>rfl⟩
theorem zsv {bh:Bool} {T:Tm} {j:Nat} {fs:List Fr} {f:Fr} {x:Tm} (h:Sd bh T j (fs++[f]) x) {n:Nat} (hn:okN f n) :
 left bh j (fs++[f]) x=ap bh (zfs bh j fs f n) (List.replicate n (qU j x)).flatten:=by
 have hk:=(chain_snoc.1 h.chain).2
 have hl:=(h.ok f (by simp)).2
 unfold left zfs
 rw [za1,jR,zdw,zdw (a:=vP bh fs),jR]
 congr 1
 obtain ⟨m,c⟩:=f
 obtain ⟨n1,n2,n3,n4⟩:=hn
 simp only at n1 n2 n4 hl
 cases m with
 | nil=>simp [Tm.level] at hl;omega
 | lt y=>simp [Tm.level] at hl;omega
 | pr a b =>
   have:=n4 ⟨a,b,rfl⟩
   subst this
   simp only [zco]
   rw [zdw,zbo];simp
 | pw a k =>
   simp only [kQ] at hk
   subst hk
   simp only [zco,jx]
   rw [show [a]=List.replicate 1 a from rfl,zld,zpj,zpj]
   have:∀ p q:Nat,ap bh (List.replicate p (qU j a)).flatten (List.replicate q (qU j a)).flatten=(List.replicate (p+q) (qU j a)).flatten:=fun p q=>by
    cases bh
    ·simp only [ap];rw [←List.flatten_append,List.replicate_append_replicate]
    ·simp only [ap];rw [←List.flatten_append,List.replicate_append_replicate,Nat.add_comm]
   rw [this]
   congr 2;omega
theorem EnS.drop {S:Sto} {bh:Bool} {T:Tm} {j:Nat} {fs:List FrI} {x:Int} (h:EnS S bh T j fs x) {n:Nat} (h0:fs=[]->n=1) (hn:∀ fs1 f,fs=fs1++[f]->okN (frM S f) n) :
 ∃ W lv kp,DrI S bh T j W lv kp fs n/\left bh j (fs.map (frM S)) (tm S.E x)=ap bh W (List.replicate n (qU j (tm S.E x))).flatten/\∀ fs1 f,fs=fs1++[f]->lv=(tm S.E f.i).level/\(kp->n<f.h):=by
 rcases yw fs with rfl|⟨fs1,f,rfl⟩
 ·refine ⟨[],0,False,DrI.none j n 0 False,?_,fun fs1 f e=>by simp at e⟩
  rw [h0 rfl]
  simp [left,vP,zf8,zbo]
 ·refine ⟨_,_,_,DrI.start h (hn fs1 f rfl),?_,fun fs2 g e=>?_⟩
  ·rw [qQ]
   have hs:=h.sd
   rw [qQ] at hs
   exact zsv hs (hn fs1 f rfl)
  ·have e1:=List.append_inj' e rfl
   have e2:=e1.2
   simp only [List.cons.injEq,and_true] at e2
   subst e2
   exact ⟨rfl,fun h=>h⟩
theorem zkh (n:Nat) (x:Tm):(List.replicate n [x]).flatten=List.replicate n x:=zbm x n
theorem EnS.own {S:Sto} {bh:Bool} {T:Tm} (hT:Is T) {j:Nat} {fs:List FrI} {x:Int} (hw:WF S) (h:EnS S bh T j fs x) (hx:(tm S.E x).level<=j) (hc:Cl S (j+1) fs) :
 (bh=false->Cut (j+1) (left bh j (fs.map (frM S)) (tm S.E x)) (ex j (uN bh (fs.map (frM S)))))/\(bh=true->Cut (j+1) (ex j (uN bh (fs.map (frM S)))) (left bh j (fs.map (frM S)) (tm S.E x))):=by
 rcases yw fs with rfl|⟨fs1,f,rfl⟩
 ·exact (Sd.stay hT h.sd (fun f hf=>by simp at hf)).2.2
 ·have ha:=h.above
  by_cases hl:(tm S.E f.i).level=((j+1:Nat):Int)
  ·have hid:=h.ids f (by simp)
   have hs:=h.sd
   rw [qQ] at hs ⊢
   exact (Sd.up hT hs hl (hc f (by simp) hl) (hw.pos_ hid.1 hid.2)).2.2
  ·refine (Sd.stay hT h.sd fun g hg=>?_).2.2
   obtain ⟨g',hg',rfl⟩:=List.mem_map.1 hg
   rw [List.mem_append,List.mem_singleton] at hg'
   simp only [frM]
   rcases hg' with hg'|rfl
   ·have:=ha.2 g' hg';omega
   ·exact hl
theorem EnS.whole {S:Sto} {bh:Bool} {T:Tm} {j:Nat} {fs:List FrI} {x:Int} (h:EnS S bh T j fs x):qU j T=ap bh (left bh j (fs.map (frM S)) (tm S.E x)) (ex j (uN bh (fs.map (frM S)))):=zeX h.sd.chain h.sd.ok
theorem zsw {S:Sto} {T:Tm} (hT:Is T) (hw:WF S) {j:Nat} {fs fs':List FrI} {x x':Int} (h:EnS S false T j fs x) (h':EndI S false T j fs' x') (hc:Cl S (j+1) fs') {n:Nat} (hn:1<=n) {y:Tm} {r:List Tm}
 (he:left false j (fs.map (frM S)) (tm S.E x)=zM S false j fs' x'++y::r) (Q:List Tm):Cut (j+1) (zM S false j fs' x') (y::Q):=by
 by_cases hx:x'=0
 ·subst hx;rw [yn];exact Cut.nilL _ _
 ·obtain ⟨h1,h2⟩:=h'.ens hx
  have ho:=(h1.own hT hw h2 hc).1 rfl
  have e1:=h.whole
  have e2:=h1.whole
  simp only [ap] at e1 e2
  rw [qm hx] at he ⊢
  rw [he,List.append_assoc,e2] at e1
  have e3:=List.append_cancel_left e1
  rw [e3,List.cons_append] at ho
  exact ho.head
theorem zqL {S:Sto} {T:Tm} (hT:Is T) (hw:WF S) {j:Nat} (hj:(j+1)%2=1) {fs fs':List FrI} {x x':Int} (h:EnS S true T j fs x) (h':EndI S true T j fs' x') (hc:Cl S (j+1) fs') {y:Tm} {r:List Tm}
 (he:left true j (fs.map (frM S)) (tm S.E x)=(r++[y])++zM S true j fs' x'):(zM S true j fs' x').head?≠some y:=by
 by_cases hx:x'=0
 ·subst hx;rw [yn];simp
 ·obtain ⟨h1,h2⟩:=h'.ens hx
  have ho:=(h1.own hT hw h2 hc).2 rfl
  have e1:=h.whole
  have e2:=h1.whole
  simp only [ap] at e1 e2
  rw [qm hx] at he ⊢
  rw [he,←List.append_assoc,e2] at e1
  have e3:=List.append_cancel_right e1
  rw [e3] at ho
  rw [zbx h2] at ho ⊢
  have:=Cut.odd_ne hj ho
  intro hh
  simp only [List.head?_cons,g3q] at hh
  rw [hh,←List.append_assoc,List.getLast?_concat] at this
  exact this rfl
theorem ztR {S:Sto} {T:Tm} (hT:Is T) (hw:WF S) {j:Nat} (hj:(j+1)%2=0) {fs:List FrI} {f:FrI} {x:Int} (h:EnS S false T j (fs++[f]) x) (hx:(tm S.E x).level<=j) (hl:(tm S.E f.i).level=((j+1:Nat):Int)) (hc:f.h=zy (tm S.E f.i)) (Q:List Tm) :
 Cut (j+1) (left false j ((fs++[f]).map (frM S)) (tm S.E x)) Q:=by
 obtain ⟨_,_,hU,_⟩:=EnS.up (k:=.nilIface) hw hT h hx hl hc
 rw [yb hj,zhn (bh:=false) (fs:=fs.map (frM S)) (x:=tm S.E f.i) (j:=j+1) (by omega)] at hU
 simp only [ap] at hU
 refine Cut.paired hj _ (Nat.le_refl _) hU ?_
 rw [zho hx]
 intro he
 simp only [g3q] at he
 rw [he] at hx
 omega
theorem zsx {S:Sto} {j:Nat} (hj:(j+1)%2=0) {fs:List FrI} {x:Int} (hx:(tm S.E x).level<=j) {Q:List Tm} (hf:∀ y,Q.head?=some y->zA (tm S.E x).key y.key ((j+1:Nat):Int)=false) :
 Cut (j+1) (left false j (fs.map (frM S)) (tm S.E x)) Q:=by
 cases Q with
 | nil=>exact Cut.nilR _ _
 | cons y Q =>
   refine Cut.nofit hj _ (Nat.le_refl _) fun z hz=>?_
   rw [zho hx] at hz
   simp only [g3q] at hz
   subst hz
   exact hf y rfl
theorem zvw {S:Sto} {j:Nat} (hj:(j+1)%2=1) {fs:List FrI} {x:Int} (hx:(tm S.E x).level<=j) {Q:List Tm} (hf:Q.head?≠some (tm S.E x)) :
 Cut (j+1) (left false j (fs.map (frM S)) (tm S.E x)) Q:=by
 cases Q with
 | nil=>exact Cut.nilR _ _
 | cons y Q =>
   refine Cut.odd hj ?_
   rw [zho hx]
   intro he
   simp only [g3q] at he
   exact hf (by rw [List.head?_cons,he])
theorem zki {x y z l:Int} (ht:qE l=false) (h:zA x y l=true):zA z x l=false/\zA y z l=false:=by
 unfold zA qE at *
 obtain ⟨h1,h2⟩:=Bool.and_eq_true_iff.1 h
 rw [h1] at ht ⊢
 simp only [Bool.true_and,decide_eq_false_iff_not] at ht ⊢
 rw [if_neg ht] at h2 ⊢
 rw [if_neg ht]
 simp only [Bool.and_eq_true,decide_eq_true_eq] at h2
 have:0<=qn l%2/\qn l%2<2:=by omega
 constructor
 ·simp only [Bool.and_eq_false_iff,decide_eq_false_iff_not];right;omega
 ·simp only [Bool.and_eq_false_iff,decide_eq_false_iff_not];left;omega
theorem jV {x y l:Int} (ht:qE l=true):zA x y l=decide (x=y):=by
 unfold zA qE at *
 obtain ⟨h1,h2⟩:=Bool.and_eq_true_iff.1 ht
 rw [h1,if_pos (of_decide_eq_true h2)];rfl
theorem ziz {l:Nat} (hl:l%2=0) {M Q:List Tm} (h:∀ x y,M.getLast?=some x->Q.head?=some y->zA x.key y.key l=false):Cut l M Q:=by
 cases Q with
 | nil=>exact Cut.nilR _ _
 | cons y Q=>exact Cut.nofit hl _ (Nat.le_refl _) fun x hx=>h x y hx rfl
theorem zls {l:Nat} (hl:l%2=1) {M Q:List Tm} (h:∀ x,M.getLast?=some x->Q.head?≠some x):Cut l M Q:=by
 cases Q with
 | nil=>exact Cut.nilR _ _
 | cons y Q =>
   refine Cut.odd hl fun he=>?_
   exact h y he rfl
abbrev itC (S:Sto) (x:It):List Value:=[.int .i64 x.i,.int .i64 x.n,.int .u64 (tm S.E x.i).key,.int .i64 x.t]
def its (S:Sto) (M:List It):List Value:=M.flatMap (itC S)
theorem zaR (S:Sto) (x:It) (M:List It):its S (x::M)=itC S x++its S M:=rfl
theorem jW (S:Sto) (M:List It) (x:It):its S M++itC S x=its S (M++[x]):=by simp [its]
theorem uR (S:Sto):∀ M:List It,(its S M).length=M.length*4
 | []=>rfl
 | x :: M => by
   have:=uR S M
   rw [zaR,g6q,this,List.length_cons,List.length_cons]
   simp;omega
theorem zmo (S:Sto):∀ M:List It,yq (its S M)
 | []=>trivial
 | x::M=>⟨trivial,trivial,trivial,trivial,zmo S M⟩
theorem zpH (S:Sto) (x:It) (M:List It) (j:Nat) (hj:j<4):(its S (x::M))[j]?=(itC S x)[j]?:=by
 rw [zaR,List.getElem?_append_left (by simp;omega)]
theorem zb8 (S:Sto) (M:List It) (x:It) (j:Nat):(its S (M++[x]))[M.length*4+j]?=(itC S x)[j]?:=by
 rw [←jW,←uR S M,List.getElem?_append_right (by omega),Nat.add_sub_cancel_left]
def it0:It:=⟨0,0,0⟩
theorem zgo (S:Sto):∀ {M:List It} {i:Nat},i<M.length->((its S M).drop (i*4)).take 4=itC S (M.getD i it0)
 | x::M,0,_=>rfl
 | x :: M,i + 1,h => by
   have ih:=zgo S (M:=M) (i:=i) (by simpa using h)
   have e:(itC S x).length=4:=rfl
   rw [zaR,show (i+1)*4=(itC S x).length+i*4 by rw [e];omega,←List.drop_drop,List.drop_left]
   simpa using ih
theorem zen (S:Sto) {M:List It} {i:Nat} (h:i<M.length) (j:Nat) (hj:j<4):(its S M)[i*4+j]?=(itC S (M.getD i it0))[j]?:=by
 rw [←zgo S h,List.getElem?_take,if_pos hj,List.getElem?_drop]
theorem zkj {S S':Sto}:∀ {M:List It},(∀ x∈M,ItOk S x)->Grow S S'->its S' M=its S M
 | [],_,_=>rfl
 | x :: M,h,g => by
   rw [zaR,zaR,zkj (fun y hy=>h y (g4q _ hy)) g,itC,itC,g.tm (h x g5q).i2]
theorem zry (S:Sto):∀ {M:List It} {i:Nat} (y:It),i<M.length->zD (its S M) (i*4) (itC S y)=its S (M.set i y)
 | x :: M,0,y,_ => by
   unfold zD
   rfl
 | x :: M,i + 1,y,h => by
   have ih:=zry S (M:=M) (i:=i) y (by simpa using h)
   have e:(i+1)*4=(itC S x).length+i*4:=by
    have:(itC S x).length=4:=rfl
    omega
   rw [List.set_cons_succ,zaR,zaR,←ih,e]
   unfold zD
   rw [List.take_length_add_append,Nat.add_assoc,List.drop_length_add_append,List.append_assoc,List.append_assoc]
   simp
theorem ztS (S:Sto) (M:List It) (x:It) (t:Nat):zD (its S (M++[x])) (M.length*4+3) [.int .i64 t]=its S (M++[⟨x.i,x.n,t⟩]):=by
 rw [←jW,←jW,←uR S M]
 unfold zD
 rw [List.take_length_add_append,List.length_singleton,Nat.add_assoc,List.drop_length_add_append,List.append_assoc,List.append_assoc]
 rfl
def jX (M:List It) (xR:Int):Int:=match M with
 | x::_=>x.i
 | []=>xR
def xG (M:List It) (xL:Int):Int:=match M.getLast? with
 | some x=>x.i
 | none=>xL
def zw7 (S:Sto) (i:Int) (v:Value):Prop:=v=.tuple #[.int .i64 i,.int .u64 (tm S.E i).key]
theorem zrz {bh:Bool} {j:Nat} {fs:List Fr} {x:Tm} (hx:x.level<=j):left bh j fs x≠[]:=by
 rw [zhn hx]
 cases bh<;>simp [ap]
theorem DrQ.nil {S:Sto} {bh:Bool} {T:Tm} {j:Nat} {lv:Int} {kp:Prop} {fs:List FrI} {x:Int} (h:DrQ S bh T j [] lv kp fs x):x=0/\fs=[]:=by
 rcases h with h|h
 ·exact ⟨h.1,h.2.1⟩
 ·exact absurd h.2.2.1 (zrz h.2.1)
theorem DrQ.cl {S:Sto} {bh:Bool} {T:Tm} {j n:Nat} {W:List Tm} {lv:Int} {kp:Prop} {fs fs':List FrI} {x:Int} (h:DrQ S bh T j W lv kp fs' x) (hd:DrI S bh T j W lv kp fs n) (hl:∀ fs1 f,fs=fs1++[f]->lv=(tm S.E f.i).level/\(kp->n<f.h)) {l:Nat}
 (hf:∀ fs1 f,fs=fs1++[f]->(l:Int)<(tm S.E f.i).level∨((l:Int)<=(tm S.E f.i).level/\f.h<=n)):Cl S l fs':=by
 rcases yw fs with rfl|⟨fs1,f,rfl⟩
 ·have:=hd.nil rfl
  subst this
  rw [h.nil.2]
  intro f hf;simp at hf
 ·obtain ⟨e1,e2⟩:=hl fs1 f rfl
  refine h.endI.2.2.cl ?_
  rw [e1]
  rcases hf fs1 f rfl with h|h
  ·exact .inl h
  ·exact .inr ⟨h.1,fun hk=>by have:=e2 hk;omega⟩
def Hd (S:Sto) (xR:Int) (RS:List Tm):Prop:=RS.head?=if xR=0 then none else some (tm S.E xR)
theorem zvx {S:Sto} {T:Tm} {j:Nat} {fs:List FrI} {x:Int} (h:EndI S true T j fs x):Hd S x (zM S true j fs x):=by
 unfold Hd
 by_cases hx:x=0
 ·rw [if_pos hx,hx,yn];rfl
 ·rw [if_neg hx,qm hx,zbx (h.ens hx).2];rfl
theorem zpI {S:Sto} {M:List It} (hM:∀ x∈M,ItOk S x) {xR:Int} {RS:List Tm} (h:Hd S xR RS):Hd S (jX M xR) (exM S M++RS):=by
 cases M with
 | nil=>exact h
 | cons x M =>
   have hx:=hM x g5q
   obtain ⟨r,hr⟩:=zek hx
   have:=hx.i1
   have h0:x.i≠0:=by omega
   unfold Hd
   rw [show jX (x::M) xR=x.i from rfl,if_neg h0,yT,hr];rfl
theorem zvy {S:Sto} {M:List It} (hM:∀ x∈M,ItOk S x/\x.n=0) (hne:M≠[]) (xL:Int):(exM S M).getLast?=some (tm S.E (xG M xL)):=by
 rcases yw M with rfl|⟨M,x,rfl⟩
 ·exact absurd rfl hne
 ·obtain ⟨h1,h2⟩:=hM x (by simp)
  have:=zvp h1
  rw [if_pos h2] at this
  rw [qN,xw,List.getLast?_append,this]
  simp [xG]
structure GatL (S:Sto) (T:Tm) (j:Nat) (fs:List FrI) (x:Int) (M:List It) (xR:Int) (fs':List FrI) (x':Int) (M':List It):Prop where
 en:EndI S false T j fs' x'
 cl:Cl S (j+1) fs'
 mid:M'=M∨∃ t,M'=⟨x,0,t⟩::M/\ItOk S ⟨x,0,t⟩/\((j+1)%2=0->t=1)
 seq:zM S false j fs x++exM S M=zM S false j fs' x'++exM S M'
 cut:∀ RS,Hd S xR RS->Cut (j+1) (zM S false j fs' x') (exM S M'++RS)
theorem GatL.none {S:Sto} {T:Tm} {j:Nat} {fs:List FrI} {M:List It} {xR:Int} (h:EndI S false T j fs 0):GatL S T j fs 0 M xR fs 0 M:=by
 have hf:fs=[]:=by
  rcases h with h|h
  ·exact h.2
  ·have:=h.1.x1;omega
 subst hf
 exact ⟨h,fun f hf=>by simp at hf,.inl rfl,rfl,fun RS _=>by rw [yn];exact Cut.nilL _ _⟩
theorem GatL.pair {S:Sto} {T:Tm} (hT:Is T) (hw:WF S) {j:Nat} (hj:(j+1)%2=0) {fs:List FrI} {f:FrI} {x:Int} {M:List It} {xR:Int} (h:EnS S false T j (fs++[f]) x) (hx:(tm S.E x).level<=j) (hl:(tm S.E f.i).level=((j+1:Nat):Int)) (hc:f.h=zy (tm S.E f.i)) :
 GatL S T j (fs++[f]) x M xR (fs++[f]) x M:=by
 have hx1:=h.x1
 refine ⟨.inr ⟨h,hx⟩,h.cl_last fun fs1 g e hg=>?_,.inl rfl,rfl,fun RS _=>?_⟩
 ·have e2:=(List.append_inj' e rfl).2
  simp only [List.cons.injEq,and_true] at e2
  subst e2
  exact hc
 ·rw [qm (by omega)]
  exact ztR hT hw hj h hx hl hc _
theorem GatL.nofit {S:Sto} {T:Tm} {j:Nat} (hj:(j+1)%2=0) {fs:List FrI} {x:Int} {M:List It} (hM:∀ x∈M,ItOk S x) {xR:Int} (h:EnS S false T j fs x) (hx:(tm S.E x).level<=j) (hno:∀ fs1 f,fs=fs1++[f]->(tm S.E f.i).level≠((j+1:Nat):Int))
 (hf:jX M xR=0∨zA (tm S.E x).key (tm S.E (jX M xR)).key ((j+1:Nat):Int)=false):GatL S T j fs x M xR fs x M:=by
 have hx1:=h.x1
 refine ⟨.inr ⟨h,hx⟩,h.cl_last fun fs1 g e hg=>absurd hg (hno fs1 g e),.inl rfl,rfl,fun RS hh=>?_⟩
 rw [qm (by omega)]
 refine zsx hj hx fun y hy=>?_
 have h1:=zpI hM hh
 unfold Hd at h1
 rw [hy] at h1
 split at h1
 ·cases h1
 ·simp only [g3q] at h1
  subst h1
  rcases hf with hf|hf
  ·contradiction
  ·exact hf
theorem GatL.same {S:Sto} {T:Tm} {j:Nat} (hj:(j+1)%2=1) {fs:List FrI} {x:Int} {M:List It} (hM:∀ x∈M,ItOk S x) (hw:WF S) {xR:Int} (hk:known S xR) (h:EnS S false T j fs x) (hx:(tm S.E x).level<=j) (hc:Cl S (j+1) fs)
 (hf:x≠jX M xR):GatL S T j fs x M xR fs x M:=by
 have hx1:=h.x1
 refine ⟨.inr ⟨h,hx⟩,hc,.inl rfl,rfl,fun RS hh=>?_⟩
 rw [qm (by omega)]
 refine zvw hj hx fun hy=>?_
 have h1:=zpI hM hh
 unfold Hd at h1
 rw [hy] at h1
 split at h1
 ·cases h1
 ·rename_i h0
  simp only [g3q] at h1
  have hk':1<=jX M xR/\jX M xR<=S.E.length:=by
   cases M with
   | nil=>exact ⟨by have:=hk.1;simp only [jX] at h0 ⊢;omega,hk.2⟩
   | cons y M=>exact ⟨(hM y g5q).i1,(hM y g5q).i2⟩
  exact hf ((hw.inj_iff hx1 h.x2 hk'.1 hk'.2).1 h1)
theorem GatL.moved {S:Sto} {T:Tm} (hT:Is T) (hw:WF S) {j n:Nat} {fs fs':List FrI} {x x':Int} {M:List It} {xR:Int} (h:EnS S false T j fs x) (hx:(tm S.E x).level<=j) {W:List Tm} {lv:Int} {kp:Prop}
 (hl:left false j (fs.map (frM S)) (tm S.E x)=ap false W (List.replicate n (qU j (tm S.E x))).flatten) (hq:DrQ S false T j W lv kp fs' x') (hc:Cl S (j+1) fs') (hn:1<=n) (he:(j+1)%2=0->n=1) :
 GatL S T j fs x M xR fs' x' (⟨x,0,n⟩::M):=by
 have hx1:=h.x1
 obtain ⟨q1,q2,q3⟩:=hq.endI
 rw [zbZ hx,zkh] at hl
 simp only [ap] at hl
 have hi:ItOk S ⟨x,0,n⟩:=⟨h.x1,h.x2,Int.le_refl _,by dsimp only;omega,hn,fun h=>absurd rfl h⟩
 have hex:exI S ⟨x,0,n⟩=List.replicate n (tm S.E x):=if_pos rfl
 obtain ⟨m,rfl⟩:∃ m,n=m+1:=⟨n - 1,by omega⟩
 refine ⟨q1,hc,.inr ⟨_,rfl,hi,he⟩,?_,fun RS hh=>?_⟩
 ·rw [qm (by omega),hl,q2,yT,hex,List.append_assoc]
 ·rw [yT,hex,List.replicate_succ,List.append_assoc,List.cons_append]
  refine zsw hT hw h q1 hc (Nat.le_refl 1) (r:=List.replicate m (tm S.E x)) ?_ _
  rw [hl,q2,List.replicate_succ]
structure GatR (S:Sto) (T:Tm) (j:Nat) (fs:List FrI) (x:Int) (M:List It) (fs':List FrI) (x':Int) (M':List It):Prop where
 en:EndI S true T j fs' x'
 cl:Cl S (j+1) fs'
 ok:∀ y∈M',ItOk S y
 seq:exM S M++zM S true j fs x=exM S M'++zM S true j fs' x'
 cut:Cut (j+1) (exM S M') (zM S true j fs' x')
theorem EnS.pairF {S:Sto} {bh:Bool} {T:Tm} {j:Nat} (hj:(j+1)%2=0) {fs:List FrI} {f:FrI} {x:Int} (h:EnS S bh T j (fs++[f]) x) (hl:(tm S.E f.i).level=((j+1:Nat):Int)) :
 ∃ a b,tm S.E f.i=.pr a b/\zy (tm S.E f.i)=2/\(f.h=1∨f.h=2)/\zA a.key b.key ((j+1:Nat):Int)=true/\(f.h=2->tm S.E x=if bh then a else b)/\(f.h=1->tm S.E x=if bh then b else a):=by
 have hs:=h.sd
 rw [qQ] at hs
 have hk:=(chain_snoc.1 hs.chain).2
 have ho:=(hs.ok (tm S.E f.i,f.h) (by simp)).1
 obtain ⟨o1,o2⟩:=ho
 dsimp only at o1 o2
 cases hm:tm S.E f.i with
 | nil=>rw [hm] at hl;simp [Tm.level] at hl;omega
 | lt y=>rw [hm] at hl;simp [Tm.level] at hl;omega
 | pr a b =>
   rw [hm] at hk hl o2
   simp only [zy] at o2
   have hf:=(zle (a:=a) (b:=b) (by omega)).2.2.2.2.2
   rw [hl] at hf
   refine ⟨a,b,rfl,rfl,by omega,hf,fun e=>?_,fun e=>?_⟩<;>(rw [←hk,e];cases bh<;>simp [kQ])
 | pw a k =>
   rw [hm] at hl
   have:=zwH (a:=a) (k:=k) (by omega)
   omega
theorem EnS.runF {S:Sto} {bh:Bool} {T:Tm} (hw:WF S) {j:Nat} (hj:(j+1)%2=1) {fs:List FrI} {f:FrI} {x:Int} (h:EnS S bh T j (fs++[f]) x) (hl:(tm S.E f.i).level=((j+1:Nat):Int)) :
 ∃ k,tm S.E f.i=.pw (tm S.E x) k/\zy (tm S.E f.i)=k/\(atE S.E f.i).r.t=(k:Int)/\1<=f.h/\f.h<=k:=by
 have hs:=h.sd
 rw [qQ] at hs
 have hk:=(chain_snoc.1 hs.chain).2
 have ho:=(hs.ok (tm S.E f.i,f.h) (by simp)).1
 obtain ⟨o1,o2⟩:=ho
 dsimp only at o1 o2
 have hid:=h.ids f (by simp)
 rcases zcS hw hid.1 hid.2 with ⟨k,l,h'⟩|⟨k,h',_⟩|⟨k,h',_,_,h5⟩
 ·rw [h'] at hl;simp [Tm.level] at hl;omega
 ·rw [h'] at hl
  have:=zvn (a:=tm S.E (atE S.E f.i).r.a) (b:=tm S.E (atE S.E f.i).r.b) (by omega)
  omega
 ·rw [h'] at hk o2 ⊢
  simp only [kQ] at hk
  simp only [zy] at o2 ⊢
  exact ⟨(atE S.E f.i).r.t.toNat,by rw [hk],rfl,by omega,o1,o2⟩
theorem GatR.none {S:Sto} {T:Tm} {j:Nat} {fs:List FrI} {M:List It} (hM:∀ y∈M,ItOk S y) (h:EndI S true T j fs 0):GatR S T j fs 0 M fs 0 M:=by
 have hf:fs=[]:=by
  rcases h with h|h
  ·exact h.2
  ·have:=h.1.x1;omega
 subst hf
 exact ⟨h,fun f hf=>by simp at hf,hM,rfl,by rw [yn];exact Cut.nilR _ _⟩
theorem GatR.keep {S:Sto} {T:Tm} {j:Nat} {fs:List FrI} {x:Int} {M:List It} (hM:∀ y∈M,ItOk S y/\y.n=0) (h:EnS S true T j fs x) (hx:(tm S.E x).level<=j) (hc:Cl S (j+1) fs) (xL:Int)
 (hf:M=[]∨((j+1)%2=0/\zA (tm S.E (xG M xL)).key (tm S.E x).key ((j+1:Nat):Int)=false)∨((j+1)%2=1/\tm S.E (xG M xL)≠tm S.E x)):GatR S T j fs x M fs x M:=by
 have hx1:=h.x1
 refine ⟨.inr ⟨h,hx⟩,hc,fun y hy=>(hM y hy).1,rfl,?_⟩
 rw [qm (by omega)]
 by_cases hne:M=[]
 ·subst hne;exact Cut.nilL _ _
 ·have hl:=zvy hM hne xL
  rcases hf with hf|⟨h1,hf⟩|⟨h1,hf⟩
  ·exact absurd hf hne
  ·refine ziz h1 fun y z hy hz=>?_
   rw [hl] at hy
   rw [zbx hx] at hz
   simp only [g3q,List.head?_cons] at hy hz
   subst hy hz
   exact hf
  ·refine zls h1 fun y hy hz=>?_
   rw [hl] at hy
   rw [zbx hx] at hz
   simp only [g3q,List.head?_cons] at hy hz
   exact hf (by rw [hy,hz])
theorem GatR.moved {S:Sto} {T:Tm} (hT:Is T) (hw:WF S) {j n:Nat} {fs fs':List FrI} {x x':Int} {M:List It} (hM:∀ y∈M,ItOk S y) (h:EnS S true T j fs x) (hx:(tm S.E x).level<=j) {W:List Tm} {lv:Int} {kp:Prop}
 (hl:left true j (fs.map (frM S)) (tm S.E x)=ap true W (List.replicate n (qU j (tm S.E x))).flatten) (hq:DrQ S true T j W lv kp fs' x') (hc:Cl S (j+1) fs') (hn:1<=n)
 (hf:(j+1)%2=1∨((j+1)%2=0/\∀ z:Tm,zA (tm S.E x).key z.key ((j+1:Nat):Int)=false)) :
 GatR S T j fs x M fs' x' (M++[⟨x,0,n⟩]):=by
 have hx1:=h.x1
 obtain ⟨q1,q2,q3⟩:=hq.endI
 rw [zbZ hx,zkh] at hl
 simp only [ap] at hl
 have hi:ItOk S ⟨x,0,n⟩:=⟨h.x1,h.x2,Int.le_refl _,by dsimp only;omega,hn,fun h=>absurd rfl h⟩
 have hex:exI S ⟨x,0,n⟩=List.replicate n (tm S.E x):=if_pos rfl
 obtain ⟨m,rfl⟩:∃ m,n=m+1:=⟨n - 1,by omega⟩
 have hlast:(exM S M++List.replicate (m+1) (tm S.E x)).getLast?=some (tm S.E x):=by
  rw [List.replicate_succ',←List.append_assoc,List.getLast?_concat]
 refine ⟨q1,hc,fun y hy=>?_,?_,?_⟩
 ·rw [List.mem_append,List.mem_singleton] at hy
  rcases hy with hy|rfl
  ·exact hM y hy
  ·exact hi
 ·rw [qm (by omega),hl,q2,qN,xw,hex,List.append_assoc]
 ·rw [qN,xw,hex]
  rcases hf with hf|⟨h1,hf⟩
  ·refine zls hf fun y hy=>?_
   rw [hlast] at hy
   simp only [g3q] at hy
   subst hy
   refine zqL hT hw hf h q1 hc (r:=List.replicate m (tm S.E x)) ?_
   rw [hl,q2,List.replicate_succ']
  ·refine ziz h1 fun y z hy hz=>?_
   rw [hlast] at hy
   simp only [g3q] at hy
   subst hy
   exact hf z
end
section
open Go.EG
attribute [local irreducible] z8 yN Go.Calls
set_option maxRecDepth 20000
set_option maxHeartbeats 4000000
abbrev bxS (b bp:Nat) (aL:Option Addr) (nL cL:Nat) (xL:Int) (kL:Nat) (aR:Option Addr) (nR cR:Nat) (xR:Int) (kR:Nat) (aM:Option Addr) (nM cM:Nat):Ent :=
 .box 5000 b [pS bp,pS bp,.bool false,.slice aL nL cL,.int .i64 xL,.int .u64 kL,pS bp,.bool true,.slice aR nR cR,.int .i64 xR,.int .u64 kR,.slice aM nM cM] kZ
theorem zcr (x y l:Int) (w:World) (hx:0<=x/\x<=18446744073709551615) (hy:0<=y/\y<=18446744073709551615) (h1:l<=9223372036854775807):Calls Tryz.prog jS #[.int .u64 x,.int .u64 y,.int .i64 l] w fun e w'=>e=.returned (.bool (zA x y l))/\Ext w w':=by
 refine zN [.v (.int .u64 x),.v (.int .u64 y),.v (.int .i64 l)] w zpp (by simp) ?_
 have c1:=fun w=>zsa x y l w hx hy h1
 (repeat' ((conv=>whnf);first|(first|refine puK c1 ?_|refine quK c1 ?_)|((first|apply zb|apply za|apply zc)<;>intro h<;>try (exfalso;omega))|refine pay ?_|intro _));(all_goals (conv=>whnf))
 exact ⟨rfl⟩
theorem zhx (l:Int) (w:World) (h1:l<=9223372036854775807):Calls Tryz.prog zah #[.int .i64 l] w fun e w'=>e=.returned (.tuple #[.int .i64 (zjX l),.int .u64 (zd9 l),.bool (qE l)])/\Ext w w':=by
 refine zN [.v (.int .i64 l)] w zmd (by simp) ?_
 have c1:=fun w=>zea l w h1
 (repeat' ((conv=>whnf);first|(first|refine puK c1 ?_|refine quK c1 ?_)|((first|apply zb|apply za|apply zc)<;>intro h<;>try (exfalso;omega))|refine pay ?_|intro _));(all_goals (conv=>whnf))
 exact ⟨rfl⟩
theorem zjt (b bp:Nat) (S:Sto) (aL:Option Addr) (nL cL:Nat) (xL:Int) (kL:Nat) (aR:Option Addr) (nR cR:Nat) (xR:Int) (aM:Option Addr) (cM:Nat) (M:List It) (hM:M.length<=1048576) (fp:List Nat) (w:World)
 (hR:R w fp [bxS b bp aL nL cL xL kL aR nR cR xR (tm S.E xR).key aM M.length cM,.own 5003 aM M.length cM zj 4 (its S M)] w) :
 Calls Tryz.prog xW #[pS b] w fun e w'=>∃ v L1,e=.returned v/\R w fp L1 w'/\zw7 S (jX M xR) v/\L1=[bxS b bp aL nL cL xL kL aR nR cR xR (tm S.E xR).key aM M.length cM,.own 5003 aM M.length cM zj 4 (its S M)]:=by
 refine zf [.ptr 5000 b 0] zfv (by simp) hR ?_
 cases M with
 | nil =>
   (repeat' ((conv=>whnf);first|refine ⟨.sl 5003 _ _ _,⟨rfl,rfl,rfl,rfl⟩,?_⟩|refine zg ?_|((first|apply zb|apply za|apply zc)<;>intro h<;>try (exfalso;omega))|refine pay ?_|intro _));(all_goals (conv=>whnf))
   all_goals exact ⟨⟨_,Ref.refl _,rfl,rfl⟩⟩
 | cons x M =>
   have r0:=zpH S x M 0 (by omega)
   have r2:=zpH S x M 2 (by omega)
   have hn:(x::M).length=M.length+1:=rfl
   have hane:aM≠none:=xZ hR (key:=5003) rfl (Nat.succ_pos _)
   (repeat' ((conv=>whnf);first|refine zB r0 ?_|refine zB r2 ?_|refine ⟨.sl 5003 _ _ _,⟨rfl,rfl,rfl,rfl⟩,?_⟩|refine zg ?_|((first|apply zb|apply za|apply zc)<;>intro h<;>try (exfalso;omega))|refine pay ?_|refine And.intro (by first|exact ⟨rfl,Nat.succ_pos _⟩|exact ⟨by omega,by omega⟩) ?_|intro _));(all_goals (conv=>whnf))
   all_goals first|(exfalso;((try dsimp only at *);omega))|skip
   all_goals exact ⟨⟨_,Ref.refl _,rfl,rfl⟩⟩
theorem zlt (b bp:Nat) (S:Sto) (aL:Option Addr) (nL cL:Nat) (xL:Int) (aR:Option Addr) (nR cR:Nat) (xR:Int) (kR:Nat) (aM:Option Addr) (cM:Nat) (M:List It) (hM:M.length<=1048576) (fp:List Nat) (w:World)
 (hR:R w fp [bxS b bp aL nL cL xL (tm S.E xL).key aR nR cR xR kR aM M.length cM,.own 5003 aM M.length cM zj 4 (its S M)] w) :
 Calls Tryz.prog kw #[pS b] w fun e w'=>∃ v L1,e=.returned v/\R w fp L1 w'/\zw7 S (xG M xL) v/\L1=[bxS b bp aL nL cL xL (tm S.E xL).key aR nR cR xR kR aM M.length cM,.own 5003 aM M.length cM zj 4 (its S M)]:=by
 refine zf [.ptr 5000 b 0] zgd (by simp) hR ?_
 rcases yw M with rfl|⟨M,x,rfl⟩
 ·(repeat' ((conv=>whnf);first|refine ⟨.sl 5003 _ _ _,⟨rfl,rfl,rfl,rfl⟩,?_⟩|refine zg ?_|((first|apply zb|apply za|apply zc)<;>intro h<;>try (exfalso;omega))|refine pay ?_|intro _));(all_goals (conv=>whnf))
  all_goals exact ⟨⟨_,Ref.refl _,rfl,rfl⟩⟩
 ·have r0:=zb8 S M x 0
  have r2:=zb8 S M x 2
  have hn:(M++[x]).length=M.length+1:=by simp
  have hla:xG (M++[x]) xL=x.i:=by simp [xG]
  rw [hla]
  rw [hn] at hM hR ⊢
  have e1:(((M.length+1:Nat):Int) - 1).toNat=M.length:=by omega
  (repeat' ((conv=>whnf);first|rw [e1]|refine zB r0 ?_|refine zB r2 ?_|refine ⟨.sl 5003 _ _ _,⟨rfl,rfl,rfl,rfl⟩,?_⟩|refine zg ?_|((first|apply zb|apply za|apply zc)<;>intro h<;>try (exfalso;omega))|refine pay ?_|refine And.intro (by first|exact ⟨rfl,Nat.succ_pos _⟩|exact ⟨by omega,by omega⟩) ?_|intro _));(all_goals (conv=>whnf))
  all_goals first|(exfalso;((try dsimp only at *);omega))|skip
  all_goals exact ⟨⟨_,Ref.refl _,rfl,rfl⟩⟩
abbrev spH (b bp:Nat) (S:Sto) (aL:Option Addr) (fL:List FrI) (cL:Nat) (xL:Int) (aR:Option Addr) (fR:List FrI) (cR:Nat) (xR:Int) (aM:Option Addr) (M:List It) (cM:Nat):List Ent :=
 [bxS b bp aL fL.length cL xL (tm S.E xL).key aR fR.length cR xR (tm S.E xR).key aM M.length cM,.own 5001 aL fL.length cL zi 8 (frs S fL),.own 5002 aR fR.length cR zi 8 (frs S fR),.own 5003 aM M.length cM zj 4 (its S M)]
theorem rekey {w0 w:World} {fp:List Nat} {e:Ent} {k k':Nat} {a:Option Addr} {n c T s:Nat} {xs:List Value} (h:R w0 fp [e,.own k a n c T s xs] w):R w0 fp [e,.own k' a n c T s xs] w :=
 (show Thin [e,.own k a n c T s xs] [e,.own k' a n c T s xs] from .keep rfl (fun _ h=>h) (.keep rfl (fun _ h=>h) (.nil _))).ref w h
theorem zcT (m:Tm):0<=(m.key:Int)/\(m.key:Int)<=18446744073709551615:=by
 have:=m.key_lt'
 omega
theorem zsy (bp bt bs b:Nat) (S:Sto) (hw:WF S) (T:Tm) (hT:Is T) (j:Nat) (hj:(j+1)%2=0) (hjl:j<=1000000) (aL:Option Addr) (fL:List FrI) (cL:Nat) (xL:Int) (aR:Option Addr) (fR:List FrI) (cR:Nat) (xR:Int) (aM:Option Addr) (M:List It) (cM:Nat)
 (hL:EndI S false T j fL xL) (hM:∀ x∈M,ItOk S x) (hn:M.length<=1000000) (f1 f2 fp:List Nat) (w:World) (hR:R w fp (fP bp bt bs S f1 f2++spH b bp S aL fL cL xL aR fR cR xR aM M cM) w) (hG:qq w fp) :
 Calls Tryz.prog kf #[pS b,.int .i64 ((j+1:Nat):Int)] w fun e w'=>∃ v L1,e=.returned v/\R w fp L1 w'/\∃ aL' fL' cL' xL' aM' M' cM' g1 g2,GatL S T j fL xL M xR fL' xL' M'/\v=.tuple #[]/\L1=fP bp bt bs S g1 g2++spH b bp S aL' fL' cL' xL' aR fR cR xR aM' M' cM':=by
 refine zf [.ptr 5000 b 0,.v (.int .i64 ((j+1:Nat):Int))] zcO (by simp) hR ?_
 by_cases h0:xL=0
 ·subst h0
  (repeat' ((conv=>whnf);first|refine zg ?_|((first|apply zb|apply za|apply zc)<;>intro h<;>try (exfalso;omega))|refine pay ?_|intro _));(all_goals (conv=>whnf))
  all_goals exact ⟨⟨_,Ref.takes [78,77,3000,5000,5001,5002,5003] rfl (.refl _),_,_,_,_,_,_,_,_,_,GatL.none hL,rfl,rfl⟩⟩
 obtain ⟨hE,hx⟩:=hL.ens h0
 have hsm:=hw.small
 have hll:=hE.len
 have cp:=fun fp w hR=>zaC b bp (pS bp) (pS bp) (.bool true) (.slice aR fR.length cR) (.int .i64 xR) (.int .u64 (tm S.E xR).key) (.slice aM M.length cM) S fL (by omega) xL (.int .u64 (tm S.E xL).key) (j+1) aL cL fp w hR
 have cf:=fun fp w hR=>zjt b bp S aL fL.length cL xL (tm S.E xL).key aR fR.length cR xR aM cM M (by omega) fp w hR
 have ct:=fun w=>zcr (tm S.E xL).key (tm S.E (jX M xR)).key ((j+1:Nat):Int) w (zcT _) (zcT _) (by omega)
 have ci:=fun va vc fp w hR=>ziy aM M.length cM (its S M) va vc (itC S ⟨xL,0,1⟩) (uR S M) rfl (zmo S M) ⟨trivial,trivial,trivial,trivial,trivial⟩ (by omega) fp w hR
 have e1:((j+1:Nat):Int) - 1=(j:Int):=by omega
 obtain ⟨W,lv,kp,hD,hl,hlv⟩:=hE.drop (n:=1) (fun _=>rfl) (fun fs1 f e=>by subst e;exact hE.okN1)
 have cd:=fun aM' cM' k0 f1 f2 fp w hR hG=>zjs bp bt bs b (pS bp) (pS bp) (.bool true) (.slice aR fR.length cR) (.int .i64 xR) (.int .u64 (tm S.E xR).key) (.slice aM' (M.length+1) cM') S hw T j W lv kp fL 1 hD xL k0 aL cL f1 f2 fp w hR hG
 (repeat' ((conv=>whnf);first|(refine zh [5000,5001] rfl (fun w hR h=>cp _ w h) ?_;rintro _ _ ⟨hq,rfl⟩)|refine zg ?_|((first|apply zb|apply za|apply zc)<;>intro h<;>try (exfalso;omega))|refine pay ?_|refine And.intro (by first|exact (by omega)) ?_|intro _));(all_goals (conv=>whnf))
 have hfin:∀ {fs':List FrI} {x':Int},DrQ S false T j W lv kp fs' x'->(∀ fs1 f,fL=fs1++[f]->((j+1:Nat):Int)<(tm S.E f.i).level∨(((j+1:Nat):Int)<=(tm S.E f.i).level/\f.h<=1))->GatL S T j fL xL M xR fs' x' (⟨xL,0,1⟩::M) :=
  fun hq hf=>GatL.moved hT hw hE hx hl hq (hq.cl hD hlv hf) (Nat.le_refl 1) (fun _=>rfl)
 rcases hq with ⟨fs1,f,rfl,hlv',rfl⟩|⟨hno,rfl⟩
 ·have hn':(fs1++[f]).length=fs1.length+1:=by simp
  have r7:=qC S fs1 f 7
  have hrow:=qW hR (key:=5001) rfl
  have hane:aL≠none:=xZ hR (key:=5001) rfl (by rw [hn'];exact Nat.succ_pos _)
  obtain ⟨a0,rfl⟩:=Option.ne_none_iff_exists'.1 hane
  obtain ⟨a,b',hm,hwh,hh,_⟩:=hE.pairF hj hlv'
  have hfc:∀ fs2 g,fs1++[f]=fs2++[g]->g=f:=fun fs2 g e=>by
   have e1:=(List.append_inj' e rfl).2
   simp only [List.cons.injEq,and_true] at e1
   exact e1.symm
  generalize hN:(fs1++[f]).length=N at *
  refine ⟨.ek 5001 (some a0) (fs1.length*8),rfl,?_⟩
  (repeat' ((conv=>whnf);first|rw [e1]|refine zB r7 ?_|(refine zh [5003,63] rfl (fun w hR h=>ci _ _ _ w (rekey h)) ?_;rintro _ _ ⟨a',c',rfl,rfl⟩;refine ⟨.sl 5003 a' (M.length+1) c',rfl,?_⟩)|(refine zh [78,77,3000,5000,5001] rfl (fun w hR h=>cd _ _ _ _ _ _ w h (hG.castL hR)) ?_;rintro _ _ ⟨fs',x',aL',cL',g1,g2,hq,rfl,rfl⟩;refine ⟨.v _,rfl,?_⟩)|refine ⟨.sl 5003 _ _ _,⟨rfl,rfl,rfl,rfl⟩,?_⟩|refine zg ?_|((first|apply zb|apply za|apply zc)<;>intro h<;>try (exfalso;omega))|refine pay ?_|refine And.intro (by first|exact ⟨rfl,by omega⟩) ?_|intro _));(all_goals (conv=>whnf))
  all_goals first|(exfalso;((try dsimp only at *);omega))|skip
  all_goals subst hN
  ·exact ⟨⟨_,Ref.takes [78,77,3000,5000,5001,5002,5003] rfl (.refl _),_,_,_,_,_,_,_,_,_,GatL.pair hT hw hj hE hx hlv' (by rw [hwh];omega),rfl,rfl⟩⟩
  ·refine ⟨⟨_,Ref.takes [78,77,3000,5000,5001,5002,5003] rfl (.refl _),_,_,_,_,_,_,_,_,_,hfin hq (fun fs2 g e=>?_),rfl,rfl⟩⟩
   rw [hfc fs2 g e]
   exact .inr ⟨by omega,by omega⟩
 ·refine ⟨.v (.pointer none),rfl,?_⟩
  (repeat' ((conv=>whnf);first|rw [e1]|(refine zh [5003,63] rfl (fun w hR h=>ci _ _ _ w (rekey h)) ?_;rintro _ _ ⟨a',c',rfl,rfl⟩;refine ⟨.sl 5003 a' (M.length+1) c',rfl,?_⟩)|(refine zh [78,77,3000,5000,5001] rfl (fun w hR h=>cd _ _ _ _ _ _ w h (hG.castL hR)) ?_;rintro _ _ ⟨fs',x',aL',cL',g1,g2,hq,rfl,rfl⟩;refine ⟨.v _,rfl,?_⟩)|(refine zh [5000,5003] rfl (fun w hR h=>cf _ w h) ?_;rintro _ _ ⟨rfl,rfl⟩;refine ⟨.v _,rfl,?_⟩)|(first|refine puK ct ?_|refine quK ct ?_)|refine ⟨.sl 5003 _ _ _,⟨rfl,rfl,rfl,rfl⟩,?_⟩|refine zg ?_|((first|apply zb|apply za|apply zc)<;>intro h<;>try (exfalso;omega))|refine pay ?_|refine And.intro (by first|exact ⟨rfl,by omega⟩) ?_|intro _));(all_goals (conv=>whnf))
  all_goals first|(exfalso;((try dsimp only at *);omega))|skip
  ·exact ⟨⟨_,Ref.takes [78,77,3000,5000,5001,5002,5003] rfl (.refl _),_,_,_,_,_,_,_,_,_,GatL.nofit hj hM hE hx hno (.inl (by omega)),rfl,rfl⟩⟩
  ·refine ⟨⟨_,Ref.takes [78,77,3000,5000,5001,5002,5003] rfl (.refl _),_,_,_,_,_,_,_,_,_,GatL.nofit hj hM hE hx hno (.inr ?_),rfl,rfl⟩⟩
   assumption
  ·refine ⟨⟨_,Ref.takes [78,77,3000,5000,5001,5002,5003] rfl (.refl _),_,_,_,_,_,_,_,_,_,hfin hq (fun fs2 g e=>?_),rfl,rfl⟩⟩
   subst e
   have h1:=hE.above.1
   have h2:=hno fs2 g rfl
   exact .inl (by omega)
theorem ztT {S:Sto} {M:List It} (hM:∀ x∈M,ItOk S x) {xL:Int} (h:xG M xL=0):M=[]:=by
 rcases yw M with rfl|⟨M,x,rfl⟩
 ·rfl
 ·have:=(hM x (by simp)).i1
  simp [xG] at h
  omega
def midR (j:Nat) (xR:Int) (M M':List It):Prop:=M'=M∨∃ t,M'=M++[⟨xR,0,t⟩]/\1<=t/\((j+1)%2=0->t=1)
theorem zsz (bp bt bs b:Nat) (S:Sto) (hw:WF S) (T:Tm) (hT:Is T) (j:Nat) (hj:(j+1)%2=0) (htie:qE ((j+1:Nat):Int)=false) (hjl:j<=1000000) (aL:Option Addr) (fL:List FrI) (cL:Nat) (xL:Int) (aR:Option Addr) (fR:List FrI) (cR:Nat) (xR:Int) (aM:Option Addr) (M:List It) (cM:Nat)
 (hE0:EndI S true T j fR xR) (hM:∀ x∈M,ItOk S x/\x.n=0) (hn:M.length<=1000000) (f1 f2 fp:List Nat) (w:World) (hR:R w fp (fP bp bt bs S f1 f2++spH b bp S aL fL cL xL aR fR cR xR aM M cM) w) (hG:qq w fp) :
 Calls Tryz.prog xP #[pS b,.int .i64 ((j+1:Nat):Int)] w fun e w'=>∃ v L1,e=.returned v/\R w fp L1 w'/\∃ aR' fR' cR' xR' aM' M' cM' g1 g2,(GatR S T j fR xR M fR' xR' M'/\midR j xR M M')/\v=.tuple #[]/\L1=fP bp bt bs S g1 g2++spH b bp S aL fL cL xL aR' fR' cR' xR' aM' M' cM':=by
 refine zf [.ptr 5000 b 0,.v (.int .i64 ((j+1:Nat):Int))] zb4 (by simp) hR ?_
 by_cases h0:xR=0
 ·subst h0
  (repeat' ((conv=>whnf);first|refine zg ?_|((first|apply zb|apply za|apply zc)<;>intro h<;>try (exfalso;omega))|refine pay ?_|intro _));(all_goals (conv=>whnf))
  all_goals exact ⟨⟨_,Ref.takes [78,77,3000,5000,5001,5002,5003] rfl (.refl _),_,_,_,_,_,_,_,_,_,⟨GatR.none (fun y hy=>(hM y hy).1) hE0,.inl rfl⟩,rfl,rfl⟩⟩
 obtain ⟨hE,hx⟩:=hE0.ens h0
 have hsm:=hw.small
 have hll:=hE.len
 have cp:=fun fp w hR=>vz b bp (pS bp) (pS bp) (.bool false) (.slice aL fL.length cL) (.int .i64 xL) (.int .u64 (tm S.E xL).key) (.slice aM M.length cM) S fR (by omega) xR (.int .u64 (tm S.E xR).key) (j+1) aR cR fp w hR
 have cf:=fun fp w hR=>zlt b bp S aL fL.length cL xL aR fR.length cR xR (tm S.E xR).key aM cM M (by omega) fp w hR
 have ct:=fun w=>zcr (tm S.E (xG M xL)).key (tm S.E xR).key ((j+1:Nat):Int) w (zcT _) (zcT _) (by omega)
 have e1:((j+1:Nat):Int) - 1=(j:Int):=by omega
 obtain ⟨W,lv,kp,hD,hl,hlv⟩:=hE.drop (n:=1) (fun _=>rfl) (fun fs1 f e=>by subst e;exact hE.okN1)
 have cd:=fun aM' cM' k0 f1 f2 fp w hR hG=>jl bp bt bs b (pS bp) (pS bp) (.bool false) (.slice aL fL.length cL) (.int .i64 xL) (.int .u64 (tm S.E xL).key) (.slice aM' (M.length+1) cM') S hw T j W lv kp fR 1 hD xR k0 aR cR f1 f2 fp w hR hG
 have hml:(M++[(⟨xR,0,1⟩:It)]).length=M.length+1:=by simp
 have happ:its S M++[Value.int .i64 xR,.int .i64 0,.int .u64 (tm S.E xR).key,.int .i64 1]=its S (M++[⟨xR,0,1⟩]):=jW S M ⟨xR,0,1⟩
 (repeat' ((conv=>whnf);first|(refine zh [5000,5002] rfl (fun w hR h=>cp _ w h) ?_;rintro _ _ ⟨hq,rfl⟩)|refine zg ?_|((first|apply zb|apply za|apply zc)<;>intro h<;>try (exfalso;omega))|refine pay ?_|refine And.intro (by first|exact (by omega)) ?_|intro _));(all_goals (conv=>whnf))
 have hfin:∀ {fs':List FrI} {x':Int},DrQ S true T j W lv kp fs' x'->(∀ fs1 f,fR=fs1++[f]->((j+1:Nat):Int)<(tm S.E f.i).level∨(((j+1:Nat):Int)<=(tm S.E f.i).level/\f.h<=1))->(∀ z:Tm,zA (tm S.E xR).key z.key ((j+1:Nat):Int)=false)->GatR S T j fR xR M fs' x' (M++[⟨xR,0,1⟩])/\midR j xR M (M++[⟨xR,0,1⟩]) :=
  fun hq hf hz=>⟨GatR.moved hT hw (fun y hy=>(hM y hy).1) hE hx hl hq (hq.cl hD hlv hf) (Nat.le_refl 1) (.inr ⟨hj,hz⟩),.inr ⟨1,rfl,Nat.le_refl 1,fun _=>rfl⟩⟩
 rcases hq with ⟨fs1,f,rfl,hlv',rfl⟩|⟨hno,rfl⟩
 ·have hn':(fs1++[f]).length=fs1.length+1:=by simp
  have r7:=qC S fs1 f 7
  have hane:aR≠none:=xZ hR (key:=5002) rfl (by rw [hn'];exact Nat.succ_pos _)
  obtain ⟨a0,rfl⟩:=Option.ne_none_iff_exists'.1 hane
  obtain ⟨a,b',hm,hwh,hh,hfit,hx2,hx1⟩:=hE.pairF hj hlv'
  have hfc:∀ fs2 g,fs1++[f]=fs2++[g]->g=f:=fun fs2 g e=>by
   have e1:=(List.append_inj' e rfl).2
   simp only [List.cons.injEq,and_true] at e1
   exact e1.symm
  generalize hN:(fs1++[f]).length=N at *
  refine ⟨.ek 5002 (some a0) (fs1.length*8),rfl,?_⟩
  (repeat' ((conv=>whnf);first|rw [e1]|refine zB r7 ?_|rw [happ]|refine ⟨.sl 5003 _ _ _,⟨rfl,rfl,rfl,rfl⟩,?_⟩|(refine zh [78,77,3000,5000,5002] rfl (fun w hR h=>cd _ _ _ _ _ _ w h (hG.castL hR)) ?_;rintro _ _ ⟨fs',x',aR',cR',g1,g2,hq,rfl,rfl⟩;refine ⟨.v _,rfl,?_⟩)|refine zg ?_|((first|apply zb|apply za|apply zc)<;>intro h<;>try (exfalso;omega))|refine pay ?_|refine And.intro (by first|exact ⟨rfl,by omega⟩|exact ⟨by omega,by unfold maxLen;omega⟩|exact ⟨by unfold maxLen;omega,by omega⟩) ?_|intro _));(all_goals (conv=>whnf))
  all_goals first|(exfalso;((try dsimp only at *);omega))|skip
  all_goals subst hN
  ·refine ⟨⟨_,Ref.takes [78,77,3000,5000,5001,5002,5003] rfl (.refl _),_,_,_,_,_,_,_,_,_,⟨GatR.keep hM hE hx (hE.cl_last fun fs2 g e _=>?_) xL (.inr (.inl ⟨hj,?_⟩)),.inl rfl⟩,rfl,rfl⟩⟩
   ·rw [hfc fs2 g e,hwh];omega
   ·rw [hx2 (by omega)]
    exact (zki htie hfit).1
  ·refine ⟨⟨_,Ref.takes [78,77,3000,5000,5001,5002,5003] rfl (.keep rfl (fun _ h=>h) (.keep rfl (fun _ h=>h) (.keep rfl (fun _ h=>h) (.box (by rw [hml]) (.keep rfl (fun _ h=>h) (.keep rfl (fun _ h=>h) (.own hml.symm rfl (.refl _)))))))),_,_,_,_,_,_,_,_,_,hfin hq (fun fs2 g e=>?_) (fun z=>?_),rfl,rfl⟩⟩
   ·rw [hfc fs2 g e]
    exact .inr ⟨by omega,by omega⟩
   ·rw [hx1 (by omega)]
    exact (zki htie hfit).2
 ·refine ⟨.v (.pointer none),rfl,?_⟩
  (repeat' ((conv=>whnf);first|rw [e1]|(refine zh [5000,5003] rfl (fun w hR h=>cf _ w h) ?_;rintro _ _ ⟨rfl,rfl⟩;refine ⟨.v _,rfl,?_⟩)|(first|refine puK ct ?_|refine quK ct ?_)|rw [happ]|refine ⟨.sl 5003 _ _ _,⟨rfl,rfl,rfl,rfl⟩,?_⟩|(refine zh [78,77,3000,5000,5002] rfl (fun w hR h=>cd _ _ _ _ _ _ w h (hG.castL hR)) ?_;rintro _ _ ⟨fs',x',aR',cR',g1,g2,hq,rfl,rfl⟩;refine ⟨.v _,rfl,?_⟩)|refine zg ?_|((first|apply zb|apply za|apply zc)<;>intro h<;>try (exfalso;omega))|refine pay ?_|refine And.intro (by first|exact ⟨rfl,by omega⟩|exact ⟨by omega,by unfold maxLen;omega⟩|exact ⟨by unfold maxLen;omega,by omega⟩) ?_|intro _));(all_goals (conv=>whnf))
  all_goals first|(exfalso;((try dsimp only at *);omega))|skip
  ·refine ⟨⟨_,Ref.takes [78,77,3000,5000,5001,5002,5003] rfl (.refl _),_,_,_,_,_,_,_,_,_,⟨GatR.keep hM hE hx (hE.cl_last fun fs2 g e h=>absurd h (hno fs2 g e)) xL (.inl ?_),.inl rfl⟩,rfl,rfl⟩⟩
   exact ztT (fun y hy=>(hM y hy).1) (by assumption)
  ·refine ⟨⟨_,Ref.takes [78,77,3000,5000,5001,5002,5003] rfl (.refl _),_,_,_,_,_,_,_,_,_,⟨GatR.keep hM hE hx (hE.cl_last fun fs2 g e h=>absurd h (hno fs2 g e)) xL (.inr (.inl ⟨hj,?_⟩)),.inl rfl⟩,rfl,rfl⟩⟩
   assumption
  ·refine ⟨⟨_,Ref.takes [78,77,3000,5000,5001,5002,5003] rfl (.keep rfl (fun _ h=>h) (.keep rfl (fun _ h=>h) (.keep rfl (fun _ h=>h) (.box (by rw [hml]) (.keep rfl (fun _ h=>h) (.keep rfl (fun _ h=>h) (.own hml.symm rfl (.refl _)))))))),_,_,_,_,_,_,_,_,_,hfin hq (fun fs2 g e=>?_) (fun z=>?_),rfl,rfl⟩⟩
   ·subst e
    have h1:=hE.above.1
    have h2:=hno fs2 g rfl
    exact .inl (by omega)
   ·have hf:zA (tm S.E (xG M xL)).key (tm S.E xR).key ((j+1:Nat):Int)=true:=by assumption
    exact (zki htie hf).2
def rnN (S:Sto) (fs:List FrI) (l:Int):Nat:=match fs.getLast? with
 | some f=>if (tm S.E f.i).level=l then f.h else 1
 | none=>1
def rnC (S:Sto) (fs:List FrI) (l:Int):Bool:=match fs.getLast? with
 | some f=>if (tm S.E f.i).level=l then decide ((f.h:Int)<(atE S.E f.i).r.t) else false
 | none=>false
theorem uS (S:Sto) (fs:List FrI) (f:FrI) (l:Int):rnN S (fs++[f]) l=if (tm S.E f.i).level=l then f.h else 1:=by simp [rnN]
theorem zkk (S:Sto) (fs:List FrI) (f:FrI) (l:Int):rnC S (fs++[f]) l=if (tm S.E f.i).level=l then decide ((f.h:Int)<(atE S.E f.i).r.t) else false:=by simp [rnC]
theorem zrA {S:Sto} {fs:List FrI} {l:Nat} {v:Value} (h:zvt S fs l v):v=.tuple #[.int .i64 (rnN S fs l:Nat),.bool (rnC S fs l)]:=by
 rcases h with ⟨fs1,f,rfl,hl,rfl⟩|⟨hno,rfl⟩
 ·rw [uS,zkk,if_pos hl,if_pos hl]
 ·rcases yw fs with rfl|⟨fs1,f,rfl⟩
  ·rfl
  ·rw [uS,zkk,if_neg (hno fs1 f rfl),if_neg (hno fs1 f rfl)];rfl
structure RunOk (S:Sto) (j:Nat) (fs:List FrI):Prop where
 one:fs=[]->rnN S fs ((j+1:Nat):Int)=1
 ok:∀ fs1 f,fs=fs1++[f]->okN (frM S f) (rnN S fs ((j+1:Nat):Int))
 pos:1<=rnN S fs ((j+1:Nat):Int)
 keep:rnC S fs ((j+1:Nat):Int)=false->Cl S (j+1) fs
 cl:∀ fs1 f,fs=fs1++[f]->((j+1:Nat):Int)<(tm S.E f.i).level∨(((j+1:Nat):Int)<=(tm S.E f.i).level/\f.h<=rnN S fs ((j+1:Nat):Int))
theorem EnS.run {S:Sto} {bh:Bool} {T:Tm} (hw:WF S) {j:Nat} (hj:(j+1)%2=1) {fs:List FrI} {x:Int} (h:EnS S bh T j fs x):RunOk S j fs:=by
 rcases yw fs with rfl|⟨fs1,f,rfl⟩
 ·exact ⟨fun _=>rfl,fun fs1 f e=>by simp at e,Nat.le_refl 1,fun _ f hf=>by simp at hf,fun fs1 f e=>by simp at e⟩
 ·have hfc:∀ fs2 g,fs1++[f]=fs2++[g]->g=f:=fun fs2 g e=>by
   have e1:=(List.append_inj' e rfl).2
   simp only [List.cons.injEq,and_true] at e1
   exact e1.symm
  by_cases hl:(tm S.E f.i).level=((j+1:Nat):Int)
  ·obtain ⟨k,hm,hwh,ht,h1,h2⟩:=h.runF hw hj hl
   refine ⟨fun e=>by simp at e,fun fs2 g e=>?_,?_,fun hc=>h.cl_last fun fs2 g e _=>?_,fun fs2 g e=>?_⟩
   ·rw [uS,if_pos hl,hfc fs2 g e]
    refine ⟨h1,Nat.le_refl _,fun _=>.inr ⟨_,k,hm⟩,fun ⟨a,b,e'⟩=>?_⟩
    simp only [frM] at e'
    rw [hm] at e';cases e'
   ·rw [uS,if_pos hl];exact h1
   ·rw [zkk,if_pos hl,ht] at hc
    have:=of_decide_eq_false hc
    rw [hfc fs2 g e,hwh];omega
   ·rw [uS,if_pos hl,hfc fs2 g e]
    exact .inr ⟨by omega,Nat.le_refl _⟩
  ·refine ⟨fun e=>by simp at e,fun fs2 g e=>?_,?_,fun hc=>h.cl_last fun fs2 g e hg=>?_,fun fs2 g e=>?_⟩
   ·rw [uS,if_neg hl,hfc fs2 g e];exact h.okN1
   ·rw [uS,if_neg hl];exact Nat.le_refl 1
   ·rw [hfc fs2 g e] at hg;exact absurd hg hl
   ·rw [hfc fs2 g e]
    have:=h.above.1
    exact .inl (by omega)
theorem GatL.its {S:Sto} {T:Tm} {j:Nat} {fs fs':List FrI} {x x':Int} {M M':List It} {xR:Int} (h:GatL S T j fs x M xR fs' x' M') (hM:∀ y∈M,ItOk S y/\y.n=0):(∀ y∈M',ItOk S y/\y.n=0)/\M'.length<=M.length+1:=by
 rcases h.mid with rfl|⟨t,rfl,hi,_⟩
 ·exact ⟨hM,by omega⟩
 ·refine ⟨fun y hy=>?_,by rw [List.length_cons];omega⟩
  rcases List.mem_cons.1 hy with rfl|hy
  ·exact ⟨hi,rfl⟩
  ·exact hM y hy
structure RuG where
 aL:Option Addr
 fL:List FrI
 cL:Nat
 xL:Int
 aM:Option Addr
 M:List It
 cM:Nat
 f1:List Nat
 f2:List Nat
theorem zsA (bp bt bs b:Nat) (S:Sto) (hw:WF S) (T T2:Tm) (hT:Is T) (hT2:Is T2) (j:Nat) (hj:(j+1)%2=1) (hjl:j<=1000000) (aL:Option Addr) (fL:List FrI) (cL:Nat) (xL:Int) (aR:Option Addr) (fR:List FrI) (cR:Nat) (xR:Int) (aM:Option Addr) (M:List It) (cM:Nat)
 (hL:EndI S false T j fL xL) (hE0:EndI S true T2 j fR xR) (hM:∀ x∈M,ItOk S x/\x.n=0) (hn:M.length<=999999) (f1 f2 fp:List Nat) (w:World) (hR:R w fp (fP bp bt bs S f1 f2++spH b bp S aL fL cL xL aR fR cR xR aM M cM) w) (hG:qq w fp) :
 Calls Tryz.prog x9 #[pS b,.int .i64 ((j+1:Nat):Int)] w fun e w'=>∃ v L1,e=.returned v/\R w fp L1 w'/\∃ aL' fL' cL' xL' aR' fR' cR' xR' M1 aM' M' cM' g1 g2,(GatL S T j fL xL M xR fL' xL' M1/\GatR S T2 j fR xR M1 fR' xR' M'/\midR j xR M1 M')/\v=.tuple #[]/\L1=fP bp bt bs S g1 g2++spH b bp S aL' fL' cL' xL' aR' fR' cR' xR' aM' M' cM':=by
 refine zf [.ptr 5000 b 0,.v (.int .i64 ((j+1:Nat):Int))] zcL (by simp) hR ?_
 have hsm:=hw.small
 have hk:=hE0.known
 have e1:((j+1:Nat):Int) - 1=(j:Int):=by omega
 have hM1:∀ x∈M,ItOk S x:=fun y hy=>(hM y hy).1
 refine zcw RuG (fun y=>[(0,.ptr 5000 b 0),(1,.v (.int .i64 ((j+1:Nat):Int)))]) (fun y=>fP bp bt bs S y.f1 y.f2++spH b bp S y.aL y.fL y.cL y.xL aR fR cR xR y.aM y.M y.cM) (fun y=>GatL S T j fL xL M xR y.fL y.xL y.M) ?_ ?_
 ·have cf:=fun fp w hR=>zjt b bp S aL fL.length cL xL (tm S.E xL).key aR fR.length cR xR aM cM M (by omega) fp w hR
  by_cases h0:xL=0
  ·subst h0
   (repeat' ((conv=>whnf);first|(refine zh [5000,5003] rfl (fun w hR h=>cf _ w h) ?_;rintro _ _ ⟨rfl,rfl⟩;refine ⟨.v _,rfl,?_⟩)|refine zg ?_|((first|apply zb|apply za|apply zc)<;>intro h<;>try (exfalso;omega))|refine pay ?_|intro _));(all_goals (conv=>whnf))
   all_goals try (exfalso;omega)
   all_goals exact qh (⟨_,_,_,_,_,_,_,_,_⟩:RuG) (GatL.none hL) (by (repeat ((conv=>whnf);refine vS ?_));exact trivial) (Ref.takes [78,77,3000,5000,5001,5002,5003] rfl (.refl _))
  obtain ⟨hE,hx⟩:=hL.ens h0
  have hll:=hE.len
  have hro:=hE.run hw hj
  have cp:=fun fp w hR=>zst b bp (pS bp) (pS bp) (.bool true) (.slice aR fR.length cR) (.int .i64 xR) (.int .u64 (tm S.E xR).key) (.slice aM M.length cM) S fL (by omega) xL (.int .u64 (tm S.E xL).key) (j+1) aL cL fp w hR
  obtain ⟨r1,r2,r3,r4,r5⟩:=hro
  obtain ⟨W,lv,kp,hD,hl,hlv⟩:=hE.drop (n:=rnN S fL ((j+1:Nat):Int)) r1 r2
  have hfin:∀ {fs':List FrI} {x':Int},DrQ S false T j W lv kp fs' x'->GatL S T j fL xL M xR fs' x' (⟨xL,0,rnN S fL ((j+1:Nat):Int)⟩::M) :=
   fun hq=>GatL.moved hT hw hE hx hl hq (hq.cl hD hlv r5) r3 (fun h=>by omega)
  have hsame:rnC S fL ((j+1:Nat):Int)=false->¬xL=jX M xR->GatL S T j fL xL M xR fL xL M:=fun h1 h2=>GatL.same hj hM1 hw hk hE hx (r4 h1) h2
  clear r1 r2 r4 r5
  generalize hN:rnN S fL ((j+1:Nat):Int)=N at *
  generalize hC:rnC S fL ((j+1:Nat):Int)=C at *
  have cd:=fun aM' cM' k0 f1 f2 fp w hR hG=>zjs bp bt bs b (pS bp) (pS bp) (.bool true) (.slice aR fR.length cR) (.int .i64 xR) (.int .u64 (tm S.E xR).key) (.slice aM' (M.length+1) cM') S hw T j W lv kp fL N hD xL k0 aL cL f1 f2 fp w hR hG
  have ci:=fun va vc fp w hR=>ziy aM M.length cM (its S M) va vc (itC S ⟨xL,0,N⟩) (uR S M) rfl (zmo S M) ⟨trivial,trivial,trivial,trivial,trivial⟩ (by omega) fp w hR
  (repeat' ((conv=>whnf);first|rw [e1]|(refine zh [5000,5003] rfl (fun w hR h=>cf _ w h) ?_;rintro _ _ ⟨rfl,rfl⟩;refine ⟨.v _,rfl,?_⟩)|(refine zh [5000,5001] rfl (fun w hR h=>cp _ w h) ?_;rintro _ _ ⟨hq,rfl⟩;obtain rfl:=zrA hq;rw [hN,hC];refine ⟨.v _,rfl,?_⟩)|(refine zh [5003,58] rfl (fun w hR h=>ci _ _ _ w (rekey h)) ?_;rintro _ _ ⟨a',c',rfl,rfl⟩;refine ⟨.sl 5003 a' (M.length+1) c',rfl,?_⟩)|(refine zh [78,77,3000,5000,5001] rfl (fun w hR h=>cd _ _ _ _ _ _ w h (hG.castL hR)) ?_;rintro _ _ ⟨fs',x',aL',cL',g1,g2,hq,rfl,rfl⟩;refine ⟨.v _,rfl,?_⟩)|refine ⟨.sl 5003 _ _ _,⟨rfl,rfl,rfl,rfl⟩,?_⟩|refine zg ?_|((first|apply zb|apply za|apply zc)<;>intro h<;>try (exfalso;omega))|refine pay ?_|intro _));(all_goals (conv=>whnf))
  all_goals try (exfalso;omega)
  ·exact qh (⟨_,_,_,_,_,_,_,_,_⟩:RuG) (hfin hq) (by (repeat ((conv=>whnf);refine vS ?_));exact trivial) (Ref.takes [78,77,3000,5000,5001,5002,5003] rfl (.refl _))
  ·exact qh (⟨_,_,_,_,_,_,_,_,_⟩:RuG) (hfin hq) (by (repeat ((conv=>whnf);refine vS ?_));exact trivial) (Ref.takes [78,77,3000,5000,5001,5002,5003] rfl (.refl _))
  ·exact qh (⟨_,_,_,_,_,_,_,_,_⟩:RuG) (hsame (by first|assumption|simp_all) (by assumption)) (by (repeat ((conv=>whnf);refine vS ?_));exact trivial) (Ref.takes [78,77,3000,5000,5001,5002,5003] rfl (.refl _))
 ·rintro ⟨aL',fL',cL',xL',aM',M',cM',f1',f2'⟩ hI
  dsimp only at hI ⊢
  obtain ⟨hM',hln⟩:=hI.its hM
  have hM2:∀ x∈M',ItOk S x:=fun y hy=>(hM' y hy).1
  have hkL:=hI.en.known
  have cf:=fun fp w hR=>zlt b bp S aL' fL'.length cL' xL' aR fR.length cR xR (tm S.E xR).key aM' cM' M' (by omega) fp w hR
  by_cases h0:xR=0
  ·subst h0
   (repeat' ((conv=>whnf);first|(refine zh [5000,5003] rfl (fun w hR h=>cf _ w h) ?_;rintro _ _ ⟨rfl,rfl⟩;refine ⟨.v _,rfl,?_⟩)|refine zg ?_|((first|apply zb|apply za|apply zc)<;>intro h<;>try (exfalso;omega))|refine pay ?_|intro _));(all_goals (conv=>whnf))
   all_goals try (exfalso;omega)
   all_goals exact ⟨⟨_,Ref.takes [78,77,3000,5000,5001,5002,5003] rfl (.refl _),_,_,_,_,_,_,_,_,_,_,_,_,_,_,⟨hI,GatR.none hM2 hE0,.inl rfl⟩,rfl,rfl⟩⟩
  obtain ⟨hE,hx⟩:=hE0.ens h0
  have hll:=hE.len
  have hro:=hE.run hw hj
  have hne:¬xR=xG M' xL'->M'=[]∨((j+1)%2=0/\zA (tm S.E (xG M' xL')).key (tm S.E xR).key ((j+1:Nat):Int)=false)∨((j+1)%2=1/\tm S.E (xG M' xL')≠tm S.E xR):=fun h=>by
   rcases yw M' with rfl|⟨M1,y,rfl⟩
   ·exact .inl rfl
   ·refine .inr (.inr ⟨hj,fun he=>h ?_⟩)
    have hy:=(hM' y (by simp)).1
    have hla:xG (M1++[y]) xL'=y.i:=by simp [xG]
    rw [hla] at he ⊢
    exact ((hw.inj_iff hy.i1 hy.i2 hE.x1 hE.x2).1 he).symm
  have cp:=fun fp w hR=>zsu b bp (pS bp) (pS bp) (.bool false) (.slice aL' fL'.length cL') (.int .i64 xL') (.int .u64 (tm S.E xL').key) (.slice aM' M'.length cM') S fR (by omega) xR (.int .u64 (tm S.E xR).key) (j+1) aR cR fp w hR
  obtain ⟨r1,r2,r3,r4,r5⟩:=hro
  obtain ⟨W,lv,kp,hD,hl,hlv⟩:=hE.drop (n:=rnN S fR ((j+1:Nat):Int)) r1 r2
  have hfin:∀ {fs':List FrI} {x':Int},DrQ S true T2 j W lv kp fs' x'->GatR S T2 j fR xR M' fs' x' (M'++[⟨xR,0,rnN S fR ((j+1:Nat):Int)⟩])/\midR j xR M' (M'++[⟨xR,0,rnN S fR ((j+1:Nat):Int)⟩]) :=
   fun hq=>⟨GatR.moved hT2 hw hM2 hE hx hl hq (hq.cl hD hlv r5) r3 (.inl hj),.inr ⟨_,rfl,r3,fun h=>by omega⟩⟩
  have hsame:rnC S fR ((j+1:Nat):Int)=false->¬xR=xG M' xL'->GatR S T2 j fR xR M' fR xR M'/\midR j xR M' M':=fun h1 h2=>⟨GatR.keep hM' hE hx (r4 h1) xL' (hne h2),.inl rfl⟩
  clear r1 r2 r4 r5
  generalize hN:rnN S fR ((j+1:Nat):Int)=N at *
  generalize hC:rnC S fR ((j+1:Nat):Int)=C at *
  have cd:=fun aM0 cM0 k0 f1 f2 fp w hR hG=>jl bp bt bs b (pS bp) (pS bp) (.bool false) (.slice aL' fL'.length cL') (.int .i64 xL') (.int .u64 (tm S.E xL').key) (.slice aM0 (M'.length+1) cM0) S hw T2 j W lv kp fR N hD xR k0 aR cR f1 f2 fp w hR hG
  have hml:(M'++[(⟨xR,0,N⟩:It)]).length=M'.length+1:=by simp
  have happ:its S M'++[Value.int .i64 xR,.int .i64 0,.int .u64 (tm S.E xR).key,.int .i64 (N:Nat)]=its S (M'++[⟨xR,0,N⟩]):=jW S M' ⟨xR,0,N⟩
  (repeat' ((conv=>whnf);first|rw [e1]|(refine zh [5000,5003] rfl (fun w hR h=>cf _ w h) ?_;rintro _ _ ⟨rfl,rfl⟩;refine ⟨.v _,rfl,?_⟩)|(refine zh [5000,5002] rfl (fun w hR h=>cp _ w h) ?_;rintro _ _ ⟨hq,rfl⟩;obtain rfl:=zrA hq;rw [hN,hC];refine ⟨.v _,rfl,?_⟩)|rw [happ]|refine ⟨.sl 5003 _ _ _,⟨rfl,rfl,rfl,rfl⟩,?_⟩|(refine zh [78,77,3000,5000,5002] rfl (fun w hR h=>cd _ _ _ _ _ _ w h (hG.castL hR)) ?_;rintro _ _ ⟨fs',x',aR',cR',g1,g2,hq,rfl,rfl⟩;refine ⟨.v _,rfl,?_⟩)|refine zg ?_|((first|apply zb|apply za|apply zc)<;>intro h<;>try (exfalso;omega))|refine pay ?_|refine And.intro (by first|exact ⟨rfl,by omega⟩|exact ⟨by omega,by unfold maxLen;omega⟩|exact ⟨by unfold maxLen;omega,by omega⟩) ?_|intro _));(all_goals (conv=>whnf))
  all_goals try (exfalso;omega)
  ·exact ⟨⟨_,Ref.takes [78,77,3000,5000,5001,5002,5003] rfl (.keep rfl (fun _ h=>h) (.keep rfl (fun _ h=>h) (.keep rfl (fun _ h=>h) (.box (by rw [hml]) (.keep rfl (fun _ h=>h) (.keep rfl (fun _ h=>h) (.own hml.symm rfl (.refl _)))))))),_,_,_,_,_,_,_,_,_,_,_,_,_,_,⟨hI,hfin hq⟩,rfl,rfl⟩⟩
  ·exact ⟨⟨_,Ref.takes [78,77,3000,5000,5001,5002,5003] rfl (.keep rfl (fun _ h=>h) (.keep rfl (fun _ h=>h) (.keep rfl (fun _ h=>h) (.box (by rw [hml]) (.keep rfl (fun _ h=>h) (.keep rfl (fun _ h=>h) (.own hml.symm rfl (.refl _)))))))),_,_,_,_,_,_,_,_,_,_,_,_,_,_,⟨hI,hfin hq⟩,rfl,rfl⟩⟩
  ·exact ⟨⟨_,Ref.takes [78,77,3000,5000,5001,5002,5003] rfl (.refl _),_,_,_,_,_,_,_,_,_,_,_,_,_,_,⟨hI,hsame (by first|assumption|simp_all) (by assumption)⟩,rfl,rfl⟩⟩
end
section
open Go.EG
structure StI (S:Sto) (T:Tm) (j:Nat) (K:Nat) (M0:List It) (fs0:List FrI) (x0:Int) (M:List It) (fs:List FrI) (x:Int):Prop where
 en:EndI S true T j fs x
 ok:∀ y∈M,ItOk S y/\(y.n=0->y.t=1)
 seq:exM S M0++zM S true j fs0 x0=exM S M++zM S true j fs x
 st:(M=M0/\fs=fs0/\x=x0)∨(Cl S (j+1) fs/\∃ y,(exM S M).getLast?=some y/\y.key=K)
theorem vd {S:Sto}:∀ {M:List It},(∀ y∈M,ItOk S y)->M.length<=(exM S M).length
 | [],_=>Nat.zero_le _
 | x :: M,h => by
   have ih:=vd (M:=M) fun y hy=>h y (g4q _ hy)
   obtain ⟨r,hr⟩:=zek (h x g5q)
   rw [yT,hr,g6q,List.length_cons,List.length_cons]
   omega
theorem StI.fin {S:Sto} {T:Tm} {j K:Nat} (hj:(j+1)%2=0) (ht:qE ((j+1:Nat):Int)=true) {M0 M:List It} {fs0 fs:List FrI} {x0 x:Int} (h:StI S T j K M0 fs0 x0 M fs x) (h0:x0≠0) (hk:(tm S.E x0).key=K) (hx:x=0∨(tm S.E x).key≠K):GatR S T j fs0 x0 M0 fs x M:=by
 rcases h.st with ⟨rfl,rfl,rfl⟩|⟨hc,y,hy,hyk⟩
 ·rcases hx with hx|hx
  ·exact absurd hx h0
  ·exact absurd hk hx
 refine ⟨h.en,hc,fun z hz=>(h.ok z hz).1,h.seq,?_⟩
 by_cases hx0:x=0
 ·subst hx0;rw [yn];exact Cut.nilR _ _
 ·have hxk:(tm S.E x).key≠K:=by
   rcases hx with hx|hx
   ·exact absurd hx hx0
   ·exact hx
  obtain ⟨hE,hxl⟩:=h.en.ens hx0
  rw [qm hx0]
  refine ziz hj fun u v hu hv=>?_
  rw [hy] at hu
  rw [zbx hxl] at hv
  simp only [g3q,List.head?_cons] at hu hv
  subst hu hv
  rw [jV ht,decide_eq_false_iff_not]
  omega
theorem StI.one {S:Sto} {T:Tm} {j K:Nat} {M0 M:List It} {fs0 fs fs':List FrI} {x0 x x':Int} (h:StI S T j K M0 fs0 x0 M fs x) (hE:EnS S true T j fs x) (hx:(tm S.E x).level<=j) (hk:(tm S.E x).key=K) {W:List Tm} {lv:Int} {kp:Prop}
 (hl:left true j (fs.map (frM S)) (tm S.E x)=ap true W (List.replicate 1 (qU j (tm S.E x))).flatten) (hq:DrQ S true T j W lv kp fs' x') (hc:Cl S (j+1) fs'):StI S T j K M0 fs0 x0 (M++[⟨x,0,1⟩]) fs' x'/\(zM S true j fs' x').length<(zM S true j fs x).length:=by
 obtain ⟨q1,q2,q3⟩:=hq.endI
 have hx1:=hE.x1
 rw [zbZ hx,zkh] at hl
 simp only [ap] at hl
 have hi:ItOk S ⟨x,0,1⟩:=⟨hE.x1,hE.x2,Int.le_refl _,by dsimp only;omega,Nat.le_refl _,fun h=>absurd rfl h⟩
 have hex:exI S ⟨x,0,1⟩=[tm S.E x]:=if_pos rfl
 have hll:zM S true j fs x=[tm S.E x]++zM S true j fs' x':=by rw [qm (by omega),hl,q2];rfl
 refine ⟨⟨q1,fun y hy=>?_,?_,.inr ⟨hc,tm S.E x,?_,hk⟩⟩,?_⟩
 ·rw [List.mem_append,List.mem_singleton] at hy
  rcases hy with hy|rfl
  ·exact h.ok y hy
  ·exact ⟨hi,fun _=>rfl⟩
 ·rw [h.seq,hll,qN,xw,hex,List.append_assoc]
 ·rw [qN,xw,hex,List.getLast?_concat]
 ·rw [hll,g6q,List.length_singleton];omega
theorem EnS.pairL {S:Sto} {T:Tm} (hw:WF S) {j:Nat} {fs:List FrI} {f:FrI} {x:Int} (h:EnS S true T j (fs++[f]) x) (h2:EnS S true T (j+1) fs f.i) (hl:(tm S.E f.i).level=((j+1:Nat):Int)) (hh:f.h=zy (tm S.E f.i)) :
 left true j ((fs++[f]).map (frM S)) (tm S.E x)=left true j (fs.map (frM S)) (tm S.E f.i):=by
 have hs:=h.sd
 rw [qQ] at hs ⊢
 have hk:=(chain_snoc.1 hs.chain).2
 have h3:=(h2.mono.sd.open (by omega)).2
 rw [←hh] at h3
 rw [←h3,←hk]
theorem StI.two {S:Sto} {T:Tm} (hw:WF S) {j K:Nat} (hj:(j+1)%2=0) (ht:qE ((j+1:Nat):Int)=true) {M0 M:List It} {fs0 fs fs':List FrI} {f:FrI} {x0 x x':Int} (h:StI S T j K M0 fs0 x0 M (fs++[f]) x) (hE:EnS S true T j (fs++[f]) x) (hE2:EnS S true T (j+1) fs f.i) (hl1:(tm S.E f.i).level=((j+1:Nat):Int)) (hh:f.h=2) (hk:(tm S.E x).key=K) {n:Nat} (hn:1<=n) {W:List Tm} {lv:Int} {kp:Prop}
 (hl:left true j (fs.map (frM S)) (tm S.E f.i)=ap true W (List.replicate n (qU j (tm S.E f.i))).flatten) (hq:DrQ S true T j W lv kp fs' x') (hc:Cl S (j+1) fs') :
 StI S T j K M0 fs0 x0 (M++[⟨(atE S.E f.i).r.a,(atE S.E f.i).r.b,n⟩]) fs' x'/\(zM S true j fs' x').length<(zM S true j (fs++[f]) x).length/\(tm S.E (atE S.E f.i).r.a).key=K:=by
 obtain ⟨q1,q2,q3⟩:=hq.endI
 have hx1:=hE.x1
 obtain ⟨a,b,hm,hwh,_,hfit,hx2,_⟩:=hE.pairF hj hl1
 have hid:=hE.ids f (by simp)
 rcases zcS hw hid.1 hid.2 with ⟨k,l,h'⟩|⟨k,h',p1,p2,p3,p4⟩|⟨k,h',_,_,h5⟩
 ·rw [h'] at hm;cases hm
 case inr.inr=>rw [h'] at hm;cases hm
 rw [h'] at hm
 simp only [Tm.pr.injEq] at hm
 obtain ⟨ha,hb⟩:=hm
 have hxa:=hx2 hh
 simp only [if_true] at hxa
 rw [jV ht,decide_eq_true_eq] at hfit
 have hka:a.key=K:=by rw [←hxa];exact hk
 have hkb:b.key=K:=by omega
 have hlv:=zle (a:=tm S.E (atE S.E f.i).r.a) (b:=tm S.E (atE S.E f.i).r.b) (by rw [←h'];omega)
 rw [←h',hl1] at hlv
 have hex2:qU j (tm S.E f.i)=[tm S.E (atE S.E f.i).r.a,tm S.E (atE S.E f.i).r.b]:=by
  rw [h',qU,if_neg (by rw [←h'];omega),zbZ (by omega),zbZ (by omega)];rfl
 have hwl:=hE.pairL hw hE2 hl1 (by rw [hwh,hh])
 rw [hex2] at hl
 simp only [ap] at hl
 have hi:ItOk S ⟨(atE S.E f.i).r.a,(atE S.E f.i).r.b,n⟩:=⟨p1,by have:=hid.2;dsimp only;omega,by dsimp only;omega,by have:=hid.2;dsimp only;omega,hn,fun _=>by dsimp only;rw [ha,hb];omega⟩
 have hex:exI S ⟨(atE S.E f.i).r.a,(atE S.E f.i).r.b,n⟩=(List.replicate n [tm S.E (atE S.E f.i).r.a,tm S.E (atE S.E f.i).r.b]).flatten:=if_neg (by dsimp only;omega)
 have hll:zM S true j (fs++[f]) x=(List.replicate n [tm S.E (atE S.E f.i).r.a,tm S.E (atE S.E f.i).r.b]).flatten++zM S true j fs' x':=by rw [qm (by omega),hwl,hl,q2]
 obtain ⟨m,rfl⟩:∃ m,n=m+1:=⟨n - 1,by omega⟩
 have hrs:(List.replicate (m+1) [tm S.E (atE S.E f.i).r.a,tm S.E (atE S.E f.i).r.b]).flatten=((List.replicate m [tm S.E (atE S.E f.i).r.a,tm S.E (atE S.E f.i).r.b]).flatten++[tm S.E (atE S.E f.i).r.a])++[tm S.E (atE S.E f.i).r.b]:=by
  rw [List.replicate_succ',List.flatten_append,List.append_assoc];rfl
 refine ⟨⟨q1,fun y hy=>?_,?_,.inr ⟨hc,tm S.E (atE S.E f.i).r.b,?_,by rw [hb];exact hkb⟩⟩,?_,by rw [ha];exact hka⟩
 ·rw [List.mem_append,List.mem_singleton] at hy
  rcases hy with hy|rfl
  ·exact h.ok y hy
  ·exact ⟨hi,fun h=>by dsimp only at h;omega⟩
 ·rw [h.seq,hll,qN,xw,hex,List.append_assoc]
 ·rw [qN,xw,hex,hrs,←List.append_assoc,List.getLast?_concat]
 ·rw [hll,hrs,g6q,g6q,List.length_singleton];omega
end
section
open Go.EG
attribute [local irreducible] z8 yN Go.Calls
set_option maxRecDepth 20000
set_option maxHeartbeats 4000000
structure StG where
 aR:Option Addr
 fR:List FrI
 cR:Nat
 xR:Int
 aM:Option Addr
 M:List It
 cM:Nat
 f1:List Nat
 f2:List Nat
theorem EnS.pairK {S:Sto} {T:Tm} (hw:WF S) {j:Nat} (hj:(j+1)%2=0) {fs:List FrI} {f:FrI} {x:Int} (h:EnS S true T j (fs++[f]) x) (hl:(tm S.E f.i).level=((j+1:Nat):Int)) (hh:f.h=2):tm S.E (atE S.E f.i).r.a=tm S.E x:=by
 obtain ⟨a,b,hm,hwh,_,hfit,hx2,_⟩:=h.pairF hj hl
 have hid:=h.ids f (by simp)
 rcases zcS hw hid.1 hid.2 with ⟨k,l,h'⟩|⟨k,h',p1,p2,p3,p4⟩|⟨k,h',_,_,h5⟩
 ·rw [h'] at hm;cases hm
 ·rw [h'] at hm
  simp only [Tm.pr.injEq] at hm
  rw [hx2 hh,hm.1];rfl
 ·rw [h'] at hm;cases hm
theorem zgp (b bp:Nat) (v0 v1 v2 v3 v4 v5 v11:Value) (S:Sto) (fs:List FrI) (hl:fs.length<=1048576) (x:Int) (k:Value) (l:Nat) (a:Option Addr) (c:Nat) (fp:List Nat) (w:World)
 (hR:R w fp [bxR b bp v0 v1 v2 v3 v4 v5 v11 a fs.length c x k,.own 5002 a fs.length c zi 8 (frs S fs)] w) :
 Calls Tryz.prog qf #[.pointer (some ⟨b,6,none⟩),.int .i64 l] w fun e w'=>∃ v L1,e=.returned v/\R w fp L1 w'/\(zvs S fs l a v/\(fs≠[]->a≠none))/\L1=[bxR b bp v0 v1 v2 v3 v4 v5 v11 a fs.length c x k,.own 5002 a fs.length c zi 8 (frs S fs)]:=by
 refine Calls.mono (vz b bp v0 v1 v2 v3 v4 v5 v11 S fs hl x k l a c fp w hR) ?_
 rintro e w' ⟨v,L1,h1,h2,h3,h4⟩
 exact ⟨v,L1,h1,h2,⟨h3,fun hne=>xZ hR (key:=5002) rfl (List.length_pos_iff.2 hne)⟩,h4⟩
def zw8 (x:It):Prop:=x.n=0->x.t=1
theorem zsB (bp bt bs b:Nat) (S:Sto) (hw:WF S) (T:Tm) (hT:Is T) (j:Nat) (hj:(j+1)%2=0) (htie:qE ((j+1:Nat):Int)=true) (hjl:j<=1000000) (aL:Option Addr) (fL:List FrI) (cL:Nat) (xL:Int) (aR:Option Addr) (fR:List FrI) (cR:Nat) (xR:Int) (aM:Option Addr) (M:List It) (cM:Nat)
 (hE0:EndI S true T j fR xR) (hM:∀ x∈M,ItOk S x/\x.n=0) (hM1:∀ x∈M,zw8 x) (hn:(exM S M++zM S true j fR xR).length<=1000000) (f1 f2 fp:List Nat) (w:World) (hR:R w fp (fP bp bt bs S f1 f2++spH b bp S aL fL cL xL aR fR cR xR aM M cM) w) (hG:qq w fp) :
 Calls Tryz.prog xo #[pS b,.int .i64 ((j+1:Nat):Int)] w fun e w'=>∃ v L1,e=.returned v/\R w fp L1 w'/\∃ aR' fR' cR' xR' aM' M' cM' g1 g2,(GatR S T j fR xR M fR' xR' M'/\∀ x∈M',zw8 x)/\v=.tuple #[]/\L1=fP bp bt bs S g1 g2++spH b bp S aL fL cL xL aR' fR' cR' xR' aM' M' cM':=by
 refine zf [.ptr 5000 b 0,.v (.int .i64 ((j+1:Nat):Int))] zbs (by simp) hR ?_
 have hsm:=hw.small
 have hMl:M.length<=1000000:=by
  have:=vd (M:=M) fun y hy=>(hM y hy).1
  rw [g6q] at hn
  omega
 by_cases h0:xR=0
 ·subst h0
  (repeat' ((conv=>whnf);first|refine zg ?_|((first|apply zb|apply za|apply zc)<;>intro h<;>try (exfalso;omega))|refine pay ?_|intro _));(all_goals (conv=>whnf))
  all_goals exact ⟨⟨_,Ref.takes [78,77,3000,5000,5001,5002,5003] rfl (.refl _),_,_,_,_,_,_,_,_,_,⟨GatR.none (fun y hy=>(hM y hy).1) hE0,hM1⟩,rfl,rfl⟩⟩
 obtain ⟨hE,hx⟩:=hE0.ens h0
 have hll:=hE.len
 have e1:((j+1:Nat):Int) - 1=(j:Int):=by omega
 have e2:((j+1:Nat):Int)+1=((j+1+1:Nat):Int):=by omega
 obtain ⟨KK,hKK⟩:∃ KK,KK=(tm S.E xR).key:=⟨_,rfl⟩
 (repeat' ((conv=>whnf);first|refine zg ?_|((first|apply zb|apply za|apply zc)<;>intro h<;>try (exfalso;omega))|refine pay ?_|intro _));(all_goals (conv=>whnf))
 all_goals try (exfalso;omega)
 refine zcw Unit (fun _=>[(0,.ptr 5000 b 0),(1,.v (.int .i64 ((j+1:Nat):Int))),(4,.v (.int .u64 KK))]) (fun _=>fP bp bt bs S f1 f2++spH b bp S aL fL cL xL aR fR cR xR aM M cM) (fun _=>True) ?_ ?_
 ·have cp:=fun fp w hR=>vz b bp (pS bp) (pS bp) (.bool false) (.slice aL fL.length cL) (.int .i64 xL) (.int .u64 (tm S.E xL).key) (.slice aM M.length cM) S fR (by omega) xR (.int .u64 (tm S.E xR).key) (j+1) aR cR fp w hR
  have hkeep:∀ (hno:Cl S (j+1) fR),(M=[]∨¬((tm S.E (xG M xL)).key:Int)=((tm S.E xR).key:Int))->GatR S T j fR xR M fR xR M:=fun hc h=>GatR.keep hM hE hx hc xL (by
   rcases h with h|h
   ·exact .inl h
   ·exact .inr (.inl ⟨hj,by rw [jV htie];exact decide_eq_false h⟩))
  (repeat' ((conv=>whnf);first|(refine zh [5000,5002] rfl (fun w hR h=>cp _ w h) ?_;rintro _ _ ⟨hp,rfl⟩)|refine zg ?_|((first|apply zb|apply za|apply zc)<;>intro h<;>try (exfalso;omega))|refine pay ?_|refine And.intro (by first|exact ⟨rfl,by omega⟩|exact ⟨by omega,by unfold maxLen;omega⟩|exact ⟨by unfold maxLen;omega,by omega⟩|exact ⟨rfl,Nat.succ_pos _⟩|exact ⟨by omega,by omega⟩) ?_|intro _));(all_goals (conv=>whnf))
  rcases hp with ⟨fs1,f,rfl,hlv',rfl⟩|⟨hno,rfl⟩
  ·have hn':(fs1++[f]).length=fs1.length+1:=by simp
   have r7:=qC S fs1 f 7
   have hane:aR≠none:=xZ hR (key:=5002) rfl (by rw [hn'];exact Nat.succ_pos _)
   obtain ⟨a0,rfl⟩:=Option.ne_none_iff_exists'.1 hane
   obtain ⟨a,b',hm,hwh,hh,hfit,hx2,hx1⟩:=hE.pairF hj hlv'
   have hfc:∀ fs2 g,fs1++[f]=fs2++[g]->g=f:=fun fs2 g e=>by
    have e1:=(List.append_inj' e rfl).2
    simp only [List.cons.injEq,and_true] at e1
    exact e1.symm
   have hcl:f.h=2->Cl S (j+1) (fs1++[f]):=fun h=>hE.cl_last fun fs2 g e _=>by rw [hfc fs2 g e,hwh,h]
   generalize hN:(fs1++[f]).length=N at *
   refine ⟨.ek 5002 (some a0) (fs1.length*8),rfl,?_⟩
   rcases yw M with rfl|⟨M1,y,rfl⟩
   ·(repeat' ((conv=>whnf);first|rw [e1]|refine zB r7 ?_|refine ⟨.sl 5003 _ _ _,⟨rfl,rfl,rfl,rfl⟩,?_⟩|refine zg ?_|((first|apply zb|apply za|apply zc)<;>intro h<;>try (exfalso;omega))|refine pay ?_|refine And.intro (by first|exact ⟨rfl,by omega⟩|exact ⟨by omega,by unfold maxLen;omega⟩|exact ⟨by unfold maxLen;omega,by omega⟩|exact ⟨rfl,Nat.succ_pos _⟩|exact ⟨by omega,by omega⟩) ?_|intro _));(all_goals (conv=>whnf))
    all_goals first|(exfalso;((try dsimp only at *);omega))|skip
    all_goals subst hN
    all_goals first|exact qh () trivial (by (repeat ((conv=>whnf);refine vS ?_));exact trivial) (Ref.takes [78,77,3000,5000,5001,5002,5003] rfl (.refl _))|exact ⟨⟨_,Ref.takes [78,77,3000,5000,5001,5002,5003] rfl (.refl _),_,_,_,_,_,_,_,_,_,⟨hkeep (hcl (by omega)) (.inl rfl),hM1⟩,rfl,rfl⟩⟩
   ·have r2:=zb8 S M1 y 2
    have e3:(((M1++[y]).length:Nat) - 1:Int).toNat=M1.length:=by simp
    have e4:0<(M1++[y]).length:=by simp
    have hla:xG (M1++[y]) xL=y.i:=by simp [xG]
    rw [hla] at hkeep
    (repeat' ((conv=>whnf);first|rw [e1]|rw [e3]|refine zB r7 ?_|refine zB r2 ?_|refine ⟨.sl 5003 _ _ _,⟨rfl,rfl,rfl,rfl⟩,?_⟩|refine zg ?_|((first|apply zb|apply za|apply zc)<;>intro h<;>try (exfalso;omega))|refine pay ?_|refine And.intro (by first|exact ⟨rfl,by omega⟩|exact ⟨by omega,by unfold maxLen;omega⟩|exact ⟨by unfold maxLen;omega,by omega⟩|exact ⟨rfl,Nat.succ_pos _⟩|exact ⟨by omega,by omega⟩) ?_|intro _));(all_goals (conv=>whnf))
    all_goals first|(exfalso;((try dsimp only at *);omega))|skip
    all_goals subst hN
    all_goals first|exact qh () trivial (by (repeat ((conv=>whnf);refine vS ?_));exact trivial) (Ref.takes [78,77,3000,5000,5001,5002,5003] rfl (.refl _))|exact ⟨⟨_,Ref.takes [78,77,3000,5000,5001,5002,5003] rfl (.refl _),_,_,_,_,_,_,_,_,_,⟨hkeep (hcl (by omega)) (.inr (by omega)),hM1⟩,rfl,rfl⟩⟩
  ·refine ⟨.v (.pointer none),rfl,?_⟩
   rcases yw M with rfl|⟨M1,y,rfl⟩
   ·(repeat' ((conv=>whnf);first|rw [e1]|refine ⟨.sl 5003 _ _ _,⟨rfl,rfl,rfl,rfl⟩,?_⟩|refine zg ?_|((first|apply zb|apply za|apply zc)<;>intro h<;>try (exfalso;omega))|refine pay ?_|refine And.intro (by first|exact ⟨rfl,by omega⟩|exact ⟨by omega,by unfold maxLen;omega⟩|exact ⟨by unfold maxLen;omega,by omega⟩|exact ⟨rfl,Nat.succ_pos _⟩|exact ⟨by omega,by omega⟩) ?_|intro _));(all_goals (conv=>whnf))
    all_goals first|(exfalso;((try dsimp only at *);omega))|skip
    all_goals first|exact qh () trivial (by (repeat ((conv=>whnf);refine vS ?_));exact trivial) (Ref.takes [78,77,3000,5000,5001,5002,5003] rfl (.refl _))|exact ⟨⟨_,Ref.takes [78,77,3000,5000,5001,5002,5003] rfl (.refl _),_,_,_,_,_,_,_,_,_,⟨hkeep (hE.cl_last fun fs2 g e h=>absurd h (hno fs2 g e)) (.inl rfl),hM1⟩,rfl,rfl⟩⟩
   ·have r2:=zb8 S M1 y 2
    have e3:(((M1++[y]).length:Nat) - 1:Int).toNat=M1.length:=by simp
    have e4:0<(M1++[y]).length:=by simp
    have hla:xG (M1++[y]) xL=y.i:=by simp [xG]
    rw [hla] at hkeep
    (repeat' ((conv=>whnf);first|rw [e1]|rw [e3]|refine zB r2 ?_|refine ⟨.sl 5003 _ _ _,⟨rfl,rfl,rfl,rfl⟩,?_⟩|refine zg ?_|((first|apply zb|apply za|apply zc)<;>intro h<;>try (exfalso;omega))|refine pay ?_|refine And.intro (by first|exact ⟨rfl,by omega⟩|exact ⟨by omega,by unfold maxLen;omega⟩|exact ⟨by unfold maxLen;omega,by omega⟩|exact ⟨rfl,Nat.succ_pos _⟩|exact ⟨by omega,by omega⟩) ?_|intro _));(all_goals (conv=>whnf))
    all_goals first|(exfalso;((try dsimp only at *);omega))|skip
    all_goals first|exact qh () trivial (by (repeat ((conv=>whnf);refine vS ?_));exact trivial) (Ref.takes [78,77,3000,5000,5001,5002,5003] rfl (.refl _))|exact ⟨⟨_,Ref.takes [78,77,3000,5000,5001,5002,5003] rfl (.refl _),_,_,_,_,_,_,_,_,_,⟨hkeep (hE.cl_last fun fs2 g e h=>absurd h (hno fs2 g e)) (.inr (by omega)),hM1⟩,rfl,rfl⟩⟩
 ·rintro - -
  clear hR hE hx hll
  (repeat' ((conv=>whnf);first|((first|apply zb|apply za|apply zc)<;>intro h<;>try (exfalso;omega))|refine pay ?_|intro _));(all_goals (conv=>whnf))
  refine zP StG (fun y=>[(0,.ptr 5000 b 0),(1,.v (.int .i64 ((j+1:Nat):Int))),(4,.v (.int .u64 KK))])
   (fun y=>fP bp bt bs S y.f1 y.f2++spH b bp S aL fL cL xL y.aR y.fR y.cR y.xR y.aM y.M y.cM) (fun y=>StI S T j KK M fR xR y.M y.fR y.xR) (fun y=>(zM S true j y.fR y.xR).length)
   ⟨aR,fR,cR,xR,aM,M,cM,f1,f2⟩ ⟨hE0,fun y hy=>⟨(hM y hy).1,hM1 y hy⟩,rfl,.inl ⟨rfl,rfl,rfl⟩⟩ (by (repeat ((conv=>whnf);refine vS ?_));exact trivial) (Ref.takes [78,77,3000,5000,5001,5002,5003] rfl (.refl _)) ?_
  rintro ⟨a1,fs,c1,x,aM1,Mc,cM1,g1,g2⟩ hI
  dsimp only at hI ⊢
  have hml:Mc.length<=1000000:=by
   have h1:=vd (M:=Mc) fun y hy=>(hI.ok y hy).1
   rw [hI.seq,g6q] at hn
   omega
  by_cases hx0:x=0
  ·subst hx0
   (repeat' ((conv=>whnf);first|refine zg ?_|((first|apply zb|apply za|apply zc)<;>intro h<;>try (exfalso;omega))|refine pay ?_|intro _));(all_goals (conv=>whnf))
   all_goals try (exfalso;omega)
   all_goals exact ⟨⟨_,Ref.takes [78,77,3000,5000,5001,5002,5003] rfl (.refl _),_,_,_,_,_,_,_,_,_,⟨hI.fin hj htie h0 hKK.symm (.inl rfl),fun y hy=>(hI.ok y hy).2⟩,rfl,rfl⟩⟩
  obtain ⟨hE,hx⟩:=hI.en.ens hx0
  have hll:=hE.len
  by_cases hk:(tm S.E x).key=KK
  case neg =>
   (repeat' ((conv=>whnf);first|refine zg ?_|((first|apply zb|apply za|apply zc)<;>intro h<;>try (exfalso;omega))|refine pay ?_|intro _));(all_goals (conv=>whnf))
   all_goals try (exfalso;omega)
   all_goals exact ⟨⟨_,Ref.takes [78,77,3000,5000,5001,5002,5003] rfl (.refl _),_,_,_,_,_,_,_,_,_,⟨hI.fin hj htie h0 hKK.symm (.inr hk),fun y hy=>(hI.ok y hy).2⟩,rfl,rfl⟩⟩
  have cp:=fun fp w hR=>zgp b bp (pS bp) (pS bp) (.bool false) (.slice aL fL.length cL) (.int .i64 xL) (.int .u64 (tm S.E xL).key) (.slice aM1 Mc.length cM1) S fs (by omega) x (.int .u64 (tm S.E x).key) (j+1) a1 c1 fp w hR
  (repeat' ((conv=>whnf);first|(refine zh [5000,5002] rfl (fun w hR h=>cp _ w h) ?_;rintro _ _ ⟨⟨hp,hane⟩,rfl⟩)|refine zg ?_|((first|apply zb|apply za|apply zc)<;>intro h<;>try (exfalso;omega))|refine pay ?_|refine And.intro (by first|exact ⟨rfl,by omega⟩|exact ⟨by omega,by unfold maxLen;omega⟩|exact ⟨by unfold maxLen;omega,by omega⟩|exact ⟨rfl,Nat.succ_pos _⟩|exact ⟨by omega,by omega⟩) ?_|intro _));(all_goals (conv=>whnf))
  all_goals try (exfalso;omega)
  have hone:∀ (h1:∀ fs1 f,fs=fs1++[f]->((j+1:Nat):Int)<(tm S.E f.i).level∨(((j+1:Nat):Int)<=(tm S.E f.i).level/\f.h<=1)),∃ W lv kp,DrI S true T j W lv kp fs 1/\∀ fs' x',DrQ S true T j W lv kp fs' x'->StI S T j KK M fR xR (Mc++[⟨x,0,1⟩]) fs' x'/\(zM S true j fs' x').length<(zM S true j fs x).length:=fun h1=>by
   obtain ⟨W,lv,kp,hD,hl,hlv⟩:=hE.drop (n:=1) (fun _=>rfl) (fun fs1 f e=>by subst e;exact hE.okN1)
   exact ⟨W,lv,kp,hD,fun fs' x' hq=>hI.one hE hx hk hl hq (hq.cl hD hlv h1)⟩
  have hml1:(Mc++[(⟨x,0,1⟩:It)]).length=Mc.length+1:=by simp
  have happ:its S Mc++[Value.int .i64 x,.int .i64 0,.int .u64 KK,.int .i64 1]=its S (Mc++[⟨x,0,1⟩]):=by
   rw [←jW,itC,hk];rfl
  rcases hp with ⟨fs1,f,rfl,hlv',rfl⟩|⟨hno,rfl⟩
  ·have hn':(fs1++[f]).length=fs1.length+1:=by simp
   have r7:=qC S fs1 f 7
   have r3:=qC S fs1 f 3
   have r4:=qC S fs1 f 4
   obtain ⟨a0,rfl⟩:=Option.ne_none_iff_exists'.1 (hane (by simp))
   clear hane
   obtain ⟨a,b',hm,hwh,hh,_⟩:=hE.pairF hj hlv'
   have hfc:∀ fs2 g,fs1++[f]=fs2++[g]->g=f:=fun fs2 g e=>by
    have e1:=(List.append_inj' e rfl).2
    simp only [List.cons.injEq,and_true] at e1
    exact e1.symm
   refine ⟨.ek 5002 (some a0) (fs1.length*8),rfl,?_⟩
   by_cases hh2:f.h=2
   ·clear hone
    have hcl:Cl S (j+1) (fs1++[f]):=hE.cl_last fun fs2 g e _=>by rw [hfc fs2 g e,hwh,hh2]
    have hE2:=(EnS.up (k:=.nilIface) hw hT hE hx hlv' (by rw [hwh];omega)).1
    have hro:=hE2.run hw (by omega)
    have hll2:=hE2.len
    have hka:=hE.pairK hw hj hlv' hh2
    obtain ⟨W,lv,kp,hD,hl,hlv⟩:=hE2.mono.drop (n:=rnN S fs1 ((j+1+1:Nat):Int)) hro.one hro.ok
    have hfin:∀ fs' x',DrQ S true T j W lv kp fs' x'->StI S T j KK M fR xR (Mc++[⟨(atE S.E f.i).r.a,(atE S.E f.i).r.b,rnN S fs1 ((j+1+1:Nat):Int)⟩]) fs' x'/\(zM S true j fs' x').length<(zM S true j (fs1++[f]) x).length:=fun fs' x' hq=>by
     have:=hI.two hw hj htie hE hE2 hlv' hh2 hk hro.pos hl hq (hq.cl hD hlv fun fs2 g e=>.inl (by subst e;have h1:=hE2.above.1;omega))
     exact ⟨this.1,this.2.1⟩
    have cu:=fun k0 f1 f2 fp w hR hG=>zm7 bp bt bs b (pS bp) (pS bp) (.bool false) (.slice aL fL.length cL) (.int .i64 xL) (.int .u64 (tm S.E xL).key) (.slice aM1 Mc.length cM1) S hw T hT j (fs1++[f]) x hE hx hcl k0 (some a0) c1 f1 f2 fp w hR hG
    have cp2:=fun fp w hR=>zgp b bp (pS bp) (pS bp) (.bool false) (.slice aL fL.length cL) (.int .i64 xL) (.int .u64 (tm S.E xL).key) (.slice aM1 Mc.length cM1) S fs1 (by omega) f.i (.int .u64 (tm S.E f.i).key) (j+1+1) (some a0) c1 fp w hR
    have hml2:∀ n,(Mc++[(⟨(atE S.E f.i).r.a,(atE S.E f.i).r.b,n⟩:It)]).length=Mc.length+1:=by simp
    have happ2:∀ n:Nat,its S Mc++[Value.int .i64 (atE S.E f.i).r.a,.int .i64 (atE S.E f.i).r.b,.int .u64 KK,.int .i64 n]=its S (Mc++[⟨(atE S.E f.i).r.a,(atE S.E f.i).r.b,n⟩]):=fun n=>by
     rw [←jW,itC,hka,hk]
    generalize hN:(fs1++[f]).length=N at *
    (repeat' ((conv=>whnf);first|rw [e1]|rw [e2]|refine zB r7 ?_|refine zB r3 ?_|refine zB r4 ?_|(refine zh [78,77,3000,5000,5002] rfl (fun w hR h=>cu _ _ _ _ w h (hG.castL hR)) ?_;rintro _ _ ⟨fs',x',k',q1,q2,hU,rfl,rfl⟩;obtain ⟨rfl,rfl⟩:=hU.2.2.2.2 fs1 f rfl hlv';obtain rfl:=hU.2.2.2.1 rfl;refine ⟨.v _,rfl,?_⟩)|(refine zh [5000,5002] rfl (fun w hR h=>cp2 _ w h) ?_;rintro _ _ ⟨⟨hp2,_⟩,rfl⟩)|refine zg ?_|((first|apply zb|apply za|apply zc)<;>intro h<;>try (exfalso;omega))|refine pay ?_|refine And.intro (by first|exact ⟨rfl,by omega⟩|exact ⟨by omega,by unfold maxLen;omega⟩|exact ⟨by unfold maxLen;omega,by omega⟩|exact ⟨rfl,Nat.succ_pos _⟩|exact ⟨by omega,by omega⟩) ?_|intro _));(all_goals (conv=>whnf))
    all_goals first|(exfalso;((try dsimp only at *);omega))|skip
    rcases hp2 with ⟨fs2,g,rfl,hlg,rfl⟩|⟨hno2,rfl⟩
    ·have hnn:rnN S (fs2++[g]) ((j+1+1:Nat):Int)=g.h:=by rw [uS,if_pos hlg]
     rw [hnn] at hD hfin
     have r8:=qC S fs2 g 7
     have hml1:=hml2 g.h
     have happ:=happ2 g.h
     have cd:=fun aM0 cM0 k0 f1 f2 fp w hR hG=>jl bp bt bs b (pS bp) (pS bp) (.bool false) (.slice aL fL.length cL) (.int .i64 xL) (.int .u64 (tm S.E xL).key) (.slice aM0 (Mc.length+1) cM0) S hw T j W lv kp (fs2++[g]) g.h hD f.i k0 (some a0) c1 f1 f2 fp w hR hG
     have hn2:(fs2++[g]).length=fs2.length+1:=by simp
     generalize hN2:(fs2++[g]).length=N2 at *
     refine ⟨.ek 5002 (some a0) (fs2.length*8),rfl,?_⟩
     (repeat' ((conv=>whnf);first|rw [e1]|refine zB r8 ?_|rw [happ]|refine ⟨.sl 5003 _ _ _,⟨rfl,rfl,rfl,rfl⟩,?_⟩|(refine zh [78,77,3000,5000,5002] rfl (fun w hR h=>cd _ _ _ _ _ _ w h (hG.castL hR)) ?_;rintro _ _ ⟨fs',x',aR',cR',g1',g2',hq,rfl,rfl⟩;refine ⟨.v _,rfl,?_⟩)|refine zg ?_|((first|apply zb|apply za|apply zc)<;>intro h<;>try (exfalso;omega))|refine pay ?_|refine And.intro (by first|exact ⟨rfl,by omega⟩|exact ⟨by omega,by unfold maxLen;omega⟩|exact ⟨by unfold maxLen;omega,by omega⟩|exact ⟨rfl,Nat.succ_pos _⟩|exact ⟨by omega,by omega⟩) ?_|intro _));(all_goals (conv=>whnf))
     all_goals first|(exfalso;((try dsimp only at *);omega))|skip
     all_goals exact zm (⟨_,_,_,_,_,_,_,_,_⟩:StG) (hfin _ _ hq).1 (hfin _ _ hq).2 (by (repeat ((conv=>whnf);refine vS ?_));exact trivial) (Ref.takes [78,77,3000,5000,5001,5002,5003] rfl (.keep rfl (fun _ h=>h) (.keep rfl (fun _ h=>h) (.keep rfl (fun _ h=>h) (.box (by rw [hml1]) (.keep rfl (fun _ h=>h) (.keep rfl (fun _ h=>h) (.own hml1.symm rfl (.refl _)))))))))
    ·have hnn:rnN S fs' ((j+1+1:Nat):Int)=1:=by
      rcases yw fs' with rfl|⟨fs2,g,rfl⟩
      ·rfl
      ·rw [uS,if_neg (hno2 fs2 g rfl)]
     rw [hnn] at hD hfin
     have hml1:=hml2 1
     have happ:its S Mc++[Value.int .i64 (atE S.E f.i).r.a,.int .i64 (atE S.E f.i).r.b,.int .u64 KK,.int .i64 1]=its S (Mc++[⟨(atE S.E f.i).r.a,(atE S.E f.i).r.b,1⟩]):=happ2 1
     have cd:=fun aM0 cM0 k0 f1 f2 fp w hR hG=>jl bp bt bs b (pS bp) (pS bp) (.bool false) (.slice aL fL.length cL) (.int .i64 xL) (.int .u64 (tm S.E xL).key) (.slice aM0 (Mc.length+1) cM0) S hw T j W lv kp fs' 1 hD f.i k0 (some a0) c1 f1 f2 fp w hR hG
     refine ⟨.v (.pointer none),rfl,?_⟩
     (repeat' ((conv=>whnf);first|rw [e1]|rw [happ]|refine ⟨.sl 5003 _ _ _,⟨rfl,rfl,rfl,rfl⟩,?_⟩|(refine zh [78,77,3000,5000,5002] rfl (fun w hR h=>cd _ _ _ _ _ _ w h (hG.castL hR)) ?_;rintro _ _ ⟨fs3,x',aR',cR',g1',g2',hq,rfl,rfl⟩;refine ⟨.v _,rfl,?_⟩)|refine zg ?_|((first|apply zb|apply za|apply zc)<;>intro h<;>try (exfalso;omega))|refine pay ?_|refine And.intro (by first|exact ⟨rfl,by omega⟩|exact ⟨by omega,by unfold maxLen;omega⟩|exact ⟨by unfold maxLen;omega,by omega⟩|exact ⟨rfl,Nat.succ_pos _⟩|exact ⟨by omega,by omega⟩) ?_|intro _));(all_goals (conv=>whnf))
     all_goals first|(exfalso;((try dsimp only at *);omega))|skip
     all_goals exact zm (⟨_,_,_,_,_,_,_,_,_⟩:StG) (hfin _ _ hq).1 (hfin _ _ hq).2 (by (repeat ((conv=>whnf);refine vS ?_));exact trivial) (Ref.takes [78,77,3000,5000,5001,5002,5003] rfl (.keep rfl (fun _ h=>h) (.keep rfl (fun _ h=>h) (.keep rfl (fun _ h=>h) (.box (by rw [hml1]) (.keep rfl (fun _ h=>h) (.keep rfl (fun _ h=>h) (.own hml1.symm rfl (.refl _)))))))))
   ·obtain ⟨W,lv,kp,hD,hone⟩:=hone fun fs2 g e=>.inr (by rw [hfc fs2 g e];exact ⟨by omega,by omega⟩)
    have cd:=fun aM0 cM0 k0 f1 f2 fp w hR hG=>jl bp bt bs b (pS bp) (pS bp) (.bool false) (.slice aL fL.length cL) (.int .i64 xL) (.int .u64 (tm S.E xL).key) (.slice aM0 (Mc.length+1) cM0) S hw T j W lv kp (fs1++[f]) 1 hD x k0 (some a0) c1 f1 f2 fp w hR hG
    generalize hN:(fs1++[f]).length=N at *
    (repeat' ((conv=>whnf);first|rw [e1]|refine zB r7 ?_|rw [happ]|refine ⟨.sl 5003 _ _ _,⟨rfl,rfl,rfl,rfl⟩,?_⟩|(refine zh [78,77,3000,5000,5002] rfl (fun w hR h=>cd _ _ _ _ _ _ w h (hG.castL hR)) ?_;rintro _ _ ⟨fs',x',aR',cR',g1',g2',hq,rfl,rfl⟩;refine ⟨.v _,rfl,?_⟩)|refine zg ?_|((first|apply zb|apply za|apply zc)<;>intro h<;>try (exfalso;omega))|refine pay ?_|refine And.intro (by first|exact ⟨rfl,by omega⟩|exact ⟨by omega,by unfold maxLen;omega⟩|exact ⟨by unfold maxLen;omega,by omega⟩|exact ⟨rfl,Nat.succ_pos _⟩|exact ⟨by omega,by omega⟩) ?_|intro _));(all_goals (conv=>whnf))
    all_goals first|(exfalso;((try dsimp only at *);omega))|skip
    all_goals exact zm (⟨_,_,_,_,_,_,_,_,_⟩:StG) (hone _ _ hq).1 (hone _ _ hq).2 (by (repeat ((conv=>whnf);refine vS ?_));exact trivial) (Ref.takes [78,77,3000,5000,5001,5002,5003] rfl (.keep rfl (fun _ h=>h) (.keep rfl (fun _ h=>h) (.keep rfl (fun _ h=>h) (.box (by rw [hml1]) (.keep rfl (fun _ h=>h) (.keep rfl (fun _ h=>h) (.own hml1.symm rfl (.refl _)))))))))
  ·refine ⟨.v (.pointer none),rfl,?_⟩
   obtain ⟨W,lv,kp,hD,hone⟩:=hone fun fs1 f e=>.inl (by subst e;have h1:=hE.above.1;have h2:=hno fs1 f rfl;omega)
   have cd:=fun aM0 cM0 k0 f1 f2 fp w hR hG=>jl bp bt bs b (pS bp) (pS bp) (.bool false) (.slice aL fL.length cL) (.int .i64 xL) (.int .u64 (tm S.E xL).key) (.slice aM0 (Mc.length+1) cM0) S hw T j W lv kp fs 1 hD x k0 a1 c1 f1 f2 fp w hR hG
   (repeat' ((conv=>whnf);first|rw [e1]|rw [happ]|refine ⟨.sl 5003 _ _ _,⟨rfl,rfl,rfl,rfl⟩,?_⟩|(refine zh [78,77,3000,5000,5002] rfl (fun w hR h=>cd _ _ _ _ _ _ w h (hG.castL hR)) ?_;rintro _ _ ⟨fs',x',aR',cR',g1',g2',hq,rfl,rfl⟩;refine ⟨.v _,rfl,?_⟩)|refine zg ?_|((first|apply zb|apply za|apply zc)<;>intro h<;>try (exfalso;omega))|refine pay ?_|refine And.intro (by first|exact ⟨rfl,by omega⟩|exact ⟨by omega,by unfold maxLen;omega⟩|exact ⟨by unfold maxLen;omega,by omega⟩|exact ⟨rfl,Nat.succ_pos _⟩|exact ⟨by omega,by omega⟩) ?_|intro _));(all_goals (conv=>whnf))
   all_goals first|(exfalso;((try dsimp only at *);omega))|skip
   all_goals exact zm (⟨_,_,_,_,_,_,_,_,_⟩:StG) (hone _ _ hq).1 (hone _ _ hq).2 (by (repeat ((conv=>whnf);refine vS ?_));exact trivial) (Ref.takes [78,77,3000,5000,5001,5002,5003] rfl (.keep rfl (fun _ h=>h) (.keep rfl (fun _ h=>h) (.keep rfl (fun _ h=>h) (.box (by rw [hml1]) (.keep rfl (fun _ h=>h) (.keep rfl (fun _ h=>h) (.own hml1.symm rfl (.refl _)))))))))
def itL (l:Nat) (x:It):Prop:=if l%2=1 then x.n=0 else if qE (l:Int)=true then (x.n=0->x.t=1) else x.n=0/\x.t=1
structure GatQ (S:Sto) (T T2:Tm) (j:Nat) (fL:List FrI) (xL:Int) (M:List It) (fR:List FrI) (xR:Int) (fL':List FrI) (xL':Int) (M':List It) (fR':List FrI) (xR':Int):Prop where
 enL:EndI S false T j fL' xL'
 clL:Cl S (j+1) fL'
 enR:EndI S true T2 j fR' xR'
 clR:Cl S (j+1) fR'
 ok:∀ y∈M',ItOk S y/\itL (j+1) y
 seq:zM S false j fL xL++(exM S M++zM S true j fR xR)=zM S false j fL' xL'++(exM S M'++zM S true j fR' xR')
 step:zG (j+1) (zM S false j fL xL++(exM S M++zM S true j fR xR))=zG (j+1) (zM S false j fL' xL')++(zG (j+1) (exM S M')++zG (j+1) (zM S true j fR' xR'))
theorem GatQ.of {S:Sto} {T T2:Tm} {j:Nat} {fL:List FrI} {xL:Int} {M:List It} {fR:List FrI} {xR:Int} {fL':List FrI} {xL':Int} {M1 M':List It} {fR':List FrI} {xR':Int} (hE0:EndI S true T2 j fR xR) (h1:GatL S T j fL xL M xR fL' xL' M1) (h2:GatR S T2 j fR xR M1 fR' xR' M') (h3:∀ y∈M',itL (j+1) y):GatQ S T T2 j fL xL M fR xR fL' xL' M' fR' xR':=by
 have hs:zM S false j fL xL++(exM S M++zM S true j fR xR)=zM S false j fL' xL'++(exM S M'++zM S true j fR' xR'):=by
  rw [←List.append_assoc,h1.seq,List.append_assoc,h2.seq]
 refine ⟨h1.en,h1.cl,h2.en,h2.cl,fun y hy=>⟨h2.ok y hy,h3 y hy⟩,hs,?_⟩
 have c1:=h1.cut (zM S true j fR xR) (zvx hE0)
 rw [h2.seq] at c1
 have c2:=h2.cut
 unfold Cut at c1 c2
 rw [hs,c1,c2]
theorem midR.its {j:Nat} {xR:Int} {M M':List It} (h:midR j xR M M') (hM:∀ y∈M,y.n=0/\((j+1)%2=0->y.t=1)):∀ y∈M',y.n=0/\((j+1)%2=0->y.t=1):=by
 rcases h with rfl|⟨t,rfl,h1,h2⟩
 ·exact hM
 ·intro y hy
  rw [List.mem_append,List.mem_singleton] at hy
  rcases hy with hy|rfl
  ·exact hM y hy
  ·exact ⟨rfl,h2⟩
theorem GatL.its2 {S:Sto} {T:Tm} {j:Nat} {fs fs':List FrI} {x x':Int} {M M':List It} {xR:Int} (h:GatL S T j fs x M xR fs' x' M') (hM:∀ y∈M,y.n=0/\((j+1)%2=0->y.t=1)):∀ y∈M',y.n=0/\((j+1)%2=0->y.t=1):=by
 rcases h.mid with rfl|⟨t,rfl,hi,h2⟩
 ·exact hM
 ·intro y hy
  rcases List.mem_cons.1 hy with rfl|hy
  ·exact ⟨rfl,h2⟩
  ·exact hM y hy
theorem zpJ (bp bt bs b:Nat) (S:Sto) (hw:WF S) (T T2:Tm) (hT:Is T) (hT2:Is T2) (j:Nat) (hjl:j<=1000000) (aL:Option Addr) (fL:List FrI) (cL:Nat) (xL:Int) (aR:Option Addr) (fR:List FrI) (cR:Nat) (xR:Int) (aM:Option Addr) (M:List It) (cM:Nat)
 (hL:EndI S false T j fL xL) (hE0:EndI S true T2 j fR xR) (hM:∀ x∈M,ItOk S x) (hM1:∀ y∈M,y.n=0/\((j+1)%2=0->y.t=1)) (hn:(zM S false j fL xL++(exM S M++zM S true j fR xR)).length<=999999) (f1 f2 fp:List Nat) (w:World) (hR:R w fp (fP bp bt bs S f1 f2++spH b bp S aL fL cL xL aR fR cR xR aM M cM) w) (hG:qq w fp) :
 Calls Tryz.prog vx #[pS b,.int .i64 ((j+1:Nat):Int)] w fun e w'=>∃ v L1,e=.returned v/\R w fp L1 w'/\∃ aL' fL' cL' xL' aR' fR' cR' xR' aM' M' cM' g1 g2,GatQ S T T2 j fL xL M fR xR fL' xL' M' fR' xR'/\v=.tuple #[]/\L1=fP bp bt bs S g1 g2++spH b bp S aL' fL' cL' xL' aR' fR' cR' xR' aM' M' cM':=by
 refine zf [.ptr 5000 b 0,.v (.int .i64 ((j+1:Nat):Int))] zeB (by simp) hR ?_
 have hMn:∀ x∈M,ItOk S x/\x.n=0:=fun y hy=>⟨hM y hy,(hM1 y hy).1⟩
 have hMl:M.length<=999999:=by
  have:=vd (M:=M) hM
  rw [g6q,g6q] at hn
  omega
 have cn:=fun w=>zhx ((j+1:Nat):Int) w (by omega)
 by_cases hj:(j+1)%2=1
 ·have hji:((j+1:Nat):Int)%2=1:=by omega
  have cg:=fun f1 f2 fp w hR hG=>zsA bp bt bs b S hw T T2 hT hT2 j hj hjl aL fL cL xL aR fR cR xR aM M cM hL hE0 hMn hMl f1 f2 fp w hR hG
  (repeat' ((conv=>whnf);first|(refine zh [78,77,3000,5000,5001,5002,5003] rfl (fun w hR h=>cg _ _ _ w h (hG.castL hR)) ?_;rintro _ _ ⟨aL',fL',cL',xL',aR',fR',cR',xR',M1,aM',M',cM',g1,g2,⟨h1,h2,h3⟩,rfl,rfl⟩;refine ⟨.v _,rfl,?_⟩)|refine zg ?_|((first|apply zb|apply za|apply zc)<;>intro h<;>try (exfalso;omega))|refine pay ?_|intro _));(all_goals (conv=>whnf))
  all_goals try (exfalso;omega)
  have h4:=h3.its (h1.its2 hM1)
  exact ⟨⟨_,Ref.takes [78,77,3000,5000,5001,5002,5003] rfl (.refl _),_,_,_,_,_,_,_,_,_,_,_,_,_,GatQ.of hE0 h1 h2 (fun y hy=>by unfold itL;rw [if_pos hj];exact (h4 y hy).1),rfl,rfl⟩⟩
 have hj0:(j+1)%2=0:=by omega
 have cg:=fun f1 f2 fp w hR hG=>zsy bp bt bs b S hw T hT j hj0 hjl aL fL cL xL aR fR cR xR aM M cM hL hM (by omega) f1 f2 fp w hR hG
 (repeat' ((conv=>whnf);first|(first|refine puK cn ?_|refine quK cn ?_)|(refine zh [78,77,3000,5000,5001,5002,5003] rfl (fun w hR h=>cg _ _ _ w h (hG.castL hR)) ?_;rintro _ _ ⟨aL',fL',cL',xL',aM',M',cM',g1,g2,h1,rfl,rfl⟩;refine ⟨.v _,rfl,?_⟩)|refine zg ?_|((first|apply zb|apply za|apply zc)<;>intro h<;>try (exfalso;omega))|refine pay ?_|intro _));(all_goals (conv=>whnf))
 all_goals try (exfalso;omega)
 all_goals
  obtain ⟨h2,h3⟩:=h1.its hMn
  have h4:=h1.its2 hM1
  have hlen:(exM S M'++zM S true j fR xR).length<=999999:=by
   have e:=congrArg List.length h1.seq
   simp only [g6q] at e hn ⊢
   omega
 ·have ht:qE ((j+1:Nat):Int)=true:=by assumption
  have cs:=fun f1 f2 fp w hR hG=>zsB bp bt bs b S hw T2 hT2 j hj0 ht hjl aL' fL' cL' xL' aR fR cR xR aM' M' cM' hE0 h2 (fun y hy _=>(h4 y hy).2 hj0) (by omega) f1 f2 fp w hR hG
  (repeat' ((conv=>whnf);first|(refine zh [78,77,3000,5000,5001,5002,5003] rfl (fun w hR h=>cs _ _ _ w h (hG.castL hR)) ?_;rintro _ _ ⟨aR',fR',cR',xR',aM2,M2,cM2,g3,g4,⟨h5,h6⟩,rfl,rfl⟩;refine ⟨.v _,rfl,?_⟩)|refine zg ?_|((first|apply zb|apply za|apply zc)<;>intro h<;>try (exfalso;omega))|refine pay ?_|intro _));(all_goals (conv=>whnf))
  exact ⟨⟨_,Ref.takes [78,77,3000,5000,5001,5002,5003] rfl (.refl _),_,_,_,_,_,_,_,_,_,_,_,_,_,GatQ.of hE0 h1 h5 (fun y hy=>by unfold itL;rw [if_neg hj,if_pos ht];exact h6 y hy),rfl,rfl⟩⟩
 ·have ht:qE ((j+1:Nat):Int)=false:=by assumption
  have cr:=fun f1 f2 fp w hR hG=>zsz bp bt bs b S hw T2 hT2 j hj0 ht hjl aL' fL' cL' xL' aR fR cR xR aM' M' cM' hE0 h2 (by omega) f1 f2 fp w hR hG
  (repeat' ((conv=>whnf);first|(refine zh [78,77,3000,5000,5001,5002,5003] rfl (fun w hR h=>cr _ _ _ w h (hG.castL hR)) ?_;rintro _ _ ⟨aR',fR',cR',xR',aM2,M2,cM2,g3,g4,⟨h5,h6⟩,rfl,rfl⟩;refine ⟨.v _,rfl,?_⟩)|refine zg ?_|((first|apply zb|apply za|apply zc)<;>intro h<;>try (exfalso;omega))|refine pay ?_|intro _));(all_goals (conv=>whnf))
  have h7:=h6.its h4
  exact ⟨⟨_,Ref.takes [78,77,3000,5000,5001,5002,5003] rfl (.refl _),_,_,_,_,_,_,_,_,_,_,_,_,_,GatQ.of hE0 h1 h5 (fun y hy=>by unfold itL;rw [if_neg hj,if_neg (by rw [ht];decide)];exact ⟨(h7 y hy).1,(h7 y hy).2 hj0⟩),rfl,rfl⟩⟩
def zxJ (S:Sto) (l:List It) (v:Value) (L1:List Ent):Prop:=∃ a c,v=.slice a l.length c/\L1=[.own 5010 a l.length c zj 4 (its S l)]
theorem zby (S:Sto) (l:List It) (a:Option Addr) (c:Nat) (i:Int) (t:Nat) (hl:l.length<=1000000) (hk:∀ y∈l,y.t<=2305843009213693952) (ht:t<=2305843009213693952) (fp:List Nat) (w:World)
 (hR:R w fp [.own 5010 a l.length c zj 4 (its S l)] w) :
 Calls Tryz.prog vn #[.slice a l.length c,.agg #[.int .i64 i,.int .i64 0,.int .u64 (tm S.E i).key,.int .i64 (t:Nat)]] w fun e w'=>∃ v L1,e=.returned v/\R w fp L1 w'/\zxJ S (yO l i t) v L1:=by
 refine zf [.sl 5010 a l.length c,.v (.agg #[.int .i64 i,.int .i64 0,.int .u64 (tm S.E i).key,.int .i64 (t:Nat)])] zpu (by simp) hR ?_
 have hml:∀ l':List It,(l'++[(⟨i,0,t⟩:It)]).length=l'.length+1:=by simp
 have happ:∀ l':List It,its S l'++[Value.int .i64 i,.int .i64 0,.int .u64 (tm S.E i).key,.int .i64 (t:Nat)]=its S (l'++[⟨i,0,t⟩]):=fun l'=>jW S l' ⟨i,0,t⟩
 rcases yw l with rfl|⟨l1,y,rfl⟩
 ·have hp:yO [] i t=[⟨i,0,t⟩]:=rfl
  rw [hp]
  have happ:=happ []
  (repeat' ((conv=>whnf);first|rw [happ]|refine ⟨.sl 5010 _ _ _,⟨rfl,rfl,rfl,rfl⟩,?_⟩|refine zg ?_|((first|apply zb|apply za|apply zc)<;>intro h<;>try (exfalso;omega))|refine pay ?_|refine And.intro (by first|exact ⟨by omega,by unfold maxLen;omega⟩|exact ⟨by unfold maxLen;omega,by omega⟩) ?_|intro _));(all_goals (conv=>whnf))
  all_goals exact ⟨⟨_,Ref.takes [5010] rfl (.refl _),_,_,rfl,rfl⟩⟩
 ·have hyk:=hk y (by simp)
  have r0:=zb8 S l1 y 0
  have r3:=zb8 S l1 y 3
  have hn:(l1++[y]).length=l1.length+1:=by simp
  have e1:(((l1.length+1:Nat):Int) - 1).toNat=l1.length:=by omega
  have hla:(l1++[y]).getLast?=some y:=by simp
  have hcast:((y.t:Int)+(t:Int))=((y.t+t:Nat):Int):=by omega
  have hfl:(its S (l1++[y])).length=(l1.length+1)*4:=by rw [uR,hn]
  have htm:=ztS S l1 y (y.t+t)
  rw [hn] at hl hR ⊢
  have happ:=happ (l1++[y])
  by_cases hi:y.i=i
  ·have hp:yO (l1++[y]) i t=l1++[⟨y.i,y.n,y.t+t⟩]:=by
    unfold yO;rw [hla];simp only [if_pos hi,List.dropLast_concat]
   rw [hp]
   (repeat' ((conv=>whnf);first|rw [e1]|rw [hcast]|rw [htm]|refine zB r0 ?_|refine zB r3 ?_|refine ⟨.sl 5010 _ _ _,⟨rfl,rfl,rfl,rfl⟩,?_⟩|refine zg ?_|((first|apply zb|apply za|apply zc)<;>intro h<;>try (exfalso;omega))|refine pay ?_|refine And.intro (by first|exact ⟨rfl,Nat.succ_pos _⟩|exact ⟨by omega,by omega⟩|exact ⟨rfl,by rw [hfl];omega⟩) ?_|intro _));(all_goals (conv=>whnf))
   all_goals first|(exfalso;((try dsimp only at *);omega))|skip
   all_goals exact ⟨⟨_,Ref.takes [5010] rfl (.refl _),_,_,by rw [g6q];rfl,by rw [g6q];rfl⟩⟩
  ·have hp:yO (l1++[y]) i t=(l1++[y])++[⟨i,0,t⟩]:=by
    unfold yO;rw [hla];simp only [if_neg hi]
   rw [hp]
   (repeat' ((conv=>whnf);first|rw [e1]|rw [happ]|refine zB r0 ?_|refine ⟨.sl 5010 _ _ _,⟨rfl,rfl,rfl,rfl⟩,?_⟩|refine zg ?_|((first|apply zb|apply za|apply zc)<;>intro h<;>try (exfalso;omega))|refine pay ?_|refine And.intro (by first|exact ⟨rfl,Nat.succ_pos _⟩|exact ⟨by omega,by unfold maxLen;omega⟩|exact ⟨by unfold maxLen;omega,by omega⟩|exact ⟨by omega,by omega⟩) ?_|intro _));(all_goals (conv=>whnf))
   all_goals first|(exfalso;((try dsimp only at *);omega))|skip
   all_goals exact ⟨⟨_,Ref.takes [5010] rfl (.refl _),_,_,by rw [g6q,hn];rfl,by rw [g6q,hn];rfl⟩⟩
abbrev bxZ (b bp:Nat) (vs:List Value):Ent:=.box 5000 b (pS bp::vs) kZ
structure ShQ (S S':Sto) (x y:Int) (z:Int):Prop where
 st:zf3 S x y=(S',z,0)
 made:Made S S' z (.pr (tm S.E x) (tm S.E y))
theorem zaj (bp bt bs b:Nat) (vs:List Value) (S:Sto) (hw:WF S) (x y:Int) (hx1:1<=x) (hx2:x<=S.E.length) (hy1:1<=y) (hy2:y<=S.E.length) (hlen:(tm S.E x).len+(tm S.E y).len<=LM) (hroom:S.E.length<S.most)
 (l:List It) (a:Option Addr) (c:Nat) (t:Nat) (hl:l.length<=1000000) (hM:∀ y∈l,ItOk S y) (hk:∀ y∈l,y.t<=2305843009213693952) (ht:t<=2305843009213693952) (f1 f2 fp:List Nat) (w:World)
 (hR:R w fp (fP bp bt bs S f1 f2++[bxZ b bp vs,.own 5010 a l.length c zj 4 (its S l)]) w) (hG:qq w fp) :
 Calls Tryz.prog qD #[pS b,.slice a l.length c,.int .i64 x,.int .i64 y,.int .i64 (t:Nat)] w fun e w'=>∃ v L1,e=.returned v/\R w fp L1 w' /\
  ∃ S' z a' c' f1' f2',ShQ S S' x y z/\v=.tuple #[.slice a' (yO l z t).length c',.nilIface]/\L1=fP bp bt bs S' f1' f2'++[bxZ b bp vs,.own 5010 a' (yO l z t).length c' zj 4 (its S' (yO l z t))]:=by
 refine zf [.ptr 5000 b 0,.sl 5010 a l.length c,.v (.int .i64 x),.v (.int .i64 y),.v (.int .i64 (t:Nat))] zdy (by simp) hR ?_
 obtain ⟨S',z,e,hMd⟩:=jQ hw hx1 hx2 hy1 hy2 hlen hroom
 have c1:=xk bs S hw x y
 rw [e] at c1
 have c2:=x6 bt bs S' hMd.wf z
 rw [x8 ⟨hMd.pos,hMd.le⟩] at c2
 have hg:=zkj hM hMd.grow
 have c3:=fun fp w hR=>zby S' l a c z t hl hk ht fp w hR
 rw [hg] at c3
 (repeat' ((conv=>whnf);first|refine goS (bt:=bt) (bs:=bs) rfl ?_|refine goT (bt:=bt) (bs:=bs) rfl ?_|refine SC.go 77 c1 rfl fun fp'=>?_|(refine zcn (S:=S) (S':=S') rfl hMd.grow ?_;(refine zZ (key1:=78) (key2:=77) rfl rfl (fun w hR h0=>c2 _ _ _ _ _ h0 (hG.cast2 hR)) ?_;rintro _ _ ⟨rfl,fp1',fp2',rfl⟩;refine ⟨.v _,rfl,?_⟩))|(refine zh [5010] rfl (fun w hR h=>c3 _ w h) ?_;rintro _ _ ⟨a',c',rfl,rfl⟩;refine ⟨.sl 5010 a' _ c',rfl,?_⟩)|refine ⟨.sl 5010 _ _ _,⟨rfl,rfl,rfl,rfl⟩,?_⟩|refine zg ?_|((first|apply zb|apply za|apply zc)<;>intro h<;>try (exfalso;omega))|refine pay ?_|intro _));(all_goals (conv=>whnf))
 all_goals try (exfalso;omega)
 exact ⟨⟨_,Ref.takes [78,77,3000,5000,5010] rfl (.refl _),S',z,a',c',_,_,⟨e,hMd⟩,rfl,rfl⟩⟩
end
section
open Go.EG
structure PuI (S:Sto) (M l:List It) (i:Nat):Prop where
 le:i<=M.length
 ok:PushOk S l
 ex:exM S l=exM S (M.take i)
theorem PuI.start (S:Sto) (M:List It):PuI S M [] 0:=⟨Nat.zero_le _,PushOk.nil S,rfl⟩
theorem znF {S:Sto} {M:List It} {i:Nat} (h:i<M.length):exM S (M.take (i+1))=exM S (M.take i)++exI S (M.getD i it0):=by
 rw [List.take_add_one,g2q h,qN,Option.toList_some,xw,g1q,g2q h];rfl
theorem qR {M:List It} {i:Nat} (h:i<M.length):M.getD i it0∈M:=by
 rw [g1q,g2q h]
 exact List.getElem_mem h
theorem PuI.next {S:Sto} {M l:List It} {i:Nat} (h:PuI S M l i) (hM:∀ y∈M,ItOk S y/\y.n=0) (hi:i<M.length):PuI S M (yO l (M.getD i it0).i (M.getD i it0).t) (i+1):=by
 obtain ⟨h1,h2⟩:=hM _ (qR hi)
 obtain ⟨p1,p2⟩:=vQ h.ok h1.i1 h1.i2 h1.t1
 exact ⟨hi,p1,by rw [p2,h.ex,znF hi,xm h2]⟩
theorem zpK {S:Sto} (M:List It) (i:Nat):(exM S (M.take i)).length<=(exM S M).length:=by
 conv=>rhs;rw [←List.take_append_drop i M,qN]
 rw [g6q];omega
theorem zeo {S:Sto} {M:List It} {y:It} (h:y∈M):y.t<=(exM S M).length:=by
 obtain ⟨a,b,rfl⟩:=List.append_of_mem h
 rw [qN,yT,g6q,g6q,za2]
 split<;>omega
structure RuI (S S':Sto) (l d:List It):Prop where
 wf:WF S'
 grow:Grow S S'
 le:d.length<=l.length
 ok:∀ y∈d++l.drop d.length,ItOk S' y/\y.n=0
 one:∀ y∈d,y.t=1
 ex:exM S' d=(l.take d.length).map fun x=>jO (tm S.E x.i,x.t)
 cnt:S'.E.length+d.length+(exM S (l.drop d.length)).length<=S.E.length+(exM S l).length
theorem RuI.start {S:Sto} (hw:WF S) {l:List It} (h:PushOk S l):RuI S S l [] :=
 ⟨hw,Grow.refl S,Nat.zero_le _,fun y hy=>⟨h.ok y (by simpa using hy),h.one y (by simpa using hy)⟩,fun y hy=>by simp at hy,rfl,by simp⟩
theorem jY {l:List It} {i:Nat} (h:i<l.length):l.drop i=l.getD i it0::l.drop (i+1):=by
 rw [List.drop_eq_getElem_cons h,g1q,g2q h];rfl
theorem RuI.keep {S S':Sto} {l d:List It} (h:RuI S S' l d) (ho:PushOk S l) (hi:d.length<l.length) (ht:(l.getD d.length it0).t=1):RuI S S' l (d++[l.getD d.length it0])/\(d++[l.getD d.length it0])++l.drop (d.length+1)=d++l.drop d.length:=by
 have hd:=jY hi
 have hm:=ho.ok _ (qR hi)
 have hm0:=ho.one _ (qR hi)
 have hr:(d++[l.getD d.length it0])++l.drop (d.length+1)=d++l.drop d.length:=by rw [hd,List.append_assoc];rfl
 have hn:(d++[l.getD d.length it0]).length=d.length+1:=by simp
 refine ⟨⟨h.wf,h.grow,by rw [hn];exact hi,by rw [hn,hr];exact h.ok,fun y hy=>?_,?_,?_⟩,hr⟩
 ·rw [List.mem_append,List.mem_singleton] at hy
  rcases hy with hy|rfl
  ·exact h.one y hy
  ·exact ht
 ·rw [hn,qN,h.ex,xw,zpk hm h.grow,xm hm0,ht,List.take_add_one,g2q hi,List.map_append]
  congr 1
  rw [g1q,g2q hi] at ht ⊢
  simp only [Option.getD_some] at ht ⊢
  simp [jO,ht]
 ·have:=h.cnt
  rw [hd,yT,g6q,za2,if_pos hm0,ht] at this
  rw [hn];omega
theorem RuI.pow {S S' S2:Sto} {l d:List It} {z:Int} (h:RuI S S' l d) (ho:PushOk S l) (hi:d.length<l.length) (ht:(l.getD d.length it0).t≠1) (hM:Made S' S2 z (.pw (tm S'.E (l.getD d.length it0).i) (l.getD d.length it0).t)) :
 RuI S S2 l (d++[⟨z,0,1⟩])/\(d++l.drop d.length).set d.length ⟨z,0,1⟩=(d++[⟨z,0,1⟩])++l.drop (d.length+1):=by
 have hd:=jY hi
 have hm:=ho.ok _ (qR hi)
 have hm0:=ho.one _ (qR hi)
 have hn:(d++[(⟨z,0,1⟩:It)]).length=d.length+1:=by simp
 have hz:ItOk S2 ⟨z,0,1⟩:=⟨hM.pos,hM.le,Int.le_refl _,by dsimp only;omega,Nat.le_refl _,fun h=>absurd rfl h⟩
 have hdo:∀ y∈d,ItOk S' y:=fun y hy=>(h.ok y (List.mem_append_left _ hy)).1
 refine ⟨⟨hM.wf,h.grow.trans hM.grow,by rw [hn];exact hi,fun y hy=>?_,fun y hy=>?_,?_,?_⟩,?_⟩
 ·rw [hn,List.append_assoc,List.mem_append,List.singleton_append,List.mem_cons] at hy
  rcases hy with hy|rfl|hy
  ·exact ⟨(hdo y hy).grow hM.grow,(h.ok y (List.mem_append_left _ hy)).2⟩
  ·exact ⟨hz,rfl⟩
  ·have:=h.ok y (List.mem_append_right _ (by rw [hd];exact g4q _ hy))
   exact ⟨this.1.grow hM.grow,this.2⟩
 ·rw [List.mem_append,List.mem_singleton] at hy
  rcases hy with hy|rfl
  ·exact h.one y hy
  ·rfl
 ·rw [hn,qN,kC hdo hM.grow,h.ex,xw,xm rfl,List.take_add_one,g2q hi,List.map_append]
  congr 1
  have e:tm S'.E (l.getD d.length it0).i=tm S.E (l.getD d.length it0).i:=h.grow.tm hm.i2
  have h1:=hM.tm
  rw [e] at h1
  simp only [List.replicate_one,h1]
  rw [g1q,g2q hi] at ht ⊢
  simp only [Option.getD_some] at ht ⊢
  simp [jO,ht]
 ·have:=h.cnt
  have h2:=hM.len
  have h3:=hm.t1
  rw [hd,yT,g6q,za2,if_pos hm0] at this
  rw [hn];omega
 ·rw [hd,List.set_append_right _ _ (Nat.le_refl _),Nat.sub_self,List.set_cons_zero,List.append_assoc];rfl
theorem RuI.fin {S S':Sto} (hw:WF S) {l d:List It} {j:Nat} (hj:j%2=1) (h:RuI S S' l d) (ho:PushOk S l) (he:d.length=l.length):exM S' d=zG j (exM S l)/\S'.E.length+(exM S' d).length<=S.E.length+(exM S l).length/\∀ y∈d,ItOk S' y/\y.n=0/\y.t=1:=by
 have hx:exM S' d=zG j (exM S l):=by
  rw [h.ex,he,List.take_length,zG,if_pos hj,vk,zjZ hw ho.ok ho.one ho.adj,List.map_map];rfl
 have hdl:(exM S' d).length=d.length:=by rw [h.ex,g8q,he,List.take_length]
 have hok:∀ y∈d,ItOk S' y/\y.n=0/\y.t=1:=fun y hy=>⟨(h.ok y (List.mem_append_left _ hy)).1,(h.ok y (List.mem_append_left _ hy)).2,h.one y hy⟩
 refine ⟨hx,?_,hok⟩
 have:=h.cnt
 rw [hdl];omega
end
section
open Go.EG
attribute [local irreducible] z8 yN Go.Calls
set_option maxRecDepth 20000
set_option maxHeartbeats 4000000
abbrev bxM (b bp:Nat) (u1 u2 u3 u4 u5 u6 u7 u8 u9 u10:Value) (a:Option Addr) (n c:Nat):Ent:=.box 5000 b [pS bp,u1,u2,u3,u4,u5,u6,u7,u8,u9,u10,.slice a n c] kZ
structure MgG where
 l:List It
 a:Option Addr
 c:Nat
 i:Nat
structure MhG where
 S:Sto
 d:List It
 f1:List Nat
 f2:List Nat
structure MrgQ (S S':Sto) (j:Nat) (M l:List It):Prop where
 wf:WF S'
 grow:Grow S S'
 ok:∀ y∈l,ItOk S' y/\y.n=0/\(j%2=1->y.t=1)
 ex:exM S' l=zG j (exM S M)
 cnt:S'.E.length+(exM S' l).length<=S.E.length+(exM S M).length
theorem zlu (bp bt bs b:Nat) (u1 u2 u3 u4 u5 u6 u7 u8 u9 u10:Value) (S:Sto) (hw:WF S) (j:Nat) (hj:j%2=1) (aM:Option Addr) (M:List It) (cM:Nat) (hM:∀ y∈M,ItOk S y/\y.n=0) (hroom:S.E.length+(exM S M).length<=S.most) (hmost:S.most<=1048576) (hLM:(zF (exM S M)).length<=LM) (hn:(exM S M).length<=999999)
 (f1 f2 fp:List Nat) (w:World) (hR:R w fp (fP bp bt bs S f1 f2++[bxM b bp u1 u2 u3 u4 u5 u6 u7 u8 u9 u10 aM M.length cM,.own 5003 aM M.length cM zj 4 (its S M)]) w) (hG:qq w fp) :
 Calls Tryz.prog kD #[pS b] w fun e w'=>∃ v L1,e=.returned v/\R w fp L1 w' /\
  ∃ S' l a' c' g1 g2,MrgQ S S' j M l/\v=.tuple #[.slice a' l.length c',.nilIface]/\L1=fP bp bt bs S' g1 g2++[bxM b bp u1 u2 u3 u4 u5 u6 u7 u8 u9 u10 aM M.length cM,.own 5010 a' l.length c' zj 4 (its S' l)]:=by
 refine zf [.ptr 5000 b 0] zc7 (by simp) hR ?_
 have hMl:M.length<=999999:=by
  have:=vd (M:=M) fun y hy=>(hM y hy).1
  omega
 (repeat' ((conv=>whnf);first|refine ⟨.sl 5003 _ _ _,⟨rfl,rfl,rfl,rfl⟩,?_⟩|refine zg ?_|((first|apply zb|apply za|apply zc)<;>intro h<;>try (exfalso;omega))|refine pay ?_|intro _));(all_goals (conv=>whnf))
 refine zP MgG (fun y=>[(0,.ptr 5000 b 0),(4,.sl 5010 y.a y.l.length y.c),(15,.sl 5003 aM M.length cM),(16,.v (.int .i64 M.length)),(17,.v (.int .i64 y.i))])
  (fun y=>fP bp bt bs S f1 f2++[bxM b bp u1 u2 u3 u4 u5 u6 u7 u8 u9 u10 aM M.length cM,.own 5003 aM M.length cM zj 4 (its S M),.own 5010 y.a y.l.length y.c zj 4 (its S y.l)])
  (fun y=>PuI S M y.l y.i) (fun y=>M.length - y.i) ⟨[],none,0,0⟩ (PuI.start S M) (by (repeat ((conv=>whnf);refine vS ?_));exact trivial) ((Ref.ownNil 5010 zj 4).trans (Ref.takes [78,77,3000,5000,5003,5010] rfl (.refl _))) ?_
 rintro ⟨l,a,c,i⟩ hI
 dsimp only at hI ⊢
 have hi1:=hI.le
 have hexl:(exM S l).length<=(exM S M).length:=by rw [hI.ex];exact zpK M i
 have hll:l.length<=999999:=by
  have:=vd hI.ok.ok
  omega
 by_cases hi:i<M.length
 ·obtain ⟨hx1,hx2⟩:=hM _ (qR hi)
  have hN:=hI.next hM hi
  have hxt:=zeo (S:=S) (qR hi)
  have hrow:=zgo S hi
  have e1:((i:Nat):Int).toNat=i:=g7q i
  rw [itC,hx2] at hrow
  generalize M.getD i it0=x at *
  have c3:=fun fp w hR=>zby S l a c x.i x.t (by omega) (fun y hy=>by have:=zeo (S:=S) hy;omega) (by omega) fp w hR
  (repeat' ((conv=>whnf);first|rw [e1]|refine ue hrow ?_|(refine zh [5010] rfl (fun w hR h=>c3 _ w h) ?_;rintro _ _ ⟨a',c',rfl,rfl⟩;refine ⟨.sl 5010 a' _ c',rfl,?_⟩)|refine ⟨.sl 5003 _ _ _,⟨rfl,rfl,rfl,rfl⟩,?_⟩|refine zg ?_|((first|apply zb|apply za|apply zc)<;>intro h<;>try (exfalso;omega))|refine pay ?_|refine And.intro (by first|exact ⟨rfl,by omega⟩) ?_|intro _));(all_goals (conv=>whnf))
  all_goals first|(exfalso;((try dsimp only at *);omega))|skip
  exact zm (⟨_,a',c',i+1⟩:MgG) hN (by dsimp only;omega) (by (repeat ((conv=>whnf);refine vS ?_));exact trivial) (Ref.takes [78,77,3000,5000,5003,5010] rfl (.refl _))
 ·have hie:i=M.length:=by omega
  have hex:exM S l=exM S M:=by rw [hI.ex,hie,List.take_length]
  have hok:=hI.ok
  (repeat' ((conv=>whnf);first|refine ⟨.sl 5010 _ _ _,⟨rfl,rfl,rfl,rfl⟩,?_⟩|refine zg ?_|((first|apply zb|apply za|apply zc)<;>intro h<;>try (exfalso;omega))|refine pay ?_|intro _));(all_goals (conv=>whnf))
  all_goals first|(exfalso;((try dsimp only at *);omega))|skip
  refine zP MhG (fun y=>[(0,.ptr 5000 b 0),(4,.sl 5010 a l.length c),(25,.sl 5010 a l.length c),(26,.v (.int .i64 l.length)),(27,.v (.int .i64 y.d.length))])
   (fun y=>fP bp bt bs y.S y.f1 y.f2++[bxM b bp u1 u2 u3 u4 u5 u6 u7 u8 u9 u10 aM M.length cM,.own 5010 a l.length c zj 4 (its y.S (y.d++l.drop y.d.length))])
   (fun y=>RuI S y.S l y.d) (fun y=>l.length - y.d.length) ⟨S,[],f1,f2⟩ (RuI.start hw hok) (by (repeat ((conv=>whnf);refine vS ?_));exact trivial) (Ref.takes [78,77,3000,5000,5010] rfl (.refl _)) ?_
  clear hI
  rintro ⟨S',d,g1,g2⟩ hI
  dsimp only at hI ⊢
  have hsm:=hI.wf.small
  by_cases hi:d.length<l.length
  ·have hxm:=qR hi
   obtain ⟨hx1,hx2⟩:=hI.ok (l.getD d.length it0) (List.mem_append_right _ (by rw [jY hi];exact g5q))
   have hfull:(d++l.drop d.length).length=l.length:=by rw [g6q,List.length_drop];omega
   have hget:(d++l.drop d.length).getD d.length it0=l.getD d.length it0:=by
    rw [g1q,List.getElem?_append_right (Nat.le_refl _),Nat.sub_self,jY hi];rfl
   have hrow:=zgo S' (M:=d++l.drop d.length) (i:=d.length) (by omega)
   rw [hget,itC,hx2] at hrow
   have hfl:(its S' (d++l.drop d.length)).length=l.length*4:=by rw [uR,hfull]
   have e1:((d.length:Nat):Int).toNat=d.length:=g7q _
   by_cases ht:(l.getD d.length it0).t=1
   ·obtain ⟨hN,hNe⟩:=hI.keep hok hi ht
    have hnl:(d++[l.getD d.length it0]).length=d.length+1:=by simp
    rw [←hnl] at hNe
    rw [ht] at hrow
    generalize l.getD d.length it0=x at *
    (repeat' ((conv=>whnf);first|rw [e1]|refine ue hrow ?_|refine ⟨.sl 5010 _ _ _,⟨rfl,rfl,rfl,rfl⟩,?_⟩|refine zg ?_|((first|apply zb|apply za|apply zc)<;>intro h<;>try (exfalso;omega))|refine pay ?_|refine And.intro (by first|exact ⟨rfl,by omega⟩) ?_|intro _));(all_goals (conv=>whnf))
    all_goals first|(exfalso;((try dsimp only at *);omega))|skip
    exact zm (⟨S',_,g1,g2⟩:MhG) hN (by dsimp only;omega) (by (repeat ((conv=>whnf);refine vS ?_));exact trivial) (Ref.takes [78,77,3000,5000,5010] rfl (.keep rfl (fun _ h=>h) (.keep rfl (fun _ h=>h) (.keep rfl (fun _ h=>h) (.keep rfl (fun _ h=>h) (.own rfl (by rw [hNe]) (.refl _)))))))
   ·have hlen:(tm S'.E (l.getD d.length it0).i).len*(l.getD d.length it0).t<=LM:=by
     have h1:(tm S.E (l.getD d.length it0).i,(l.getD d.length it0).t)∈zI (exM S l):=by
      rw [zjZ hw hok.ok hok.one hok.adj]
      exact List.mem_map.2 ⟨_,hxm,rfl⟩
     have h2:=zrs h1
     dsimp only at h2
     rw [hex] at h2
     rw [hI.grow.tm (hok.ok _ hxm).i2]
     omega
    have ht2:2<=(l.getD d.length it0).t:=by have:=hx1.t1;omega
    have hroom':S'.E.length<S'.most:=by
     have h1:=hI.cnt
     rw [jY hi,yT,g6q,za2,if_pos hx2,hex] at h1
     rw [hI.grow.most];omega
    obtain ⟨S2,z,e,hMd⟩:=zv5 hI.wf hx1.i1 hx1.i2 (k:=((l.getD d.length it0).t:Int)) (by omega) (by rw [g7q];exact hlen) hroom'
    rw [g7q] at hMd
    obtain ⟨hN,hNe⟩:=hI.pow hok hi ht hMd
    have hnl:(d++[(⟨z,0,1⟩:It)]).length=d.length+1:=by simp
    rw [←hnl] at hNe
    have hxt:=zeo (S:=S) hxm
    have c1:=zfj bs S' hI.wf (l.getD d.length it0).i (l.getD d.length it0).t (by omega)
    rw [e] at c1
    have c2:=x6 bt bs S2 hMd.wf z
    rw [x8 ⟨hMd.pos,hMd.le⟩] at c2
    have hset:=zry S2 (M:=d++l.drop d.length) (i:=d.length) ⟨z,0,1⟩ (by omega)
    rw [hNe,zkj (S:=S') (S':=S2) (fun y hy=>(hI.ok y hy).1) hMd.grow] at hset
    generalize l.getD d.length it0=x at *
    (repeat' ((conv=>whnf);first|rw [e1]|rw [hset]|refine ue hrow ?_|refine SC.go 77 c1 rfl fun fp'=>?_|(refine zcn (S:=S') (S':=S2) rfl hMd.grow ?_;(refine zZ (key1:=78) (key2:=77) rfl rfl (fun w hR h0=>c2 _ _ _ _ _ h0 (hG.cast2 hR)) ?_;rintro _ _ ⟨rfl,fp1',fp2',rfl⟩;refine ⟨.v _,rfl,?_⟩))|refine goS (bt:=bt) (bs:=bs) rfl ?_|refine goT (bt:=bt) (bs:=bs) rfl ?_|refine ⟨.sl 5010 _ _ _,⟨rfl,rfl,rfl,rfl⟩,?_⟩|refine zg ?_|((first|apply zb|apply za|apply zc)<;>intro h<;>try (exfalso;omega))|refine pay ?_|refine And.intro (by first|exact ⟨rfl,by omega⟩|exact ⟨rfl,by rw [hfl];omega⟩|exact Ref.takes [8,78,77,3000,5000,5010] rfl (.refl _)) ?_|intro _));(all_goals (conv=>whnf))
    all_goals first|(exfalso;((try dsimp only at *);omega))|skip
    exact zm (⟨S2,_,_,_⟩:MhG) hN (by dsimp only;omega) (by (repeat ((conv=>whnf);refine vS ?_));exact trivial) (Ref.takes [78,77,3000,5000,5010] rfl (.keep rfl (fun _ h=>h) (.keep rfl (fun _ h=>h) (.keep rfl (fun _ h=>h) (.keep rfl (fun _ h=>h) (.own rfl hset (.refl _)))))))
  ·have hde:d.length=l.length:=by have:=hI.le;omega
   obtain ⟨q1,q2,q3⟩:=hI.fin hw hj hok hde
   have hrow:its S' (d++l.drop d.length)=its S' d:=by rw [hde,List.drop_length,List.append_nil]
   rw [hex] at q1 q2
   (repeat' ((conv=>whnf);first|refine ⟨.sl 5010 _ _ _,⟨rfl,rfl,rfl,rfl⟩,?_⟩|refine zg ?_|((first|apply zb|apply za|apply zc)<;>intro h<;>try (exfalso;omega))|refine pay ?_|intro _));(all_goals (conv=>whnf))
   all_goals first|(exfalso;((try dsimp only at *);omega))|skip
   exact ⟨⟨_,Ref.takes [78,77,3000,5000,5010] rfl (.keep rfl (fun _ h=>h) (.keep rfl (fun _ h=>h) (.keep rfl (fun _ h=>h) (.keep rfl (fun _ h=>h) (.own hde.symm hrow (.refl _)))))),S',d,a,c,g1,g2,⟨hI.wf,hI.grow,fun y hy=>⟨(q3 y hy).1,(q3 y hy).2.1,fun _=>(q3 y hy).2.2⟩,q1,q2⟩,by rw [hde],rfl⟩⟩
end
end Go.Proofs.YtdcbghoalnlcmaaGreatDoor
