/- Words, pairs of numbers and patterns that came in: what the given statements say of them. No condition. -/
import Derived.Test.YtjmlialibdobpaaGreatDoorK2
import Derived.Test.YtjmlialibdobpaaGreatDoorK8
import Derived.Test.YtjmlialibdobpaaGreatDoorRows
import Derived.Test.YtjmlialibdobpaaGreatDoorK16
namespace Go.Proofs.YtjmlialibdobpaaGreatDoor
open Go.ChangeShapes Go.WideShapes Go.ChangeAt Go.RowKit Go.EG
set_option linter.unusedVariables false
theorem zps {α:Type} (Q:Nat→α→Prop):∀ len:Nat,(∀ i,i<len→∃ x,Q i x)→∃ l:List α,l.length=len∧∀ i x,l[i]?=some x→Q i x
 | 0,_=>⟨[],rfl,fun i x h=>by simp at h⟩
 | n + 1, h => by
   obtain ⟨l,hl,hq⟩:=zps Q n fun i hi=>h i (by omega)
   obtain ⟨x,hx⟩:=h n (by omega)
   refine ⟨l++[x],by simp [hl],fun i y hy=>?_⟩
   rw [List.getElem?_append] at hy
   split at hy
   ·exact hq i y hy
   ·rename_i hn
    have hi:=(List.getElem?_eq_some_iff.1 hy).1
    simp at hi
    have:i=n:=by omega
    subst this
    rw [hl,Nat.sub_self] at hy
    simp at hy
    rw [←hy];exact hx
section
variable {H:Type} {enc:TypeId × Value→H} {w:World} {base:Nat} {spare:Nat→Bool} {held:Bool}
theorem zn4 {a:Addr} {xs:List Value} (h:∀ i v,xs[i]?=some v→w.cell? (a.add i)=some v):In w [] (some a) xs:=by
 by_cases hx:xs=[]
 ·exact .inl hx
 obtain ⟨b,off,spot⟩:=a
 obtain ⟨v0,hv0⟩:∃ v,xs[0]?=some v:=⟨_,List.getElem?_eq_getElem (List.length_pos_iff.2 hx)⟩
 have hc0:=h 0 v0 hv0
 have hspot:spot=none:=by simpa [Addr.add] using World.cell?_spot hc0
 subst hspot
 refine .inr ⟨b,off,rfl,?_,by simp,fun j v hv=>?_⟩
 ·have:w.cell? ⟨b,off,none⟩=some v0:=by simpa [Addr.add] using hc0
  unfold World.cell? at this
  rcases Nat.lt_or_ge b w.heap.size with h|h
  ·exact h
  ·rw [Array.getElem?_eq_none h] at this
   simp at this
 ·have h1:=h j v hv
  rw [←h1]
  congr 1
  simp only [Addr.add]
  split
  ·rename_i h;subst h;rfl
  ·rfl
theorem zn5 {P:Program} {t e:TypeId} {fuel:Nat} {cs:List Value} {x:DataW H × List MemPlace} (ht:P.underlying t=some (.slice e)) (he:P.underlying e=some (.int .u8)) (hc:P.cellsOf e=1) (h:DataW.trod enc P w base spare held fuel t cs=some x) :
 ∃ a cap xs,cs=[.slice a (xs:List Nat).length cap]∧In w [] a (byL xs)∧xs.length≤cap∧cap≤9223372036854775807∧∀ z∈xs,z<256:=by
 rcases open_ints ht he hc h with ⟨hcs,_⟩|⟨a,len,cap,zs,hcs,_,hl,hm,hz,hd,hcell,hwz⟩
 ·exact ⟨none,0,[],hcs,.inl rfl,Nat.le_refl _,by decide,fun z h=>by cases h⟩
 ·have hle:len≤zs.length:=by rw [hz];split<;>omega
  have hw:∀ z∈zs,0≤z∧z<256:=fun z hz=>by have:=zwC (hwz z hz);omega
  have hlen:((zs.take len).map Int.toNat).length=len:=by rw [List.length_map,List.length_take];omega
  have hback:((zs.take len).map Int.toNat).map Int.ofNat=zs.take len:=by
   rw [List.map_map]
   conv=>rhs;rw [←List.map_id (zs.take len)]
   refine List.map_congr_left fun z hz=>?_
   have:=(hw z (List.mem_of_mem_take hz)).1
   show ((z.toNat:Nat):Int)=z
   omega
  refine ⟨some a,cap,(zs.take len).map Int.toNat,by rw [hlen];exact hcs,?_,by omega,by unfold maxLen at hm;omega,fun z hz=>?_⟩
  ·unfold byL
   rw [hback]
   refine zn4 fun i v hv=>?_
   have hi:i<(zs.take len).length:=by
    have:=(List.getElem?_eq_some_iff.1 hv).1
    rwa [ints_length] at this
   rw [xg hi] at hv
   cases hv
   rw [List.length_take] at hi
   rw [hcell i (by omega),List.getD_eq_getElem?_getD,List.getD_eq_getElem?_getD,List.getElem?_take,if_pos (by omega)]
  ·obtain ⟨y,hy,rfl⟩:=List.mem_map.1 hz
   have:=hw y (List.mem_of_mem_take hy)
   omega
theorem zsc {P:Program} {t e e':TypeId} {fuel:Nat} {cs:List Value} {x:DataW H × List MemPlace} (ht:P.underlying t=some (.slice e)) (he:P.underlying e=some (.slice e')) (he':P.underlying e'=some (.int .u8)) (hc:P.cellsOf e=1) (hc':P.cellsOf e'=1) (h:DataW.trod enc P w base spare held fuel t cs=some x) :
 ∃ a cap ps,cs=[.slice a (ps:List PA).length cap]∧PIn w [] ps a∧ps.length≤9223372036854775807:=by
 rcases DataW.trod_slice ht h with ⟨hcs,_⟩|⟨a,len,cap,elems,rest,n,_,rfl,rfl,hb,hl,hm,hlen,hel,hsp,hns⟩
 ·exact ⟨none,0,[],hcs,⟨.inl rfl,(fun r hr=>by cases hr),(fun r hr=>by cases hr),(fun r hr=>by cases hr)⟩,Nat.zero_le _⟩
 ·obtain ⟨l,hl2,hq⟩:=zps (fun i (r:PA)=>w.cell? (a.add i)=some r.v∧In w [] r.a (byL r.xs)∧r.xs.length≤9223372036854775807∧∀ z∈r.xs,z<256) len fun i hi=>by
   have h1:=hel i hi
   rw [hc,Nat.mul_one,List.getElem?_eq_getElem (by omega)] at h1
   obtain ⟨cs',hcs,hy⟩:=Option.bind_eq_some_iff.1 h1
   obtain ⟨a',cap',xs,rfl,h2,h3,h4,h5⟩:=zn5 he he' hc' hy
   exact ⟨⟨xs,a',cap'⟩,cell_of_cells?_one hcs,h2,Nat.le_trans h3 h4,h5⟩
  have hm':∀ r∈l,In w [] r.a (byL r.xs)∧r.xs.length≤9223372036854775807∧∀ z∈r.xs,z<256:=fun r hr=>by
   obtain ⟨i,hi⟩:=List.getElem?_of_mem hr
   exact (hq i r hi).2
  refine ⟨some a,cap,l,by rw [hl2],⟨zn4 fun i v hv=>?_,fun r hr=>(hm' r hr).1,fun r hr=>(hm' r hr).2.1,fun r hr=>(hm' r hr).2.2⟩,by unfold maxLen at hm;omega⟩
  rw [List.getElem?_map] at hv
  cases hb:l[i]? with
  | none=>rw [hb] at hv;cases hv
  | some b=>rw [hb] at hv;cases hv;exact (hq i b hb).1
end
end Go.Proofs.YtjmlialibdobpaaGreatDoor
namespace Go.Proofs.YtjmlialibdobpaaGreatDoor
open Go.EG
attribute [local irreducible] zP yj Go.Calls
set_option linter.unusedSimpArgs false
set_option linter.unusedVariables false
set_option maxRecDepth 20000
set_option maxHeartbeats 4000000
def frP (key:Nat) (F:List Frz):Ent:=.abs key (ud F) fun w=>∀ f∈F,zhi f.a f.xs w∧(f.xs≠[]→∀ ad:Addr,f.a=some ad→PlB w ad.block)
section
variable {w0 w:World} {fp0:List Nat} {L:List Ent}
theorem zpt {key:Nat} {o:Own} (hR:R w0 fp0 L w) (h:zG key L=some o) (hx:o.xs≠[]):∃ g,o.a=some ⟨g,0,none⟩∧PlB w g:=by
 obtain ⟨g,cur,ha,hg,_⟩:=uU (yY hR h) (List.length_pos_iff.2 hx)
 exact ⟨g,ha,_,_,hg⟩
theorem R.frzP {k key n c T sz:Nat} {a:Option Addr} {xs:List Value} {F:List Frz} (h:R w0 fp0 (.own k a n c T sz xs::frP key F::L) w):R w0 fp0 (frP key (⟨a,n,c,xs⟩::F)::L) w:=by
 have e:fps (frP key (⟨a,n,c,xs⟩::F)::L)=fps (.own k a n c T sz xs::frP key F::L):=by
  simp only [zC,frP,Ent.fp,ud,List.flatMap_cons,List.append_assoc]
 have hro:∀ j v,xs[j]?=some v→∃ g,a=some ⟨g,0,none⟩∧w.cell? ⟨g,j,none⟩=some v:=fun j v hv=>by
  exact xL (key:=k) (o:=⟨a,n,c,T,sz,xs⟩) h (by simp [zG]) hv
 have hpl:xs≠[]→∃ g,a=some ⟨g,0,none⟩∧PlB w g:=fun hx=>zpt (key:=k) (o:=⟨a,n,c,T,sz,xs⟩) h (by simp [zG]) hx
 refine ⟨h.os,h.tape,h.output,h.drawn,h.size,h.old,by rw [e];exact h.nodup,by rw [e];exact h.range,fun x hx=>?_⟩
 rcases List.mem_cons.1 hx with rfl|hx
 ·intro w' hs f hf
  rcases List.mem_cons.1 hf with rfl|hf
  ·refine ⟨fun j v hv=>?_,fun hx ad ha=>?_⟩
   ·obtain ⟨g,ha,hc⟩:=hro j v hv
    dsimp only at ha ⊢
    refine ⟨g,ha,?_⟩
    rw [←hc]
    exact uJ (hs g (by simp [ud,ha,Value.ownBlock]))
   ·obtain ⟨g,ha',cs,T',hp⟩:=hpl hx
    dsimp only at ha
    rw [ha'] at ha
    cases ha
    refine ⟨cs,T',?_⟩
    rw [hs g (by simp [ud,ha',Value.ownBlock])]
    exact hp
  ·have h2:=h.ok (frP key F) (by simp)
   exact h2 w' (fun b hb=>hs b (by simp only [ud,List.flatMap_cons];exact List.mem_append_right _ hb)) f hf
 ·exact h.ok x (List.mem_cons_of_mem _ (List.mem_cons_of_mem _ hx))
theorem R.frzP0 {key:Nat} (h:R w0 fp0 L w):R w0 fp0 (frP key []::L) w:=by
 have e:fps (frP key []::L)=fps L:=by simp [zC,frP,Ent.fp,ud]
 refine ⟨h.os,h.tape,h.output,h.drawn,h.size,h.old,by rw [e];exact h.nodup,by rw [e];exact h.range,fun x hx=>?_⟩
 rcases List.mem_cons.1 hx with rfl|hx
 ·intro w' _ f hf;cases hf
 ·exact h.ok x hx
theorem Ref.frzP {k key n c T sz:Nat} {a:Option Addr} {xs:List Value} {F:List Frz}:Ref w0 fp0 (.own k a n c T sz xs::frP key F::L) (frP key (⟨a,n,c,xs⟩::F)::L):=fun _ h=>R.frzP h
theorem Ref.frzP0 (key:Nat):Ref w0 fp0 L (frP key []::L):=fun _ h=>R.frzP0 h
theorem In.frP {key:Nat} {F:List Frz} {f:Frz} (hR:R w0 fp0 L w) (hm:frP key F∈L) (hf:f∈F):In w [] f.a f.xs:=by
 by_cases hx:f.xs=[]
 ·exact .inl hx
 ·have hro:=(Ent.abs_ok (hR.ok _ hm) f hf).1
  obtain ⟨g,ha,hc⟩:=hro 0 _ (List.getElem?_eq_getElem (List.length_pos_iff.2 hx))
  refine .inr ⟨g,0,ha,?_,by simp,fun j v hv=>?_⟩
  ·unfold World.cell? at hc
   rcases Nat.lt_or_ge g w.heap.size with h|h
   ·exact h
   ·rw [Array.getElem?_eq_none h] at hc
    simp at hc
  ·obtain ⟨g',ha',hc'⟩:=hro j v hv
   rw [ha] at ha'
   simp only [Option.some.injEq,Addr.mk.injEq,and_true] at ha'
   subst ha'
   rw [Nat.zero_add];exact hc'
theorem PlB.frP {key:Nat} {F:List Frz} {f:Frz} {ad:Addr} (hR:R w0 fp0 L w) (hm:frP key F∈L) (hf:f∈F) (hx:f.xs≠[]) (ha:f.a=some ad):PlB w ad.block:=(Ent.abs_ok (hR.ok _ hm) f hf).2 hx ad ha
end
def QIn (F:List Frz) (qs:List Lq):Prop:=∀ q∈qs,∃ f∈F,f.a=q.a∧f.xs=rtL (q.xs.map ltR)
theorem zsd (xs:List Nat):∀ x∈RT.rowss (xs.map ltR),x=(none,[]):=by
 induction xs with
 | nil=>intro x hx;rw [List.map_nil,RT.rowss] at hx;cases hx
 | cons y xs ih =>
   intro x hx
   rw [List.map_cons,RT.rowss] at hx
   rcases List.mem_append.1 hx with hx|hx
   ·unfold ltR at hx
    rw [RT.rows,RT.rowss] at hx
    rw [List.mem_singleton.1 hx];rfl
   ·exact ih x hx
theorem ztL (q:Lq):∀ x∈q.r.rows,x=(none,[])∨(x=(q.a,rtL (q.xs.map ltR))∧rtL (q.xs.map ltR)≠[]):=by
 obtain ⟨xs,a,c⟩:=q
 intro x hx
 dsimp only [Lq.r] at hx
 match xs with
 | [] =>
   unfold zas at hx
   rw [RT.rows,RT.rowss] at hx
   exact .inl (List.mem_singleton.1 hx)
 | [y] =>
   have hx:x∈(ltR y).rows:=hx
   unfold ltR at hx
   rw [RT.rows,RT.rowss] at hx
   exact .inl (List.mem_singleton.1 hx)
 | y :: z :: xs =>
   have hx:x∈(RT.mk 3 lsZ 0 0 ((y::z::xs).map ltR) a c).rows:=hx
   rw [RT.rows] at hx
   rcases List.mem_cons.1 hx with hx|hx
   ·refine .inr ⟨hx,fun h=>?_⟩
    have:=congrArg List.length h
    rw [zaq] at this
    simp at this
   ·exact .inl (zsd _ x hx)
theorem zse (xs:List Nat):RT.sizes (xs.map ltR)=xs.length:=by
 induction xs with
 | nil=>rw [List.map_nil,RT.sizes];rfl
 | cons y xs ih =>
   rw [List.map_cons,RT.sizes,ih]
   unfold ltR
   rw [RT.size,RT.sizes,List.length_cons];omega
theorem ztM (xs:List Nat) (a:Option Addr) (c:Nat):(zas xs a c).size≤xs.length+1:=by
 match xs with
 | []=>unfold zas;rw [RT.size,RT.sizes];exact Nat.le_refl _
 | [y] =>
   show (ltR y).size≤_
   unfold ltR
   rw [RT.size,RT.sizes];exact Nat.le_add_left _ _
 | y :: z :: xs =>
   show (RT.mk 3 lsZ 0 0 ((y::z::xs).map ltR) a c).size≤_
   rw [RT.size,zse];exact Nat.le_refl _
theorem zu1 (xs:List Nat):RT.Pls (xs.map ltR):=by
 induction xs with
 | nil=>rw [List.map_nil,RT.Pls];trivial
 | cons y xs ih =>
   rw [List.map_cons,RT.Pls]
   refine ⟨?_,ih⟩
   unfold ltR
   rw [RT.Pl,RT.Pls];exact ⟨by decide,trivial⟩
theorem zww (xs:List Nat) (a:Option Addr) (c:Nat):(zas xs a c).Pl:=by
 match xs with
 | []=>unfold zas;rw [RT.Pl,RT.Pls];exact ⟨by decide,trivial⟩
 | [y] =>
   show (ltR y).Pl
   unfold ltR
   rw [RT.Pl,RT.Pls];exact ⟨by decide,trivial⟩
 | y :: z :: xs =>
   show (RT.mk 3 lsZ 0 0 ((y::z::xs).map ltR) a c).Pl
   rw [RT.Pl]
   exact ⟨by decide,zu1 _⟩
theorem zu2 (qs:List Lq):RT.Pls (qs.map Lq.r):=by
 induction qs with
 | nil=>rw [List.map_nil,RT.Pls];trivial
 | cons q qs ih=>rw [List.map_cons,RT.Pls];exact ⟨zww ..,ih⟩
theorem zlq {n:Nat}:∀ (qs:List Lq),(∀ q∈qs,q.xs.length≤n)→RT.sizes (qs.map Lq.r)≤qs.length*(n+1)
 | [],h=>by rw [List.map_nil,RT.sizes];exact Nat.zero_le _
 | q :: qs, h => by
   have ih:=zlq qs fun x hx=>h x (List.mem_cons_of_mem _ hx)
   have h1:=ztM q.xs q.a q.c
   have h2:=h q List.mem_cons_self
   rw [List.map_cons,RT.sizes,List.length_cons,Nat.add_mul]
   have h3:q.r.size≤q.xs.length+1:=h1
   omega
theorem zsf {qs:List Lq} {x:Option Addr × List Value} (h:x∈RT.rowss (qs.map Lq.r)):∃ q∈qs,x∈q.r.rows:=by
 induction qs with
 | nil=>rw [List.map_nil,RT.rowss] at h;cases h
 | cons q qs ih =>
   rw [List.map_cons,RT.rowss] at h
   rcases List.mem_append.1 h with h|h
   ·exact ⟨q,List.mem_cons_self,h⟩
   ·obtain ⟨y,hy,hx⟩:=ih h
    exact ⟨y,List.mem_cons_of_mem _ hy,hx⟩
theorem ztN {l:List Lq} {q:Lq} {k:Nat} {s:Ls} {mn mx:Int} {ps:List RT} {a:Option Addr} {c:Nat} (h:q.r=.mk k s mn mx ps a c) :
 rtL (l.map Lq.r)++[.int .i64 (k:Int),.int .u64 (s.a:Int),.int .u64 (s.b:Int),.int .u64 (s.c:Int),.int .u64 (s.d:Int),.int .i64 mn,.int .i64 mx,.slice a ps.length c]=rtL ((l++[q]).map Lq.r):=by
 rw [List.map_append,zjF,List.map_singleton,h];simp [rtL,RT.cells]
abbrev uT (qs:List Lq) (a:Option Addr) (c:Nat):RT:=.mk 4 lsZ 0 0 (qs.map Lq.r) a c
theorem zwx {w0 w:World} {L:List Ent} {key k2:Nat} {F:List Frz} {qs:List Lq} {a:Option Addr} {n c T sz:Nat} (hR:R w0 [] L w) (hm:frP key F∈L) (ho:zG k2 L=some ⟨a,n,c,T,sz,rtL (qs.map Lq.r)⟩) (hne:qs≠[]) (hF:QIn F qs):RIn w [] (uT qs a c)∧RPl w (uT qs a c):=by
 have key2:∀ x∈(uT qs a c).rows,x=(a,rtL (qs.map Lq.r))∨x=(none,[])∨∃ f∈F,x=(f.a,f.xs)∧f.xs≠[]:=by
  intro x hx
  unfold uT at hx
  rw [RT.rows] at hx
  rcases List.mem_cons.1 hx with hx|hx
  ·exact .inl hx
  ·obtain ⟨q,hq,hx⟩:=zsf hx
   obtain ⟨f,hf,fa,fx⟩:=hF q hq
   rcases ztL q x hx with h|⟨h,h2⟩
   ·exact .inr (.inl h)
   ·exact .inr (.inr ⟨f,hf,by rw [h,fa,fx],by rw [fx];exact h2⟩)
 have hnil:rtL (qs.map Lq.r)≠[]:=fun h=>by
  have:=congrArg List.length h
  rw [zaq,List.length_map] at this
  have:=List.length_pos_iff.2 hne
  simp at *;omega
 refine ⟨fun x hx=>?_,fun x hx ad ha=>?_⟩
 ·rcases key2 x hx with rfl|rfl|⟨f,hf,rfl,_⟩
  ·exact In.ownR hR ho
  ·exact .inl rfl
  ·exact In.frP hR hm hf
 ·rcases key2 x hx with rfl|rfl|⟨f,hf,rfl,hfx⟩
  ·obtain ⟨g,hg,hp⟩:=zpt hR ho hnil
   dsimp only at hg ha
   rw [hg] at ha
   cases ha;exact hp
  ·cases ha
  ·exact PlB.frP hR hm hf hfx ha
def zxj (xs:List Nat) (v:Value) (L1:List Ent):Prop:=(v=.tuple #[.agg rz8.toArray,xh 9]∧L1=[]) ∨
 ∃ k s mn mx ps qa qc a c,zas xs a c=.mk k s mn mx ps qa qc∧xs.length≤64∧v=.tuple #[RT.v (.mk k s mn mx ps qa qc),.nilIface]∧L1=[.own 14 a xs.length c zB 8 (rtL (xs.map ltR))]
theorem zqq (xs:List Nat) (hb:∀ x∈xs,x<256) (hl:xs.length≤9223372036854775807) (a0:Option Addr) (c0:Nat) (w:World) (hin:In w [] a0 (byL xs)) :
 Calls Tryz.prog vn #[.slice a0 xs.length c0] w fun e w'=>∃ v L1,e=.returned v∧R w [] L1 w'∧zxj xs v L1 :=
 (zlS xs hb hl a0 c0 w hin).mono fun e w' ⟨v,L1,he,hR,hq⟩=>⟨v,L1,he,hR,by
  rcases hq with ⟨_,hv,hL⟩|⟨h1,a,c,hv,hL⟩
  ·exact .inl ⟨hv,hL⟩
  ·obtain ⟨r,hr⟩:∃ r,zas xs a c=r:=⟨_,rfl⟩
   obtain ⟨k,s,mn,mx,ps,qa,qc⟩:=r
   exact .inr ⟨k,s,mn,mx,ps,qa,qc,a,c,hr,h1,by rw [hv,hr],hL⟩⟩
theorem ztO {y n:MA} {t:Tri} {qs:List Lq} {ga:Option Addr} {gc:Nat} (ha:yg (qs.map Lq.xs) tri0=some t) (hne:[]∉qs.map Lq.xs) (hb:∀ p∈qs.map Lq.xs,∀ b∈p,b<256) (hy:y.m=qD t)
 (hL:∀ t,BT t→lng n.m n.m.start.toNat t=(uT qs ga gc).z.acc ((uT qs ga gc).z.run 0 t)):jz y.m n.m:=fun s hs=>by
 rw [hL s hs,hy]
 rw [Bool.eq_iff_iff,ztJ ha hb hne s hs,zuZ (zuY qs ga gc) hb s hs]
structure LpG where
 qs:List Lq
 ga:Option Addr
 gc:Nat
 F:List Frz
theorem zgW (w:World) (hG:Tab w) (ps:List PA) (pa:Option Addr) (pc:Nat) (hps:PIn w [] ps pa) (hpn:ps.length≤9223372036854775807) :
 Calls Tryz.prog kG #[.slice pa ps.length pc] w fun e w'=>e=.returned (.bool true)∧Ext w w':=by
 refine zx [.v (.slice pa ps.length pc)] w jE (by simp) ?_
 have c0:=zoy
 by_cases h2:2≤ps.length∧ps.length≤6
 case neg =>
  (repeat' ((conv=>whnf);first|(first|refine puK c0 ?_|refine quK c0 ?_)|refine ⟨_,⟨rfl,trivial⟩,?_⟩|(refine zd (fun h=>?_) (fun h=>?_)<;>try (exfalso;omega))|(refine zc (fun h=>?_) (fun h=>?_)<;>try (exfalso;omega))|(refine za (fun h=>?_) (fun h=>?_)<;>(try simp only [zqa,zqb,zqc,zqd,zqe,zqf,zqg] at h))|refine pay ?_|intro _));(all_goals (conv=>whnf))
  all_goals first|(exfalso;omega)|exact ⟨rfl⟩|skip
 obtain ⟨h2,h6⟩:=h2
 (repeat' ((conv=>whnf);first|(first|refine puK c0 ?_|refine quK c0 ?_)|refine ⟨_,⟨rfl,trivial⟩,?_⟩|(refine zd (fun h=>?_) (fun h=>?_)<;>try (exfalso;omega))|(refine zc (fun h=>?_) (fun h=>?_)<;>try (exfalso;omega))|(refine za (fun h=>?_) (fun h=>?_)<;>(try simp only [zqa,zqb,zqc,zqd,zqe,zqf,zqg] at h))|refine pay ?_|intro _));(all_goals (conv=>whnf))
 all_goals first|(exfalso;omega)|exact ⟨rfl⟩|skip
 rename_i b3
 refine zu LpG (fun g=>[(0,.v (.slice pa ps.length pc)),(3,.ptr 3 b3 0),(4,.v (.int .i64 (g.qs.length:Int)))])
  (fun g=>[.box 3 b3 [.int .i64 4,.int .u64 0,.int .u64 0,.int .u64 0,.int .u64 0,.int .i64 0,.int .i64 0,.slice g.ga g.qs.length g.gc] zB,.own 47 g.ga g.qs.length g.gc zB 8 (rtL (g.qs.map Lq.r)),frP 91 g.F])
  (fun g=>g.qs.length≤ps.length∧g.qs.map Lq.xs=(ps.take g.qs.length).map PA.xs∧QIn g.F g.qs∧∀ q∈g.qs,q.xs.length≤64) (fun g=>ps.length - g.qs.length) ⟨[],none,0,[]⟩
  ⟨Nat.zero_le _,rfl,(fun q hq=>by cases hq),(fun q hq=>by cases hq)⟩ (by (repeat ((conv=>whnf);refine vS ?_));exact trivial) ((Ref.frzP0 91).trans ((Ref.ownNil 47 zB 8).trans (Ref.takes [3,47,91] rfl (Thin.refl _)))) ?_
 rintro ⟨qs,ga,gc,F⟩ ⟨hle,hqs,hF,h64⟩
 dsimp only at hle hqs hF h64 ⊢
 obtain ⟨i,hi⟩:∃ i,qs.length=i:=⟨_,rfl⟩
 rw [hi] at hle hqs ⊢
 by_cases hlt:i<ps.length
 ·obtain ⟨r,hr⟩:∃ r,ps[i]?=some r:=⟨_,List.getElem?_eq_getElem hlt⟩
  have hmem:r∈ps:=List.mem_of_getElem? hr
  have rdr:=fun {L:List Ent}=>hps.row.rd (L:=L) (k:=i) (v:=r.v) (by rw [List.getElem?_map,hr];rfl)
  have n1:pa≠none:=hps.row.ne' (k:=i) (by rw [List.length_map];exact hlt)
  have q0:((i:Nat):Int).toNat=i:=by omega
  have c1:=fun (w':World) (L:List Ent) (hR:R w [] L w')=>zqq r.xs (hps.byt r hmem) (hps.len r hmem) r.a r.c w' ((hps.pat r hmem).cast hR (by simp))
  (repeat' ((conv=>whnf);first|rw [q0]|refine ⟨_,_,_,rdr,?_⟩|(refine zA (fun w' hR=>c1 w' _ hR) ?_;rintro _ _ (⟨rfl,rfl⟩|⟨k,s,mn,mx,ps',qa,qc,a',c',hq,hl,rfl,rfl⟩);all_goals refine ⟨.v _,rfl,?_⟩)|rw [ztN (q:=⟨r.xs,a',c'⟩) hq]|refine ⟨.sl 47 _ _ _,⟨rfl,rfl,rfl,rfl⟩,?_⟩|refine ⟨_,⟨rfl,trivial⟩,?_⟩|(refine zd (fun h=>?_) (fun h=>?_)<;>try (exfalso;omega))|(refine zc (fun h=>?_) (fun h=>?_)<;>try (exfalso;omega))|(refine za (fun h=>?_) (fun h=>?_)<;>(try simp only [zqa,zqb,zqc,zqd,zqe,zqf,zqg] at h))|refine pay ?_|intro _));(all_goals (conv=>whnf))
  all_goals first|(exfalso;omega)|exact ⟨rfl⟩|skip
  rename_i b5 b46 a2 c2
  have hln:(qs++[(⟨r.xs,a',c'⟩:Lq)]).length=i+1:=by rw [List.length_append,hi];rfl
  refine zi (⟨qs++[(⟨r.xs,a',c'⟩:Lq)],a2,c2,⟨a',r.xs.length,c',rtL (r.xs.map ltR)⟩::F⟩:LpG) ⟨by dsimp only;rw [hln];exact hlt,?_,?_,?_⟩ (by dsimp only;rw [hln];omega) (by dsimp only;rw [hln];(repeat ((conv=>whnf);refine vS ?_));exact trivial) ?_
  ·dsimp only
   rw [hln,List.map_append,hqs,List.take_add_one,hr,List.map_append];rfl
  ·intro q hq
   rcases List.mem_append.1 hq with hq|hq
   ·obtain ⟨f,hf,h3⟩:=hF q hq
    exact ⟨f,List.mem_cons_of_mem _ hf,h3⟩
   ·rw [List.mem_singleton.1 hq]
    exact ⟨_,List.mem_cons_self,rfl,rfl⟩
  ·intro q hq
   rcases List.mem_append.1 hq with hq|hq
   ·exact h64 q hq
   ·rw [List.mem_singleton.1 hq];exact hl
  ·dsimp only
   rw [hln]
   exact (Ref.takes [14,91,3,47] rfl (Thin.refl _)).trans (Ref.frzP.trans (Ref.takes [3,47,91] rfl (Thin.refl _)))
 ·obtain rfl:i=ps.length:=by omega
  rw [List.take_length] at hqs
  have hqx:qs.map Lq.xs=ps.map PA.xs:=hqs
  have hqne:qs≠[]:=fun h=>by subst h;simp at hi;omega
  have hb:∀ p∈qs.map Lq.xs,∀ b∈p,b<256:=fun p hp=>by
   rw [hqx] at hp
   obtain ⟨q,hq,rfl⟩:=List.mem_map.1 hp
   exact hps.byt q hq
  have hsz:(uT qs ga gc).size≤4096:=by
   unfold uT
   rw [RT.size]
   have h1:=zlq qs h64
   have h3:qs.length*(64+1)≤6*(64+1):=Nat.mul_le_mul_right _ (by omega)
   omega
  have hPl:(uT qs ga gc).Pl:=by
   unfold uT
   rw [RT.Pl];exact ⟨by decide,zu2 qs⟩
  have c1:=fun (w':World) (L:List Ent) (hR:R w [] L w')=>zqp ps (by omega) pa pc w' ⟨hps.row.cast hR (by simp),fun p hp=>(hps.pat p hp).cast hR (by simp),hps.len,hps.byt⟩
  rw [←hqx] at c1
  have c2:=fun (w':World) (L:List Ent) (hR:R w [] L w') (h:RIn w' [] (uT qs ga gc)∧RPl w' (uT qs ga gc))=>znZ (uT qs ga gc) hsz hPl w' (hG.cast hR (by simp)) h.1 h.2
  have hv:(uT qs ga gc).v=.agg #[.int .i64 4,.int .u64 0,.int .u64 0,.int .u64 0,.int .u64 0,.int .i64 0,.int .i64 0,.slice ga ps.length gc]:=by
   have e:(qs.map Lq.r).length=ps.length:=by rw [List.length_map,hi]
   unfold uT RT.v RT.cells
   dsimp only
   rw [e];rfl
  rw [hv] at c2
  (repeat' ((conv=>whnf);first|(refine zA (fun w' hR=>c1 w' _ hR) ?_;rintro _ _ (⟨_,rfl,en,rfl⟩|⟨hne,t,y,F1,aH,cH,ht,rfl,hy,hF1,rfl⟩);all_goals refine ⟨.v _,rfl,?_⟩)|(refine zA (fun w' hR=>c2 w' _ hR (zwx (key:=91) (k2:=47) hR ((zQ (key:=91) rfl).mem_iff.2 List.mem_cons_self) rfl hqne hF)) ?_;rintro _ _ (⟨en2,rfl,rfl⟩|⟨z,F2,kc,rfl,rfl,hz,hC,hpos,hL⟩);all_goals refine ⟨.v _,rfl,?_⟩)|refine ⟨_,⟨rfl,trivial⟩,?_⟩|(refine zd (fun h=>?_) (fun h=>?_)<;>try (exfalso;omega))|(refine zc (fun h=>?_) (fun h=>?_)<;>try (exfalso;omega))|(refine za (fun h=>?_) (fun h=>?_)<;>(try simp only [zqa,zqb,zqc,zqd,zqe,zqf,zqg] at h))|refine pay ?_|intro _));(all_goals (conv=>whnf))
  all_goals first|(exfalso;omega)|exact ⟨rfl⟩|skip
  have hT:=zc0 TI.start ht
  obtain ⟨ky,hMy⟩:∃ ky,MOk y.m ky:=⟨_,by rw [hy];exact zhR hT⟩
  have hSL:=ztO (y:=y) (n:=z) ht hne hb hy hL
  have c3:=fun (W:World) (h:McI W [] y)=>uj 83 y h hMy
  have c4:=fun (W:World) (h:McI W [] y) (h':McI W [] z)=>zhd y z h h' hMy hC.ok hSL
  have c5:=fun (o:MA) (ko:Nat) (hO:Can o.m ko) (hS:jz o.m y.m) (W:World) (h:McI W [] o) (h':McI W [] z)=>zhd o z h h' hO.ok hC.ok (eqv.trans hS hSL)
  (repeat' ((conv=>whnf);first|(refine zA (fun w' hR=>c3 w' (MFz.in_ (key:=79) hR rfl hF1)) ?_;rintro _ _ ⟨o,F3,ko,rfl,rfl,ho,hO,hS⟩;refine ⟨.v _,rfl,?_⟩)|(refine zA (fun w' hR=>c4 w' (MFz.in_ (key:=79) hR rfl hF1) (MFz.in_ (key:=82) hR rfl hz)) ?_;rintro _ _ ⟨rfl,rfl⟩;refine ⟨.v _,rfl,?_⟩)|(refine zA (fun w' hR=>c5 o ko hO hS w' (MFz.in_ (key:=83) hR rfl ho) (MFz.in_ (key:=82) hR rfl hz)) ?_;rintro _ _ ⟨rfl,rfl⟩;refine ⟨.v _,rfl,?_⟩)|refine ⟨_,⟨rfl,trivial⟩,?_⟩|(refine zd (fun h=>?_) (fun h=>?_)<;>try (exfalso;omega))|(refine zc (fun h=>?_) (fun h=>?_)<;>try (exfalso;omega))|(refine za (fun h=>?_) (fun h=>?_)<;>(try simp only [zqa,zqb,zqc,zqd,zqe,zqf,zqg] at h))|refine pay ?_|intro _));(all_goals (conv=>whnf))
  all_goals first|(exfalso;omega)|exact ⟨rfl⟩|skip
  have hoz:o.nr.length=z.nr.length:=by
   have:=congrArg (fun m=>m.nx.length) (zju hO hC (eqv.trans hS hSL))
   simpa [MA.m] using this
  refine ⟨?_⟩
  show Value.bool (decide _)=Value.bool true
  rw [decide_eq_true (by rw [hoz])]
end Go.Proofs.YtjmlialibdobpaaGreatDoor
