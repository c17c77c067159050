/- Canonical machines: two with one language are equal. Plain Lean: no program in sight. -/
import Derived.Test.YtjmlialibdobpaaGreatDoorK8
import Derived.Test.YtjmlialibdobpaaGreatDoorK9
import Derived.Test.YtjmlialibdobpaaGreatDoorK6
import Derived.Lib.TrailingZeros
import Derived.Test.YtjmlialibdobpaaGreatDoorK10
import Derived.Shelf.SlSortCmp.WholeK
import Derived.Shelf.SlGeneric
import Derived.Ground.SlsfProg
import Derived.Test.YtjmlialibdobpaaGreatDoorProg
set_option linter.unusedSectionVars false
set_option linter.unusedVariables false
set_option linter.unusedSimpArgs false
namespace Go.Proofs.YtjmlialibdobpaaGreatDoor
section
open Go.EG
def BT (t:List Nat):Prop:=∀ b∈t,b<256
theorem BT.nil:BT []:=fun _ h=>by cases h
theorem BT.cons {b:Nat} {t:List Nat} (hb:b<256) (h:BT t):BT (b::t):=fun x hx=>by
 rcases List.mem_cons.1 hx with rfl|hx
 ·exact hb
 ·exact h x hx
theorem BT.append {s t:List Nat} (h:BT s) (k:BT t):BT (s++t):=fun x hx=>(List.mem_append.1 hx).elim (h x) (k x)
def qO (M:Mch) (q:Nat):Bool:=M.acc.getD q false
def lng (M:Mch) (q:Nat) (t:List Nat):Bool:=qO M (zA M q t)
def eqv (M:Mch) (q:Nat) (M':Mch) (q':Nat):Prop:=∀ t,BT t->lng M q t=lng M' q' t
def zm0 (M M':Mch):Prop:=eqv M M.start.toNat M' M'.start.toNat
theorem eqv.symm {M M':Mch} {q q':Nat} (h:eqv M q M' q'):eqv M' q' M q:=fun t ht=>(h t ht).symm
theorem eqv.trans {M M' M'':Mch} {q q' q'':Nat} (h:eqv M q M' q') (k:eqv M' q' M'' q''):eqv M q M'' q'':=fun t ht=>(h t ht).trans (k t ht)
theorem eqv.step {M M':Mch} {q q' b:Nat} (h:eqv M q M' q') (hb:b<256):eqv M (stp M q b) M' (stp M' q' b):=fun t ht=>h (b::t) (ht.cons hb)
def rgB:Nat->List Nat->Prop
 | _,[]=>True
 | s,v::l=>v<=s/\rgB (if v=s then s+1 else s) l
def rgE:Nat->List Nat->Nat
 | s,[]=>s
 | s,v::l=>rgE (if v=s then s+1 else s) l
theorem zkk:∀ (l l':List Nat) (s:Nat),rgE s (l++l')=rgE (rgE s l) l'
 | [],_,_=>rfl
 | v::l,l',s=>zkk l l' _
theorem zkl:∀ (l l':List Nat) (s:Nat),rgB s (l++l')↔rgB s l/\rgB (rgE s l) l'
 | [],_,_=>by simp [rgB,rgE]
 | v::l,l',s=>by simp only [List.cons_append,rgB,rgE,zkl l l',and_assoc]
def zd3 (l:List Int):List Nat:=l.map Int.toNat
structure Can (M:Mch) (k:Nat):Prop where
 ok:MOk M k
 start:M.start=0
 reach:∀ q,q<M.nx.length->∃ t,BT t/\zA M 0 t=q
 min:∀ q q',q<M.nx.length->q'<M.nx.length->eqv M q M q'->q=q'
 rg:rgB 1 (zd3 M.nx.flatten)
 tot:rgE 1 (zd3 M.nx.flatten)=M.nx.length
 lead:∀ i,i<M.nx.length->i<rgE 1 (zd3 (M.nx.take i).flatten)
 cg:rgB 0 (zd3 M.cls)
 ct:rgE 0 (zd3 M.cls)=k
 col:∀ c c',c<k->c'<k->(∀ q,q<M.nx.length->(M.nx.getD q []).getD c 0=(M.nx.getD q []).getD c' 0)->c=c'
theorem zgV {α β:Type} {f:α->β} {l:List α} (h:(l.map f).Nodup):l.Nodup:=List.Pairwise.of_map f (fun a b h e=>h (congrArg f e)) h
def dl (M:Mch) (q c:Nat):Nat:=((M.nx.getD q []).getD c 0).toNat
theorem zww (M:Mch) (q b:Nat):stp M q b=dl M q (M.cls.getD b 0).toNat:=rfl
structure Occ (M:Mch) (l:List Nat):Prop where
 has:∀ c∈l,∃ b,b<256/\(M.cls.getD b 0).toNat=c
 all:∀ b,b<256->(M.cls.getD b 0).toNat∈l
theorem Occ.lt {M:Mch} {k c:Nat} {l:List Nat} (h:Occ M l) (hM:MOk M k) (hc:c∈l):c<k:=by
 obtain ⟨b,hb,rfl⟩:=h.has c hc
 have:=hM.letter _ (zZ (l:=M.cls) (i:=b) (d:=0) (by rw [hM.cls];exact hb))
 omega
structure Rst (M:Mch) (l st:List Nat):Prop where
 nodup:st.Nodup
 start:M.start.toNat∈st
 lt:∀ q∈st,q<M.nx.length
 to:∀ q∈st,∃ t,BT t/\zA M M.start.toNat t=q
 step:∀ q∈st,∀ c∈l,dl M q c∈st
theorem Rst.stp {M:Mch} {l st:List Nat} (h:Rst M l st) (ho:Occ M l) {q b:Nat} (hq:q∈st) (hb:b<256):stp M q b∈st:=h.step q hq _ (ho.all b hb)
structure Blk (M:Mch) (st:List Nat) (b:Nat->Nat) (nb:Nat):Prop where
 lt:∀ q∈st,b q<256
 acc:∀ q∈st,∀ q'∈st,b q=b q'->qO M q=qO M q'
 eqv:∀ q∈st,∀ q'∈st,eqv M q M q'->b q=b q'
 num:nb=0∨((∀ q∈st,b q<nb)/\∀ j,j<nb->∃ q∈st,b q=j)
def kM (M:Mch) (l:List Nat) (b:Nat->Nat) (q:Nat):List Nat:=b q::l.map fun c=>b (dl M q c)
structure Rnd (M:Mch) (l st:List Nat) (b next:Nat->Nat) (first:List Nat):Prop where
 nodup:(first.map (kM M l b)).Nodup
 mem:∀ q∈first,q∈st
 at_:∀ q∈st,next q<first.length/\kM M l b (first.getD (next q) 0)=kM M l b q
theorem Rnd.inj {M:Mch} {l st first:List Nat} {b next:Nat->Nat} (h:Rnd M l st b next first) {i j:Nat} (hi:i<first.length) (hj:j<first.length) (he:kM M l b (first.getD i 0)=kM M l b (first.getD j 0)):i=j:=by
 refine (List.getElem_inj (h₀:=by simpa using hi) (h₁:=by simpa using hj) h.nodup).1 ?_
 simpa [g1q,g2q hi,g2q hj] using he
theorem Rnd.iff {M:Mch} {l st first:List Nat} {b next:Nat->Nat} (h:Rnd M l st b next first) {q q':Nat} (hq:q∈st) (hq':q'∈st):next q=next q'↔kM M l b q=kM M l b q':=by
 obtain ⟨h1,h2⟩:=h.at_ q hq
 obtain ⟨h3,h4⟩:=h.at_ q' hq'
 constructor
 ·intro he
  rw [←h2,←h4,he]
 ·intro he
  exact h.inj h1 h3 (by rw [h2,h4,he])
theorem Rnd.first {M:Mch} {l st first:List Nat} {b next:Nat->Nat} (h:Rnd M l st b next first) {i:Nat} (hi:i<first.length):next (first.getD i 0)=i:=by
 obtain ⟨h1,h2⟩:=h.at_ _ (h.mem _ (zZ (d:=0) hi))
 exact h.inj h1 hi h2
theorem Rnd.le {M:Mch} {l st first:List Nat} {b next:Nat->Nat} (h:Rnd M l st b next first):first.length<=st.length:=by
 have hn:first.Nodup:=by
  have:=h.nodup
  exact zgV this
 exact uY hn h.mem
theorem zlk:∀ (n:Nat) (l:List Nat),l.length=n->(∀ j,j<n->j∈l)->l.Nodup:=by
 intro n l hl hc
 rcases Classical.em l.Nodup with h|h
 ·exact h
 ·exfalso
  obtain ⟨i,j,hij,hj,he⟩:∃ i j,i<j/\j<l.length/\l.getD i 0=l.getD j 0:=by
   rcases Classical.em (∃ i j,i<j/\j<l.length/\l.getD i 0=l.getD j 0) with h2|h2
   ·exact h2
   ·exfalso
    refine h (List.pairwise_iff_getElem.2 fun i j hi hj hij he=>h2 ⟨i,j,hij,hj,?_⟩)
    simpa [g1q,g2q hi,g2q hj] using he
  have hsub:∀ x∈List.range n,x∈l.eraseIdx j:=by
   intro x hx
   have hx':=hc x (List.mem_range.1 hx)
   obtain ⟨p,hp,hpx⟩:=List.getElem_of_mem hx'
   rw [List.mem_eraseIdx_iff_getElem?]
   by_cases hpj:p=j
   ·refine ⟨i,by omega,?_⟩
    subst hpj
    have h1:l.getD i 0=x:=by rw [he,g1q,g2q hp];exact hpx
    rw [g1q,g2q (by omega)] at h1
    rw [g2q (by omega)]
    exact congrArg some h1
   ·exact ⟨p,hpj,by rw [g2q hp,hpx]⟩
  have h3:=uY List.nodup_range hsub
  rw [List.length_range,List.length_eraseIdx_of_lt hj] at h3
  omega
theorem Rnd.blk {M:Mch} {l st first:List Nat} {b next:Nat->Nat} {nb:Nat} (h:Rnd M l st b next first) (hB:Blk M st b nb) (ho:Occ M l) (hr:Rst M l st) (hs:st.length<=256):Blk M st next first.length where
 lt:=fun q hq=>by have:=(h.at_ q hq).1;have:=h.le;omega
 acc:=fun q hq q' hq' he=>by
  have:=(h.iff hq hq').1 he
  simp only [kM,List.cons.injEq] at this
  exact hB.acc q hq q' hq' this.1
 eqv:=fun q hq q' hq' he=>by
  refine (h.iff hq hq').2 ?_
  simp only [kM,List.cons.injEq]
  refine ⟨hB.eqv q hq q' hq' he,List.map_congr_left fun c hc=>?_⟩
  obtain ⟨x,hx,rfl⟩:=ho.has c hc
  exact hB.eqv _ (hr.stp ho hq hx) _ (hr.stp ho hq' hx) (he.step hx)
 num:=.inr ⟨fun q hq=>(h.at_ q hq).1,fun j hj=>⟨_,h.mem _ (zZ (d:=0) hj),h.first hj⟩⟩
theorem Rnd.pos {M:Mch} {l st first:List Nat} {b next:Nat->Nat} (h:Rnd M l st b next first) (hr:Rst M l st):0<first.length:=by have:=(h.at_ _ hr.start).1;omega
theorem Rnd.more {M:Mch} {l st first:List Nat} {b next:Nat->Nat} {nb:Nat} (h:Rnd M l st b next first) (hB:Blk M st b nb) (hr:Rst M l st):nb<=first.length/\(first.length=nb->∀ q∈st,∀ q'∈st,b q=b q'->next q=next q'):=by
 rcases hB.num with h0|⟨h1,h2⟩
 ·exact ⟨by omega,fun he=>by have:=h.pos hr;omega⟩
 ·have hcov:∀ j,j<nb->j∈first.map b:=fun j hj=>by
   obtain ⟨q,hq,hbq⟩:=h2 j hj
   obtain ⟨h3,h4⟩:=h.at_ q hq
   simp only [kM,List.cons.injEq] at h4
   exact List.mem_map.2 ⟨_,zZ (d:=0) h3,h4.1.trans hbq⟩
  have hle:nb<=first.length:=by
   have:=uY (List.nodup_range (n:=nb)) (L:=first.map b) fun x hx=>hcov x (List.mem_range.1 hx)
   simpa using this
  refine ⟨hle,fun he q hq q' hq' hb=>?_⟩
  have hnd:=zlk nb (first.map b) (by simpa using he) hcov
  obtain ⟨h3,h4⟩:=h.at_ q hq
  obtain ⟨h5,h6⟩:=h.at_ q' hq'
  simp only [kM,List.cons.injEq] at h4 h6
  refine (List.getElem_inj (h₀:=by simpa using h3) (h₁:=by simpa using h5) hnd).1 ?_
  have e1:=h4.1
  have e2:=h6.1
  simp only [g1q,g2q h3,g2q h5,Option.getD_some] at e1 e2
  simp only [List.getElem_map]
  rw [e1,e2,hb]
structure Fin1 (M:Mch) (l st:List Nat) (b:Nat->Nat) (first:List Nat):Prop where
 le:first.length<=256
 mem:∀ q∈first,q∈st
 at_:∀ q∈st,b q<first.length
 first:∀ i,i<first.length->b (first.getD i 0)=i
 iff:∀ q∈st,∀ q'∈st,(eqv M q M q'↔b q=b q')
theorem Rnd.fin {M:Mch} {l st first:List Nat} {b next:Nat->Nat} {nb:Nat} (h:Rnd M l st b next first) (hB:Blk M st b nb) (ho:Occ M l) (hr:Rst M l st) (hs:st.length<=256) (he:first.length=nb):Fin1 M l st next first:=by
 have hN:=h.blk hB ho hr hs
 refine ⟨by have:=h.le;omega,h.mem,fun q hq=>(h.at_ q hq).1,fun i hi=>h.first hi,fun q hq q' hq'=>⟨hN.eqv q hq q' hq',fun hb t ht=>?_⟩⟩
 have hst:∀ q∈st,∀ q'∈st,next q=next q'->∀ x,x<256->next (stp M q x)=next (stp M q' x):=fun q hq q' hq' hn x hx=>by
  have hk:=(h.iff hq hq').1 hn
  simp only [kM,List.cons.injEq] at hk
  refine (h.more hB hr).2 he _ (hr.stp ho hq hx) _ (hr.stp ho hq' hx) ?_
  have:=List.map_inj_left.1 hk.2 _ (ho.all x hx)
  exact this
 have hrun:∀ (t:List Nat) (q q':Nat),BT t->q∈st->q'∈st->next q=next q'->qO M (zA M q t)=qO M (zA M q' t):=by
  intro t
  induction t with
  | nil=>intro q q' _ hq hq' hn;exact hN.acc q hq q' hq' hn
  | cons x t ih =>
    intro q q' ht hq hq' hn
    have hx:=ht x g5q
    exact ih _ _ (fun y hy=>ht y (g4q _ hy)) (hr.stp ho hq hx) (hr.stp ho hq' hx) (hst q hq q' hq' hn x hx)
 exact hrun t q q' ht hq hq' hb
def zd4 (M:Mch) (b:Nat->Nat) (first:List Nat) (c:Nat):List Nat:=first.map fun q=>b (dl M q c)
structure Cls (M:Mch) (b:Nat->Nat) (first:List Nat) (cl cols:List Nat):Prop where
 nodup:(cols.map (zd4 M b first)).Nodup
 has:∀ c∈cols,∃ x,x<256/\(M.cls.getD x 0).toNat=c
 at_:∀ x,x<cl.length->cl.getD x 0<cols.length/\zd4 M b first (cols.getD (cl.getD x 0) 0)=zd4 M b first (M.cls.getD x 0).toNat
 rg:rgB 0 cl
 re:rgE 0 cl=cols.length
structure Ord (M:Mch) (b:Nat->Nat) (first cols:List Nat) (ord:List Nat) (rows:List (List Nat)):Prop where
 nodup:ord.Nodup
 lt:∀ x∈ord,x<first.length
 zero:ord.head?=some (b M.start.toNat)
 len:∀ r∈rows,r.length=cols.length
 at_:∀ i,i<rows.length->∀ n,n<cols.length->(rows.getD i []).getD n 0<ord.length/\ord.getD ((rows.getD i []).getD n 0) 0=b (dl M (first.getD (ord.getD i 0) 0) (cols.getD n 0))
 rg:rgB 1 rows.flatten
 re:rgE 1 rows.flatten=ord.length
 lead:∀ i,i<rows.length->i<rgE 1 (rows.take i).flatten
def zi7 (M:Mch) (first cl:List Nat) (ord:List Nat) (rows:List (List Nat)):Mch:=⟨0,cl.map Int.ofNat,rows.map fun r=>r.map Int.ofNat,ord.map fun i=>qO M (first.getD i 0)⟩
theorem zrt (l:List Nat) (i:Nat):(l.map Int.ofNat).getD i 0=((l.getD i 0:Nat):Int):=by
 simp only [g1q,List.getElem?_map]
 cases l[i]?<;>rfl
theorem zwx (l:List (List Nat)) (i:Nat):(l.map fun r=>r.map Int.ofNat).getD i []=(l.getD i []).map Int.ofNat:=by
 simp only [g1q,List.getElem?_map]
 cases l[i]?<;>rfl
theorem zai (l:List Nat):zd3 (l.map Int.ofNat)=l:=by
 simp only [zd3,List.map_map]
 conv=>rhs;rw [←List.map_id l]
 exact List.map_congr_left fun x _=>rfl
theorem zwy {M:Mch} {k:Nat} {l st first cl cols ord:List Nat} {rows:List (List Nat)} {b:Nat->Nat} (hM:MOk M k) (ho:Occ M l) (hr:Rst M l st) (hF:Fin1 M l st b first) (hC:Cls M b first cl cols) (hcl:cl.length=256)
 (hO:Ord M b first cols ord rows) (hrl:rows.length=ord.length):Can (zi7 M first cl ord rows) cols.length/\zm0 (zi7 M first cl ord rows) M:=by
 obtain ⟨N,hN⟩:∃ N,zi7 M first cl ord rows=N:=⟨_,rfl⟩
 have hnx:N.nx=rows.map fun r=>r.map Int.ofNat:=by rw [←hN];rfl
 have hnl:N.nx.length=ord.length:=by rw [hnx,g8q,hrl]
 have hcls:N.cls=cl.map Int.ofNat:=by rw [←hN];rfl
 have hol:ord.length<=first.length:=by
  have:=xj hO.nodup hO.lt
  exact this
 have h0:0<ord.length:=by
  have:=hO.zero
  cases ord with
  | nil=>cases this
  | cons _ _=>simp
 have hst:∀ j x,j<ord.length->x<256->stp N j x=(rows.getD j []).getD (cl.getD x 0) 0:=fun j x hj hx=>by
  unfold stp
  rw [hnx,hcls,zrt,zwx,g7q,zrt,g7q]
 have hstep:∀ q j x,q∈st->j<ord.length->ord.getD j 0=b q->x<256->stp M q x∈st/\stp N j x<ord.length/\ord.getD (stp N j x) 0=b (stp M q x):=by
  intro q j x hq hj he hx
  refine ⟨hr.stp ho hq hx,?_⟩
  obtain ⟨h1,h2⟩:=hC.at_ x (by omega)
  obtain ⟨h3,h4⟩:=hO.at_ j (by omega) _ h1
  rw [hst j x hj hx]
  refine ⟨h3,h4.trans ?_⟩
  have hjf:ord.getD j 0<first.length:=hO.lt _ (zZ (d:=0) hj)
  have hfq:first.getD (ord.getD j 0) 0∈st:=hF.mem _ (zZ (d:=0) hjf)
  have heq:eqv M (first.getD (ord.getD j 0) 0) M q:=(hF.iff _ hfq _ hq).2 (by rw [hF.first _ hjf,he])
  have e5:=List.map_inj_left.1 h2 _ (zZ (d:=0) hjf)
  rw [e5]
  exact (hF.iff _ (hr.stp ho hfq hx) _ (hr.stp ho hq hx)).1 (heq.step hx)
 have hrun:∀ (t:List Nat) (q j:Nat),BT t->q∈st->j<ord.length->ord.getD j 0=b q->zA M q t∈st/\zA N j t<ord.length/\ord.getD (zA N j t) 0=b (zA M q t):=by
  intro t
  induction t with
  | nil=>intro q j _ hq hj he;exact ⟨hq,hj,he⟩
  | cons x t ih =>
    intro q j ht hq hj he
    obtain ⟨h1,h2,h3⟩:=hstep q j x hq hj he (ht x g5q)
    exact ih _ _ (fun y hy=>ht y (g4q _ hy)) h1 h2 h3
 have hacc:∀ q j,q∈st->j<ord.length->ord.getD j 0=b q->qO N j=qO M q:=by
  intro q j hq hj he
  have hjf:ord.getD j 0<first.length:=hO.lt _ (zZ (d:=0) hj)
  have hfq:first.getD (ord.getD j 0) 0∈st:=hF.mem _ (zZ (d:=0) hjf)
  have heq:eqv M (first.getD (ord.getD j 0) 0) M q:=(hF.iff _ hfq _ hq).2 (by rw [hF.first _ hjf,he])
  have e1:=heq [] BT.nil
  simp only [lng,zA] at e1
  rw [←e1,←hN]
  simp only [qO,zi7,g1q,List.getElem?_map,g2q hj]
  rfl
 have hlang:∀ q j,q∈st->j<ord.length->ord.getD j 0=b q->eqv N j M q:=fun q j hq hj he t ht=>by
  obtain ⟨h1,h2,h3⟩:=hrun t q j ht hq hj he
  exact hacc _ _ h1 h2 h3
 have hz:ord.getD 0 0=b M.start.toNat:=by
  have:=hO.zero
  cases ord with
  | nil=>cases this
  | cons y _=>simp only [List.head?_cons,g3q] at this;simpa using this
 have hs0:N.start=0:=by rw [←hN];rfl
 have hcov:∀ i,i<first.length->∃ t,BT t/\zA N 0 t<ord.length/\ord.getD (zA N 0 t) 0=i:=fun i hi=>by
  have hq:=hF.mem _ (zZ (d:=0) hi)
  obtain ⟨t,ht,he⟩:=hr.to _ hq
  obtain ⟨_,h2,h3⟩:=hrun t M.start.toNat 0 ht hr.start h0 hz
  exact ⟨t,ht,h2,by rw [h3,he,hF.first i hi]⟩
 have hrep:∀ j,j<ord.length->first.getD (ord.getD j 0) 0∈st/\b (first.getD (ord.getD j 0) 0)=ord.getD j 0:=fun j hj=>by
  have hjf:ord.getD j 0<first.length:=hO.lt _ (zZ (d:=0) hj)
  exact ⟨hF.mem _ (zZ (d:=0) hjf),hF.first _ hjf⟩
 have hinj:∀ i j,i<ord.length->j<ord.length->ord.getD i 0=ord.getD j 0->i=j:=fun i j hi hj he=>zfq hO.nodup hi hj he
 rw [hN]
 have hclt:∀ x∈cl,x<cols.length:=fun x hx=>by
  obtain ⟨p,hp,rfl⟩:=List.getElem_of_mem hx
  have:=(hC.at_ p hp).1
  rw [g1q,g2q hp] at this
  exact this
 have hk1:1<=cols.length/\cols.length<=256:=by
  constructor
  ·have:=(hC.at_ 0 (by omega)).1;omega
  ·have hn:cols.Nodup:=zgV hC.nodup
   have hsub:∀ c∈cols,c∈(List.range 256).map fun x=>(M.cls.getD x 0).toNat:=fun c hc=>by
    obtain ⟨x,hx,he⟩:=hC.has c hc
    exact List.mem_map.2 ⟨x,List.mem_range.2 hx,he⟩
   have:=uY hn hsub
   simpa using this
 have hrl':∀ i,i<rows.length->(rows.getD i []).length=cols.length:=fun i hi=>hO.len _ (zZ (d:=[]) hi)
 refine ⟨⟨⟨?_,by omega,?_,?_,?_,hk1,?_,?_⟩,hs0,?_,?_,?_,?_,?_,?_,?_,?_⟩,?_⟩
 ·rw [hcls,g8q,hcl]
 ·rw [hnl];have:=hF.le;omega
 ·rw [hnl,←hN];simp [zi7]
 ·rw [hs0,hnl];omega
 ·rw [hnl,hnx]
  intro r hr'
  obtain ⟨r0,hr0,rfl⟩:=List.mem_map.1 hr'
  obtain ⟨i,hi,rfl⟩:=List.getElem_of_mem hr0
  refine ⟨by rw [g8q];exact hO.len _ hr0,fun q hq=>?_⟩
  obtain ⟨v,hv,rfl⟩:=List.mem_map.1 hq
  obtain ⟨n,hn,rfl⟩:=List.getElem_of_mem hv
  have:=(hO.at_ i hi n (by rw [←hO.len _ hr0];exact hn)).1
  simp only [g1q,g2q hi,Option.getD_some,g2q hn] at this
  constructor
  ·exact Int.natCast_nonneg _
  ·exact Int.ofNat_lt.2 this
 ·rw [hcls]
  intro c hc
  obtain ⟨v,hv,rfl⟩:=List.mem_map.1 hc
  exact ⟨Int.natCast_nonneg _,Int.ofNat_lt.2 (hclt v hv)⟩
 ·rw [hnl]
  intro j hj
  have hjf:ord.getD j 0<first.length:=hO.lt _ (zZ (d:=0) hj)
  obtain ⟨t,ht,h2,h3⟩:=hcov _ hjf
  exact ⟨t,ht,hinj _ _ h2 hj h3⟩
 ·rw [hnl]
  intro i j hi hj he
  obtain ⟨a1,a2⟩:=hrep i hi
  obtain ⟨b1,b2⟩:=hrep j hj
  have e1:=(hlang _ i a1 hi a2.symm).symm.trans (he.trans (hlang _ j b1 hj b2.symm))
  have:=(hF.iff _ a1 _ b1).1 e1
  exact hinj _ _ hi hj (by rw [←a2,←b2,this])
 ·have:zd3 N.nx.flatten=rows.flatten:=by
   rw [hnx,←List.map_flatten,zai]
  rw [this];exact hO.rg
 ·have:zd3 N.nx.flatten=rows.flatten:=by
   rw [hnx,←List.map_flatten,zai]
  rw [this,hnl];exact hO.re
 ·rw [hnl]
  intro i hi
  have:zd3 (N.nx.take i).flatten=(rows.take i).flatten:=by
   rw [hnx,←List.map_take,←List.map_flatten,zai]
  rw [this];exact hO.lead i (by omega)
 ·rw [hcls,zai];exact hC.rg
 ·rw [hcls,zai];exact hC.re
 ·intro c c' hc hc' he
  refine (List.getElem_inj (h₀:=by simpa using hc) (h₁:=by simpa using hc') hC.nodup).1 ?_
  simp only [List.getElem_map]
  refine List.map_congr_left fun q hq=>?_
  obtain ⟨i,hi,rfl⟩:=List.getElem_of_mem hq
  obtain ⟨t,ht,h2,h3⟩:=hcov i hi
  have e1:=he _ (by rw [hnl];exact h2)
  rw [hnx,zwx,zrt,zrt] at e1
  have f1:=(hO.at_ (zA N 0 t) (by omega) c hc).2
  have f2:=(hO.at_ (zA N 0 t) (by omega) c' hc').2
  rw [h3] at f1 f2
  have e2:((rows.getD (zA N 0 t) []).getD c 0)=((rows.getD (zA N 0 t) []).getD c' 0):=Int.ofNat.inj e1
  rw [e2] at f1
  have e3:=f1.symm.trans f2
  simpa [g1q,g2q hi,g2q hc,g2q hc'] using e3
 ·unfold zm0
  rw [hs0]
  exact hlang _ 0 hr.start h0 hz
end
section
open Go.EG
attribute [local irreducible] zT yE Go.Calls
set_option maxRecDepth 20000
set_option maxHeartbeats 4000000
theorem zqv (us:List Bool):(usL us).length=us.length:=g8q ..
theorem zqw {us:List Bool} {j:Nat} (h:j<us.length):(usL us)[j]?=some (.bool (us.getD j false)):=by
 unfold usL
 rw [List.getElem?_map,g1q,g2q h];rfl
theorem zsv {us:List Bool} {j:Nat} (h:j<us.length):Go.EG.boolOf (atL (usL us) j)=us.getD j false:=by
 unfold atL;rw [zqw h];rfl
theorem zqx {us:List Bool} {j:Nat} (h:j<us.length):isK .bool (usL us) j:=by
 unfold isK atL;rw [zqw h];rfl
theorem zfD {us:List Bool} {j:Nat} {b:Bool} (h:j<us.length):zv (usL us) j [.bool b]=usL (us.set j b):=by
 unfold zv usL
 apply List.ext_getElem?
 intro i
 simp only [List.getElem?_map,List.getElem?_set]
 rcases Nat.lt_trichotomy i j with hlt|rfl|hgt
 ·rw [List.append_assoc,List.getElem?_append_left (by simp;omega),List.getElem?_take,if_pos hlt,List.getElem?_map,if_neg (by omega)]
 ·rw [List.append_assoc,List.getElem?_append_right (by simp;omega)]
  simp [List.length_take,Nat.min_eq_left (Nat.le_of_lt h),h]
 ·rw [if_neg (by omega),List.append_assoc,List.getElem?_append_right (by simp;omega)]
  simp only [List.length_take,g8q,Nat.min_eq_left (Nat.le_of_lt h),List.length_cons,List.length_nil]
  rw [List.getElem?_append_right (by simp;omega),List.getElem?_drop,List.getElem?_map]
  congr 2
  simp;omega
theorem zh5 (n:Nat):(List.replicate n [Value.bool false]).flatten=usL (List.replicate n false):=by
 induction n with
 | zero=>rfl
 | succ n ih=>rw [List.replicate_succ,List.flatten_cons,ih];rfl
theorem jT {l:List Nat} {j:Nat} (h:j<l.length):isK (.int .i64) (enL l) j:=kj (by simpa using h)
theorem zgW {us:List Bool} {c x:Nat} (hc:c<us.length):(us.set c true).getD x false=(decide (x=c)||us.getD x false):=by
 simp only [g1q,List.getElem?_set]
 by_cases h:c=x
 ·subst h;rw [if_pos rfl,if_pos hc];simp
 ·rw [if_neg h,decide_eq_false (Ne.symm h)];simp
def zyc (M:Mch) (v:Value) (L1:List Ent):Prop:=∃ (l:List Nat) (a:Option Addr) (c:Nat),v=.slice a l.length c/\L1=[.own 31 a l.length c zk 1 (enL l)]/\Occ M l/\l.length<=256
structure OcG where
 i:Nat
 us:List Bool
 l:List Nat
 a:Option Addr
 c:Nat
theorem zqy {x:MA} {k b:Nat} (hM:MOk x.m k) (hb:b<256):∃ c,x.cls.getD b 0=((c:Nat):Int)/\c<k/\(x.m.cls.getD b 0).toNat=c:=by
 have h1:x.m.cls.getD b 0∈x.m.cls:=zZ (by rw [hM.cls];exact hb)
 obtain ⟨h2,h3⟩:=hM.letter _ h1
 exact ⟨(x.m.cls.getD b 0).toNat,(Int.toNat_of_nonneg h2).symm,by omega,rfl⟩
theorem zhm {x:MA} {k:Nat} (hM:MOk x.m k) {r:RA} (hr:r∈x.nr):r.xs.length=k/\∀ q∈r.xs,0<=q/\q<x.nr.length:=by
 have:=hM.row r.xs (List.mem_map_of_mem hr)
 have hl:x.m.nx.length=x.nr.length:=g8q ..
 rw [hl] at this
 exact this
theorem zeE {x:MA} {k:Nat} (hM:MOk x.m k):0<x.nr.length/\x.nr.length<=256/\x.cls.length=256/\x.acc.length=x.nr.length/\0<=x.start/\x.start<x.nr.length:=by
 have hl:x.m.nx.length=x.nr.length:=g8q ..
 have h1:=hM.pos
 have h2:=hM.most
 have h3:=hM.cls
 have h4:=hM.acc
 have h5:=hM.start
 rw [hl] at h1 h2 h4 h5
 exact ⟨h1,h2,h3,h4,h5.1,h5.2⟩
theorem zkm {w:World} {k:Nat} (x:MA) (hx:McI w [] x) (hM:MOk x.m k) :
 Calls Tryz.prog vV #[x.v] w fun e w'=>∃ v L1,e=.returned v/\R w [] L1 w'/\zyc x.m v L1:=by
 refine zQ [.v x.v] zft (by simp) ?_
 have hcn:=fun b hb=>zqy (b:=b) hM hb
 obtain ⟨r0,hr0⟩:∃ r,x.nr[0]?=some r:=⟨_,g2q (zeE hM).1⟩
 have hrl:=(zhm hM (List.mem_of_getElem? hr0)).1
 obtain ⟨n1,n2,n3,n4,n5,n6⟩:=zeE hM
 have hk1:=hM.k1
 obtain ⟨M,hMM⟩:∃ M,x.m=M:=⟨_,rfl⟩
 rw [hMM] at hcn hM ⊢
 obtain ⟨start,cls,ca,cc,nr,na,nc,acc,aa,ac⟩:=x
 obtain ⟨h1,h2,h3,h4⟩:=hx
 dsimp only [MA.v,MA.cells] at *
 have rd0:=fun {L:List Ent}=>h2.rd (L:=L) (k:=0) (v:=r0.v) (by rw [List.getElem?_map,hr0];rfl)
 have z1:=zh5 r0.xs.length
 have hna:na≠none:=h2.ne' (k:=0) (by rw [g8q];exact n1)
 (repeat' ((conv=>whnf);first|refine ⟨_,_,_,rd0,?_⟩|refine zh ?_|((first|apply zc|apply za|apply zd)<;>intro h<;>try (exfalso;omega))|refine pay ?_|intro _));(all_goals (conv=>whnf))
 all_goals try (exfalso;omega)
 rename_i b1 b12
 refine zw OcG (fun g=>[(3,.sl 12 (some ⟨b12,0,none⟩) r0.xs.length r0.xs.length),(4,.sl 31 g.a g.l.length g.c),(14,.v (.slice ca cls.length cc)),(15,.v (.int .i64 cls.length)),(16,.v (.int .i64 g.i))])
  (fun g=>[.own 31 g.a g.l.length g.c zk 1 (enL g.l),.own 12 (some ⟨b12,0,none⟩) r0.xs.length r0.xs.length qe 1 (usL g.us)])
  (fun g=>g.i<=256/\g.l.length<=g.i/\g.us.length=k/\(∀ c,c<k->(g.us.getD c false=true↔c∈g.l))/\(∀ c∈g.l,∃ b,b<256/\(M.cls.getD b 0).toNat=c)/\∀ b,b<g.i->(M.cls.getD b 0).toNat∈g.l) (fun g=>256 - g.i)
  ⟨0,List.replicate r0.xs.length false,[],none,0⟩ ⟨Nat.zero_le _,Nat.le_refl _,by simp [hrl],fun c hc=>by simp [g1q,List.getElem?_replicate,hrl,hc],fun c hc=>by simp at hc,fun b hb=>by simp at hb⟩ (by (repeat ((conv=>whnf);refine vS ?_));exact trivial)
  ((Ref.ownNil 31 zk 1).trans (Ref.takes [31,12] rfl (.keep rfl (fun _ h=>h) (.own rfl z1 (.nil _))))) ?_
 rintro ⟨i,us,l,a,c⟩ ⟨hi,hl,hu,hus,hlm,hlb⟩
 dsimp only at hi hl hu hus hlm hlb ⊢
 by_cases hlt:i<256
 ·have rdc:=fun {L:List Ent}=>rdI (L:=L) h1 (i:=i) (by omega)
  have hca:ca≠none:=neI h1 (by omega)
  obtain ⟨cn,hc1,hc2,hc3⟩:=hcn i hlt
  rw [hc1] at rdc
  have q0:((i:Nat):Int).toNat=i:=by omega
  have q1:((cn:Nat):Int).toNat=cn:=by omega
  have hul:=zqv us
  have kb:=zqx (us:=us) (j:=cn) (by omega)
  have hub:=zsv (us:=us) (j:=cn) (by omega)
  have hsp:=zfD (us:=us) (j:=cn) (b:=true) (by omega)
  have hsn:=uL (l:=l) (x:=cn)
  have hb4:cn+1<=(usL us).length:=by omega
  cases hv:us.getD cn false
  ·rw [hv] at hub
   (repeat' ((conv=>whnf);first|rw [q0]|rw [q1]|rw [Nat.mul_one]|rw [hub]|rw [hsp]|rw [hsn]|refine ⟨_,rdc,?_⟩|refine zh ?_|((first|apply zc|apply za|apply zd)<;>intro h<;>try (exfalso;omega))|refine pay ?_|refine And.intro (by first|exact kb|exact ⟨by unfold maxLen;omega,by omega⟩|exact ⟨rfl,hb4⟩) ?_|intro _));(all_goals (conv=>whnf))
   all_goals try (exfalso;omega)
   rename_i a2 c2
   have l1:(l++[cn]).length=l.length+1:=by simp
   refine zi ⟨i+1,us.set cn true,l++[cn],a2,c2⟩ ⟨hlt,by dsimp only;omega,by simp [hu],fun c hc=>?_,fun c hc=>?_,fun b hb=>?_⟩ (show 256 - (i+1)<256 - i by omega) (by dsimp only;rw [l1];(repeat ((conv=>whnf);refine vS ?_));exact trivial) (by dsimp only;rw [l1];exact Ref.takes [31,12] rfl (.refl _))
   ·dsimp only
    rw [zgW (by omega),Bool.or_eq_true,decide_eq_true_eq,hus c hc,List.mem_append,List.mem_singleton]
    exact Or.comm
   ·rcases List.mem_append.1 hc with hc|hc
    ·exact hlm c hc
    ·rw [List.mem_singleton.1 hc];exact ⟨i,hlt,hc3⟩
   ·by_cases hbi:b=i
    ·subst hbi;rw [hc3];simp
    ·exact List.mem_append_left _ (hlb b (by dsimp only at hb;omega))
  ·rw [hv] at hub
   (repeat' ((conv=>whnf);first|rw [q0]|rw [q1]|rw [Nat.mul_one]|rw [hub]|refine ⟨_,rdc,?_⟩|refine zh ?_|((first|apply zc|apply za|apply zd)<;>intro h<;>try (exfalso;omega))|refine pay ?_|refine And.intro (by first|exact kb) ?_|intro _));(all_goals (conv=>whnf))
   all_goals try (exfalso;omega)
   refine zi ⟨i+1,us,l,a,c⟩ ⟨hlt,by dsimp only;omega,hu,hus,hlm,fun b hb=>?_⟩ (show 256 - (i+1)<256 - i by omega) (by (repeat ((conv=>whnf);refine vS ?_));exact trivial) (Ref.takes [31,12] rfl (.refl _))
   by_cases hbi:b=i
   ·subst hbi;rw [hc3];exact (hus cn hc2).1 hv
   ·exact hlb b (by dsimp only at hb;omega)
 ·(repeat' ((conv=>whnf);first|refine zh ?_|((first|apply zc|apply za|apply zd)<;>intro h<;>try (exfalso;omega))|refine pay ?_|intro _));(all_goals (conv=>whnf))
  all_goals try (exfalso;omega)
  obtain rfl:i=256:=by omega
  exact ⟨⟨_,Ref.takes [31] rfl (.refl _),l,a,c,rfl,rfl,⟨hlm,hlb⟩,hl⟩⟩
theorem zaj {w:World} {fp:List Nat} {L:List Ent} {a:Option Addr} {l:List Nat} {i:Nat} (h:In w fp a (enL l)) (hi:i<l.length):Rd w fp L (.el a i) [.int .i64 ((l.getD i 0:Nat):Int)]:=by
 refine h.rd ?_
 unfold enL zu
 rw [List.map_map,List.getElem?_map,g1q,g2q hi];rfl
def zyd (M:Mch) (l:List Nat) (v:Value) (L1:List Ent):Prop:=∃ (st:List Nat) (a:Option Addr) (c:Nat),v=.slice a st.length c/\L1=[.own 21 a st.length c zk 1 (enL st)]/\Rst M l st
structure Rs (M:Mch) (n:Nat) (us:List Bool) (st:List Nat):Prop where
 ul:us.length=n
 us:∀ q,q<n->(us.getD q false=true↔q∈st)
 nodup:st.Nodup
 start:M.start.toNat∈st
 lt:∀ q∈st,q<n
 to:∀ q∈st,∃ t,BT t/\zA M M.start.toNat t=q
theorem xd {l z:List Nat} {j:Nat} (h:j<l.length):(l++z).getD j 0=l.getD j 0:=by
 simp only [g1q,List.getElem?_append_left h]
structure RsG where
 j:Nat
 us:List Bool
 st:List Nat
 a:Option Addr
 c:Nat
theorem zsw (M:Mch) (q b:Nat) (t:List Nat):zA M q (t++[b])=stp M (zA M q t) b:=by rw [xZ];rfl
theorem Rs.put {M:Mch} {n:Nat} {us:List Bool} {st:List Nat} (h:Rs M n us st) {q p b:Nat} (hp:p∈st) (hb:b<256) (hq:stp M p b=q) (hn:q<n) (hv:us.getD q false=false):Rs M n (us.set q true) (st++[q]) where
 ul:=by simp [h.ul]
 us:=fun x hx=>by
  rw [zgW (by have:=h.ul;omega),Bool.or_eq_true,decide_eq_true_eq,h.us x hx,List.mem_append,List.mem_singleton]
  exact Or.comm
 nodup:=List.nodup_append.2 ⟨h.nodup,by simp,fun x hx y hy e=>by
  rw [List.mem_singleton] at hy
  subst hy;subst e
  have:=(h.us x hn).2 hx
  rw [hv] at this;cases this⟩
 start:=List.mem_append_left _ h.start
 lt:=fun x hx=>by
  rcases List.mem_append.1 hx with hx|hx
  ·exact h.lt x hx
  ·rw [List.mem_singleton.1 hx];exact hn
 to:=fun x hx=>by
  rcases List.mem_append.1 hx with hx|hx
  ·exact h.to x hx
  ·obtain ⟨t,ht,e⟩:=h.to p hp
   refine ⟨t++[b],ht.append (BT.nil.cons hb),?_⟩
   rw [zsw,e,hq,List.mem_singleton.1 hx]
theorem zkn {w:World} {k:Nat} (x:MA) (hx:McI w [] x) (hM:MOk x.m k) (l:List Nat) (hO:Occ x.m l) (hl:l.length<=256) (la:Option Addr) (lc:Nat) (hli:In w [] la (enL l)) :
 Calls Tryz.prog vW #[x.v,.slice la l.length lc] w fun e w'=>∃ v L1,e=.returned v/\R w [] L1 w'/\zyd x.m l v L1:=by
 refine zQ [.v x.v,.v (.slice la l.length lc)] zfw (by simp) ?_
 obtain ⟨n1,n2,n3,n4,n5,n6⟩:=zeE hM
 have hrw:=fun r hr=>zhm (r:=r) hM hr
 have hk1:=hM.k1
 have hlk:=fun c hc=>hO.lt hM (c:=c) hc
 have hdl:∀ (q c:Nat) (r:RA),x.nr[q]?=some r->c<k->r.xs.getD c 0=((dl x.m q c:Nat):Int):=fun q c r hr hc=>by
  obtain ⟨e1,e2⟩:=hrw r (List.mem_of_getElem? hr)
  have e3:x.m.nx.getD q []=r.xs:=by
   show (x.nr.map RA.xs).getD q []=_
   rw [g1q,List.getElem?_map,hr];rfl
  unfold dl
  rw [e3]
  exact (Int.toNat_of_nonneg (e2 _ (zZ (by omega))).1).symm
 have hml:x.m.nx.length=x.nr.length:=g8q ..
 have hstN:x.start=((x.m.start.toNat:Nat):Int):=(Int.toNat_of_nonneg n5).symm
 have hst0:x.m.start.toNat<x.nr.length:=by have:x.m.start=x.start:=rfl;omega
 obtain ⟨M,hMM⟩:∃ M,x.m=M:=⟨_,rfl⟩
 rw [hMM] at hM hO hdl hml hstN hst0 ⊢
 obtain ⟨start,cls,ca,cc,nr,na,nc,acc,aa,ac⟩:=x
 obtain ⟨h1,h2,h3,h4⟩:=hx
 dsimp only [MA.v,MA.cells] at *
 obtain ⟨s0,hs0⟩:∃ s0,M.start.toNat=s0:=⟨_,rfl⟩
 rw [hs0] at hstN hst0
 subst hstN
 have q0:((s0:Nat):Int).toNat=s0:=by omega
 have z1:=zh5 nr.length
 have hsp0:=zfD (us:=List.replicate nr.length false) (j:=s0) (b:=true) (by simpa using hst0)
 have hul0:(usL (List.replicate nr.length false)).length=nr.length:=by simp [usL]
 have hlal:0<l.length->la≠none:=fun h=>hli.ne' (k:=0) (by rw [qW];exact h)
 have qn:((nr.length:Nat):Int).toNat=nr.length:=by omega
 (repeat' ((conv=>whnf);first|rw [q0]|rw [Nat.mul_one]|rw [qn]|rw [z1]|rw [hsp0]|refine zh ?_|((first|apply zc|apply za|apply zd)<;>intro h<;>try (exfalso;omega))|refine pay ?_|refine And.intro (by first|exact ⟨rfl,by rw [qn,z1,hul0];omega⟩|exact ⟨rfl,by rw [z1,hul0];omega⟩|exact ⟨rfl,by rw [hul0];omega⟩) ?_|intro _));(all_goals (conv=>whnf))
 all_goals try (exfalso;omega)
 rename_i b2 b14 b21
 refine zw RsG (fun g=>[(1,.v (.slice la l.length lc)),(2,.ptr 2 b2 0),(5,.sl 14 (some ⟨b14,0,none⟩) nr.length nr.length),(6,.sl 21 g.a g.st.length g.c),(7,.v (.int .i64 g.j))])
  (fun g=>[.own 21 g.a g.st.length g.c zk 1 (enL g.st),.own 14 (some ⟨b14,0,none⟩) nr.length nr.length qe 1 (usL g.us),.box 2 b2 [.int .i64 s0,.slice ca cls.length cc,.slice na nr.length nc,.slice aa acc.length ac] zg])
  (fun g=>Rs M nr.length g.us g.st/\g.j<=g.st.length/\∀ i,i<g.j->∀ c∈l,dl M (g.st.getD i 0) c∈g.st) (fun g=>256 - g.j)
  ⟨0,(List.replicate nr.length false).set s0 true,[s0],some ⟨b21,0,none⟩,1⟩ ⟨⟨by simp,fun q hq=>?_,by simp,by simp [hs0],by simpa using hst0,fun q hq=>⟨[],BT.nil,?_⟩⟩,Nat.zero_le _,fun i hi=>by dsimp only at hi;omega⟩ (by (repeat ((conv=>whnf);refine vS ?_));exact trivial)
  (Ref.takes [21,14,2] rfl (.refl _)) ?_
 ·dsimp only
  rw [zgW (by simpa using hst0)]
  simp [g1q,List.getElem?_replicate,hq]
 ·rw [List.mem_singleton] at hq
  rw [hq];exact hs0
 rintro ⟨j,us,st,a,c⟩ ⟨hS,hj,hcl⟩
 dsimp only at hS hj hcl ⊢
 have hsl:=xj hS.nodup hS.lt
 by_cases hlt:j<st.length
 ·have hpm:st.getD j 0∈st:=zZ hlt
  have hpn:=hS.lt _ hpm
  have q1:((j:Nat):Int).toNat=j:=by omega
  (repeat' ((conv=>whnf);first|rw [q1]|refine ⟨.sl 21 _ _ _,⟨rfl,rfl,rfl,rfl⟩,?_⟩|refine zh ?_|((first|apply zc|apply za|apply zd)<;>intro h<;>try (exfalso;omega))|refine pay ?_|intro _));(all_goals (conv=>whnf))
  all_goals try (exfalso;omega)
  refine zw (RsG × List Nat) (fun g=>[(1,.v (.slice la l.length lc)),(2,.ptr 2 b2 0),(5,.sl 14 (some ⟨b14,0,none⟩) nr.length nr.length),(6,.sl 21 g.1.a g.1.st.length g.1.c),(7,.v (.int .i64 j)),(28,.v (.slice la l.length lc)),(29,.v (.int .i64 l.length)),(30,.v (.int .i64 g.1.j))])
   (fun g=>[.own 21 g.1.a g.1.st.length g.1.c zk 1 (enL g.1.st),.own 14 (some ⟨b14,0,none⟩) nr.length nr.length qe 1 (usL g.1.us),.box 2 b2 [.int .i64 s0,.slice ca cls.length cc,.slice na nr.length nc,.slice aa acc.length ac] zg])
   (fun g=>Rs M nr.length g.1.us g.1.st/\g.1.j<=l.length/\g.1.st=st++g.2/\∀ i,i<g.1.j->dl M (st.getD j 0) (l.getD i 0)∈g.1.st) (fun g=>l.length - g.1.j)
   ⟨⟨0,us,st,a,c⟩,[]⟩ ⟨hS,Nat.zero_le _,by simp,fun i hi=>by dsimp only at hi;omega⟩ (by (repeat ((conv=>whnf);refine vS ?_));exact trivial) (Ref.takes [21,14,2] rfl (.refl _)) ?_
  rintro ⟨⟨i,us1,st1,a1,c1⟩,z⟩ ⟨hS1,hi,hz,hd⟩
  dsimp only at hS1 hi hz hd ⊢
  have hsl1:=xj hS1.nodup hS1.lt
  have hst1:st1.getD j 0=st.getD j 0:=by rw [hz];exact xd hlt
  have hj1:j<st1.length:=by rw [hz,g6q];omega
  by_cases hil:i<l.length
  ·have q2:((i:Nat):Int).toNat=i:=by omega
   have rdc:=fun {L:List Ent}=>zaj (L:=L) hli hil
   have hla:=hlal (by omega)
   have hcm:l.getD i 0∈l:=zZ hil
   have hck:=hlk _ hcm
   obtain ⟨bx,hbx,hbc⟩:=hO.has _ hcm
   obtain ⟨cn,hcn⟩:∃ cn,l.getD i 0=cn:=⟨_,rfl⟩
   obtain ⟨p,hp⟩:∃ p,st.getD j 0=p:=⟨_,rfl⟩
   rw [hcn] at rdc hcm hck hbc
   rw [hp] at hpm hpn hst1 hd
   obtain ⟨r,hr⟩:∃ r,nr[p]?=some r:=⟨_,g2q hpn⟩
   have rdr:=fun {L:List Ent}=>h2.rd (L:=L) (k:=p) (v:=r.v) (by rw [List.getElem?_map,hr];rfl)
   have hna:na≠none:=h2.ne' (k:=0) (by rw [g8q];exact n1)
   obtain ⟨hrl,hrq⟩:=hrw r (List.mem_of_getElem? hr)
   have hrin:=h4 r (List.mem_of_getElem? hr)
   have rdq:=fun {L:List Ent}=>rdI (L:=L) hrin (i:=cn) (by omega)
   have hra:r.a≠none:=neI hrin (by omega)
   have hdq:=hdl p cn r hr hck
   rw [hdq] at rdq
   have hqn:dl M p cn<nr.length:=by
    have:=(hrq _ (zZ (d:=0) (by omega:cn<r.xs.length))).2
    rw [hdq] at this;omega
   have hstp:stp M p bx=dl M p cn:=by rw [zww,hbc]
   obtain ⟨q,hq⟩:∃ q,dl M p cn=q:=⟨_,rfl⟩
   rw [hq] at rdq hqn hstp
   have hu1:=uj (l:=st1) (j:=j) hj1
   rw [hst1] at hu1
   have k1:=jT (l:=st1) (j:=j) hj1
   have q3:((p:Nat):Int).toNat=p:=by omega
   have q4:((cn:Nat):Int).toNat=cn:=by omega
   have q5:((q:Nat):Int).toNat=q:=by omega
   have hul:=hS1.ul
   have hul1:=zqv us1
   have kb:=zqx (us:=us1) (j:=q) (by omega)
   have hub:=zsv (us:=us1) (j:=q) (by omega)
   have hsp:=zfD (us:=us1) (j:=q) (b:=true) (by omega)
   have hsn:=uL (l:=st1) (x:=q)
   have hb4:q+1<=(usL us1).length:=by omega
   have hlz:z.length=st1.length - st.length:=by rw [hz,g6q];omega
   have hdone:∀ {s2:List Nat} {i':Nat},(∀ x∈st1,x∈s2)->q∈s2->i'<i+1->dl M p (l.getD i' 0)∈s2:=fun {s2 i'} hsub hqm hi'=>by
    by_cases he:i'=i
    ·rw [he,hcn,hq];exact hqm
    ·exact hsub _ (hd i' (by omega))
   cases hv:us1.getD q false
   ·rw [hv] at hub
    (repeat' ((conv=>whnf);first|rw [q1]|rw [q2]|rw [q3]|rw [q4]|rw [q5]|rw [Nat.mul_one]|rw [hu1]|rw [hub]|rw [hsp]|rw [hsn]|refine ⟨_,rdc,?_⟩|refine ⟨_,rdq,?_⟩|refine ⟨_,_,_,rdr,?_⟩|refine ⟨.sl 21 _ _ _,⟨rfl,rfl,rfl,rfl⟩,?_⟩|refine zh ?_|((first|apply zc|apply za|apply zd)<;>intro h<;>try (exfalso;omega))|refine pay ?_|refine And.intro (by first|exact kb|exact k1|exact ⟨by unfold maxLen;omega,by omega⟩|exact ⟨rfl,hb4⟩) ?_|intro _));(all_goals (conv=>whnf))
    all_goals try (exfalso;omega)
    rename_i a2 c2
    have l1:(st1++[q]).length=st1.length+1:=by simp
    exact zi (⟨⟨i+1,us1.set q true,st1++[q],a2,c2⟩,z++[q]⟩:RsG × List Nat) ⟨hS1.put (by rw [hz];exact List.mem_append_left _ hpm) hbx hstp hqn hv,hil,by dsimp only;rw [hz,List.append_assoc],fun i' hi'=>by dsimp only at hi' ⊢;rw [hp];exact hdone (fun x hx=>List.mem_append_left _ hx) (by simp) hi'⟩ (by dsimp only;omega) (by dsimp only;rw [l1];(repeat ((conv=>whnf);refine vS ?_));exact trivial) (by dsimp only;rw [l1];exact Ref.takes [21,14,2] rfl (.refl _))
   ·rw [hv] at hub
    (repeat' ((conv=>whnf);first|rw [q1]|rw [q2]|rw [q3]|rw [q4]|rw [q5]|rw [Nat.mul_one]|rw [hu1]|rw [hub]|refine ⟨_,rdc,?_⟩|refine ⟨_,rdq,?_⟩|refine ⟨_,_,_,rdr,?_⟩|refine ⟨.sl 21 _ _ _,⟨rfl,rfl,rfl,rfl⟩,?_⟩|refine zh ?_|((first|apply zc|apply za|apply zd)<;>intro h<;>try (exfalso;omega))|refine pay ?_|refine And.intro (by first|exact kb|exact k1) ?_|intro _));(all_goals (conv=>whnf))
    all_goals try (exfalso;omega)
    exact zi (⟨⟨i+1,us1,st1,a1,c1⟩,z⟩:RsG × List Nat) ⟨hS1,hil,hz,fun i' hi'=>by dsimp only at hi' ⊢;rw [hp];exact hdone (fun x hx=>hx) ((hS1.us q hqn).1 hv) hi'⟩ (by dsimp only;omega) (by (repeat ((conv=>whnf);refine vS ?_));exact trivial) (Ref.takes [21,14,2] rfl (.refl _))
  ·(repeat' ((conv=>whnf);first|refine zh ?_|((first|apply zc|apply za|apply zd)<;>intro h<;>try (exfalso;omega))|refine pay ?_|intro _));(all_goals (conv=>whnf))
   all_goals try (exfalso;omega)
   have hie:i=l.length:=by omega
   refine zi ⟨j+1,us1,st1,a1,c1⟩ ⟨hS1,by dsimp only;omega,fun i' hi' c' hc'=>?_⟩ (show 256 - (j+1)<256 - j by omega) (by (repeat ((conv=>whnf);refine vS ?_));exact trivial) (Ref.takes [21,14,2] rfl (.refl _))
   dsimp only at hi' ⊢
   by_cases he:i'=j
   ·subst he
    rw [hst1]
    obtain ⟨y,hy,rfl⟩:=List.getElem_of_mem hc'
    have:=hd y (by omega)
    rw [g1q (l:=l),g2q hy] at this
    exact this
   ·rw [hz,xd (by omega)]
    exact List.mem_append_left _ (hcl i' (by omega) c' hc')
 ·(repeat' ((conv=>whnf);first|refine ⟨.sl 21 _ _ _,⟨rfl,rfl,rfl,rfl⟩,?_⟩|refine zh ?_|((first|apply zc|apply za|apply zd)<;>intro h<;>try (exfalso;omega))|refine pay ?_|intro _));(all_goals (conv=>whnf))
  all_goals try (exfalso;omega)
  refine ⟨⟨_,Ref.takes [21] rfl (.refl _),st,a,c,rfl,rfl,hS.nodup,hS.start,fun q hq=>by rw [hml];exact hS.lt q hq,hS.to,fun q hq c' hc'=>?_⟩⟩
  obtain ⟨y,hy,rfl⟩:=List.getElem_of_mem hq
  have:=hcl y (by omega) c' hc'
  rw [g1q,g2q hy] at this
  exact this
end
section
open Go.EG
def bys (k:List Nat):ByteArray:=⟨(k.map UInt8.ofNat).toArray⟩
theorem zqz {a b:List Nat} (ha:BT a) (hb:BT b) (h:bys a=bys b):a=b:=by
 have h1:a.map UInt8.ofNat=b.map UInt8.ofNat:=by
  have:=congrArg (fun x=>x.data.toList) h
  simpa [bys] using this
 apply List.ext_getElem?
 intro i
 have h2:=congrArg (fun l=>l[i]?) h1
 simp only [List.getElem?_map] at h2
 cases e1:a[i]?<;>cases e2:b[i]?<;>rw [e1,e2] at h2<;>simp at h2 ⊢
 have g1:=ha _ (List.mem_of_getElem? e1)
 have g2:=hb _ (List.mem_of_getElem? e2)
 have:=congrArg UInt8.toNat h2
 simp at this
 omega
theorem zqA {k:List Nat} (h:BT k):byL k=(k.map UInt8.ofNat).map fun b:UInt8=>Value.int .u8 (b.toNat:Int):=by
 unfold byL zu
 rw [List.map_map,List.map_map]
 refine List.map_congr_left fun x hx=>?_
 have:=h x hx
 simp only [Function.comp]
 congr 1
 simp
 omega
theorem zfE {l:List Nat} {q v:Nat} (h:q<l.length):zv (byL l) q [.int .u8 (v:Int)]=byL (l.set q v):=by
 unfold byL
 rw [uX (by simpa using h),List.map_set];rfl
theorem zh6 (n:Nat):(List.replicate n [Value.int .u8 0]).flatten=byL (List.replicate n 0):=by
 induction n with
 | zero=>rfl
 | succ n ih=>rw [List.replicate_succ,List.flatten_cons,ih];rfl
theorem zbZ (n:Nat):(List.replicate n [Value.int .i64 0]).flatten=enL (List.replicate n 0):=by
 rw [zaa];unfold enL;rw [List.map_replicate];rfl
def zb0:Nat->List (List Nat)->List (Value × Value)
 | _,[]=>[]
 | i,k::ks=>(.string (bys k),.int .i64 (i:Int))::zb0 (i+1) ks
def zbs (ks:List (List Nat)):List (Value × Value):=zb0 0 ks
theorem zko:∀ {ks:List (List Nat)} {i:Nat} {k:List Nat},BT k->(∀ x∈ks,BT x)->k∉ks->qI (zb0 i ks) (.string (bys k))=none/\yd (zb0 i ks) (.string (bys k)) (.int .i64 ((i+ks.length:Nat):Int))=zb0 i (ks++[k])
 | [],i,k,_,_,_=>⟨rfl,rfl⟩
 | x :: ks,i,k,hk,hx,hn => by
   have hne:¬bys k=bys x:=fun e=>hn (by rw [zqz hk (hx x g5q) e];exact g5q)
   obtain ⟨h1,h2⟩:=zko (ks:=ks) (i:=i+1) (k:=k) hk (fun y hy=>hx y (g4q _ hy)) (fun h=>hn (g4q _ h))
   simp only [zb0,qI,yd,qB,hne,decide_false,Bool.false_eq_true,if_false,List.cons_append,h1,true_and]
   rw [show i+(x::ks).length=i+1+ks.length by simp;omega,h2]
theorem zkp:∀ {ks:List (List Nat)} {i j:Nat} {k:List Nat},(∀ x∈ks,BT x)->ks.Nodup->ks[j]?=some k->qI (zb0 i ks) (.string (bys k))=some (.int .i64 ((i+j:Nat):Int))
 | [],i,j,k,_,_,h=>by simp at h
 | x :: ks,i,0,k,hx,hn,h => by
   simp only [List.getElem?_cons_zero,g3q] at h
   subst h
   simp [zb0,qI,qB]
 | x :: ks,i,j + 1,k,hx,hn,h => by
   simp only [List.getElem?_cons_succ] at h
   have hm:=List.mem_of_getElem? h
   have hne:¬bys k=bys x:=fun e=>by
    have:=zqz (hx k (g4q _ hm)) (hx x g5q) e
    subst this
    exact (List.nodup_cons.1 hn).1 hm
   have ih:=zkp (ks:=ks) (i:=i+1) (j:=j) (k:=k) (fun y hy=>hx y (g4q _ hy)) (List.nodup_cons.1 hn).2 h
   simp only [zb0,qI,qB,hne,decide_false,Bool.false_eq_true,if_false]
   rw [ih]
   congr 3
   omega
theorem zl2 {ks:List (List Nat)} {k:List Nat} (hk:BT k) (hx:∀ x∈ks,BT x) (hn:k∉ks):qI (zbs ks) (.string (bys k))=none/\yd (zbs ks) (.string (bys k)) (.int .i64 ((ks.length:Nat):Int))=zbs (ks++[k]):=by
 have:=zko (i:=0) hk hx hn
 rw [Nat.zero_add] at this
 exact this
theorem zl3 {ks:List (List Nat)} {k:List Nat} {j:Nat} (hx:∀ x∈ks,BT x) (hn:ks.Nodup) (h:ks[j]?=some k):qI (zbs ks) (.string (bys k))=some (.int .i64 ((j:Nat):Int)):=by
 have:=zkp (i:=0) hx hn h
 rw [Nat.zero_add] at this
 exact this
end
section
open Go.EG
attribute [local irreducible] zT yE Go.Calls
set_option maxRecDepth 20000
set_option maxHeartbeats 4000000
def fnL (l:List Nat) (q:Nat):Nat:=l.getD q 0
structure Rp (M:Mch) (l st:List Nat) (b:Nat->Nat) (i:Nat) (nx fs:List Nat):Prop where
 nodup:(fs.map (kM M l b)).Nodup
 mem:∀ q∈fs,q∈st
 at_:∀ j,j<i->fnL nx (st.getD j 0)<fs.length/\kM M l b (fs.getD (fnL nx (st.getD j 0)) 0)=kM M l b (st.getD j 0)
theorem zaP {nx:List Nat} {q v x:Nat} (hq:q<nx.length):fnL (nx.set q v) x=if x=q then v else fnL nx x:=by
 unfold fnL
 simp only [g1q,List.getElem?_set]
 by_cases h:q=x
 ·subst h;rw [if_pos rfl,if_pos rfl,if_pos hq];rfl
 ·rw [if_neg h,if_neg (Ne.symm h)]
theorem Rp.old {M:Mch} {l st nx fs:List Nat} {b:Nat->Nat} {i j:Nat} (h:Rp M l st b i nx fs) (hn:st.Nodup) (hi:i<st.length) (hq:st.getD i 0<nx.length) (hj:(fs.map (kM M l b))[j]?=some (kM M l b (st.getD i 0))):Rp M l st b (i+1) (nx.set (st.getD i 0) j) fs where
 nodup:=h.nodup
 mem:=h.mem
 at_:=fun x hx=>by
  obtain ⟨hjl,hje⟩:=List.getElem?_eq_some_iff.1 hj
  have hjl':j<fs.length:=by simpa using hjl
  rw [zaP hq]
  by_cases he:x=i
  ·subst he
   rw [if_pos rfl]
   refine ⟨hjl',?_⟩
   rw [List.getElem_map] at hje
   rw [g1q,g2q hjl']
   exact hje
  ·rw [if_neg (fun e=>he (zfq hn (by omega) hi e))]
   exact h.at_ x (by omega)
theorem Rp.new {M:Mch} {l st nx fs:List Nat} {b:Nat->Nat} {i:Nat} (h:Rp M l st b i nx fs) (hn:st.Nodup) (hi:i<st.length) (hq:st.getD i 0<nx.length) (hj:kM M l b (st.getD i 0)∉fs.map (kM M l b)):Rp M l st b (i+1) (nx.set (st.getD i 0) fs.length) (fs++[st.getD i 0]) where
 nodup:=by
  rw [List.map_append]
  exact List.nodup_append.2 ⟨h.nodup,by simp,fun x hx y hy e=>by simp at hy;subst hy;subst e;exact hj hx⟩
 mem:=fun q hq=>by
  rcases List.mem_append.1 hq with hq|hq
  ·exact h.mem q hq
  ·rw [List.mem_singleton.1 hq];exact zZ hi
 at_:=fun x hx=>by
  rw [zaP hq,g6q]
  by_cases he:x=i
  ·subst he
   rw [if_pos rfl]
   refine ⟨by simp,?_⟩
   simp [g1q]
  ·rw [if_neg (fun e=>he (zfq hn (by omega) hi e))]
   obtain ⟨h1,h2⟩:=h.at_ x (by omega)
   exact ⟨by omega,by rw [xd h1];exact h2⟩
theorem Rp.rnd {M:Mch} {l st nx fs:List Nat} {b:Nat->Nat} (h:Rp M l st b st.length nx fs):Rnd M l st b (fnL nx) fs where
 nodup:=h.nodup
 mem:=h.mem
 at_:=fun q hq=>by
  obtain ⟨j,hj,rfl⟩:=List.getElem_of_mem hq
  have:=h.at_ j hj
  rwa [g1q,g2q hj] at this
def zye (M:Mch) (l st:List Nat) (v:Value) (L1:List Ent):Prop:=∃ (bl fs:List Nat) (ba fa:Option Addr) (bc fc:Nat),v=.tuple #[.slice ba bl.length bc,.slice fa fs.length fc] /\
 L1=[.own 44 ba bl.length bc zk 1 (enL bl),.own 105 fa fs.length fc zk 1 (enL fs)]/\bl.length=M.nx.length/\Fin1 M l st (fnL bl) fs
structure R1G where
 i:Nat
 bl:List Nat
structure R2G where
 bl:List Nat
 nb:Nat
 ba:Option Addr
 fa:Option Addr
 fc:Nat
structure R3G where
 i:Nat
 nx:List Nat
 fs:List Nat
 kr:List Nat
 fa:Option Addr
 fc:Nat
structure R4G where
 j:Nat
 kr:List Nat
theorem zsx {x:MA} {k q c:Nat} {r:RA} (hM:MOk x.m k) (hr:x.nr[q]?=some r) (hc:c<k):r.xs.getD c 0=((dl x.m q c:Nat):Int)/\dl x.m q c<x.nr.length/\c<r.xs.length:=by
 obtain ⟨e1,e2⟩:=zhm hM (List.mem_of_getElem? hr)
 have e3:x.m.nx.getD q []=r.xs:=by
  show (x.nr.map RA.xs).getD q []=_
  rw [g1q,List.getElem?_map,hr];rfl
 have e4:=e2 _ (zZ (l:=r.xs) (i:=c) (d:=0) (by omega))
 have e5:r.xs.getD c 0=((dl x.m q c:Nat):Int):=by
  unfold dl
  rw [e3]
  exact (Int.toNat_of_nonneg e4.1).symm
 exact ⟨e5,by rw [e5] at e4;omega,by omega⟩
theorem zbt {kr key:List Nat} {j v:Nat} (h:kr.take j=key.take j) (hj:j<kr.length) (hk:key[j]?=some v):(kr.set j v).take (j+1)=key.take (j+1):=by
 rw [List.take_add_one,List.getElem?_set_self hj,List.take_set_of_le (Nat.le_refl _),h,List.take_add_one,hk]
theorem zoE {w:World} {k:Nat} (x:MA) (hx:McI w [] x) (hM:MOk x.m k) (l:List Nat) (hO:Occ x.m l) (hl:l.length<=256) (la:Option Addr) (lc:Nat) (hli:In w [] la (enL l)) (st:List Nat) (hS:Rst x.m l st) (sa:Option Addr) (sc:Nat) (hsi:In w [] sa (enL st)) :
 Calls Tryz.prog u7 #[x.v,.slice la l.length lc,.slice sa st.length sc] w fun e w'=>∃ v L1,e=.returned v/\R w [] L1 w'/\zye x.m l st v L1:=by
 refine zQ [.v x.v,.v (.slice la l.length lc),.v (.slice sa st.length sc)] zhD (by simp) ?_
 obtain ⟨n1,n2,n3,n4,n5,n6⟩:=zeE hM
 have hk1:=hM.k1
 have hlk:=fun c hc=>hO.lt hM (c:=c) hc
 have hdr:=fun q c r hr hc=>zsx (q:=q) (c:=c) (r:=r) hM hr hc
 have hml:x.m.nx.length=x.nr.length:=g8q ..
 have hsl:st.length<=256:=by have:=xj hS.nodup hS.lt;omega
 have hacc:∀ q,qO x.m q=x.acc.getD q false:=fun _=>rfl
 have hst:=fun q hq=>hS.lt q hq
 obtain ⟨M,hMM⟩:∃ M,x.m=M:=⟨_,rfl⟩
 rw [hMM] at hM hO hdr hml hS hacc hst ⊢
 obtain ⟨start,cls,ca,cc,nr,na,nc,acc,aa,ac⟩:=x
 obtain ⟨h1,h2,h3,h4⟩:=hx
 dsimp only [MA.v,MA.cells] at *
 rw [hml] at hst
 have qn:((nr.length:Nat):Int).toNat=nr.length:=by omega
 have z1:=zbZ nr.length
 have hlal:0<l.length->la≠none:=fun h=>hli.ne' (k:=0) (by rw [qW];exact h)
 have hsal:0<st.length->sa≠none:=fun h=>hsi.ne' (k:=0) (by rw [qW];exact h)
 have hs0:0<st.length:=List.length_pos_of_mem hS.start
 have hna:na≠none:=h2.ne' (k:=0) (by rw [g8q];exact n1)
 have haa:aa≠none:=h3.ne' (k:=0) (by rw [g8q];omega)
 (repeat' ((conv=>whnf);first|refine zh ?_|((first|apply zc|apply za|apply zd)<;>intro h<;>try (exfalso;omega))|refine pay ?_|intro _));(all_goals (conv=>whnf))
 all_goals try (exfalso;omega)
 rename_i b3 b23
 refine zw R1G (fun g=>[(1,.v (.slice la l.length lc)),(2,.v (.slice sa st.length sc)),(3,.ptr 3 b3 0),(6,.sl 23 (some ⟨b23,0,none⟩) nr.length nr.length),(7,.v (.slice none 0 0)),(24,.v (.slice sa st.length sc)),(25,.v (.int .i64 st.length)),(26,.v (.int .i64 g.i))])
  (fun g=>[.own 23 (some ⟨b23,0,none⟩) nr.length nr.length zk 1 (enL g.bl),.box 3 b3 [.int .i64 start,.slice ca cls.length cc,.slice na nr.length nc,.slice aa acc.length ac] zg])
  (fun g=>g.i<=st.length/\g.bl.length=nr.length/\(∀ q,fnL g.bl q=if q∈st.take g.i/\qO M q=true then 1 else 0)) (fun g=>st.length - g.i)
  ⟨0,List.replicate nr.length 0⟩ ⟨Nat.zero_le _,by simp,fun q=>by simp [fnL,g1q,List.getElem?_replicate];split<;>rfl⟩ (by (repeat ((conv=>whnf);refine vS ?_));exact trivial)
  (Ref.takes [23,3] rfl (.own rfl z1 (.refl _))) ?_
 rintro ⟨i,bl⟩ ⟨hi,hbl,hbv⟩
 dsimp only at hi hbl hbv ⊢
 by_cases hlt:i<st.length
 ·have rds:=fun {L:List Ent}=>zaj (L:=L) hsi hlt
  have hsa:=hsal hs0
  have hqm:st.getD i 0∈st:=zZ hlt
  have hti:st.take (i+1)=st.take i++[st.getD i 0]:=by rw [List.take_add_one,g2q hlt,g1q,g2q hlt];rfl
  obtain ⟨q,hq⟩:∃ q,st.getD i 0=q:=⟨_,rfl⟩
  rw [hq] at rds hqm hti
  have hqn:=hst q hqm
  have q0:((i:Nat):Int).toNat=i:=by omega
  have q1:((q:Nat):Int).toNat=q:=by omega
  have rda:=fun {L:List Ent}=>h3.rd (L:=L) (k:=q) (v:=.bool (acc.getD q false)) (by rw [List.getElem?_map,g1q,g2q (by omega)];rfl)
  have hsp:=qJ (l:=bl) (q:=q) (v:=1) (by omega)
  have hb4:q+1<=(enL bl).length:=by rw [qW];omega
  have haq:=hacc q
  cases hv:acc.getD q false
  ·rw [hv] at rda haq
   (repeat' ((conv=>whnf);first|rw [q0]|rw [q1]|rw [Nat.mul_one]|refine ⟨_,rds,?_⟩|refine ⟨_,rda,?_⟩|refine zh ?_|((first|apply zc|apply za|apply zd)<;>intro h<;>try (exfalso;omega))|refine pay ?_|intro _));(all_goals (conv=>whnf))
   all_goals try (exfalso;omega)
   refine zi ⟨i+1,bl⟩ ⟨hlt,hbl,fun q'=>?_⟩ (show st.length - (i+1)<st.length - i by omega) (by (repeat ((conv=>whnf);refine vS ?_));exact trivial) (Ref.takes [23,3] rfl (.refl _))
   dsimp only
   rw [hbv q',hti]
   by_cases he:q'=q
   ·subst he;rw [haq];simp
   ·simp [he]
  ·rw [hv] at rda haq
   (repeat' ((conv=>whnf);first|rw [q0]|rw [q1]|rw [Nat.mul_one]|rw [show (1:Int)=((1:Nat):Int) from rfl,hsp]|refine ⟨_,rds,?_⟩|refine ⟨_,rda,?_⟩|refine zh ?_|((first|apply zc|apply za|apply zd)<;>intro h<;>try (exfalso;omega))|refine pay ?_|refine And.intro (by first|exact ⟨rfl,hb4⟩) ?_|intro _));(all_goals (conv=>whnf))
   all_goals try (exfalso;omega)
   refine zi ⟨i+1,bl.set q 1⟩ ⟨hlt,by simp [hbl],fun q'=>?_⟩ (show st.length - (i+1)<st.length - i by omega) (by (repeat ((conv=>whnf);refine vS ?_));exact trivial) (Ref.takes [23,3] rfl (.refl _))
   dsimp only
   rw [zaP (by omega),hbv q',hti]
   by_cases he:q'=q
   ·subst he;rw [haq];simp
   ·simp [he]
 obtain rfl:i=st.length:=by omega
 rw [List.take_length] at hbv
 have hB0:Blk M st (fnL bl) 0:=⟨fun q hq=>by rw [hbv];split<;>omega,fun q hq q' hq' he=>by
  rw [hbv,hbv] at he
  cases ha:qO M q<;>cases ha':qO M q'<;>simp [ha,ha',hq,hq'] at he ⊢,
  fun q hq q' hq' he=>by
   have:=he [] BT.nil
   simp only [lng,zA] at this
   rw [hbv,hbv,this];simp [hq,hq'],.inl rfl⟩
 clear hbv
 (repeat' ((conv=>whnf);first|refine zh ?_|((first|apply zc|apply za|apply zd)<;>intro h<;>try (exfalso;omega))|refine pay ?_|intro _));(all_goals (conv=>whnf))
 all_goals try (exfalso;omega)
 refine zw R2G (fun g=>[(1,.v (.slice la l.length lc)),(2,.v (.slice sa st.length sc)),(3,.ptr 3 b3 0),(6,.sl 23 g.ba nr.length nr.length),(7,.v (.slice g.fa g.nb g.fc))])
  (fun g=>[.own 23 g.ba nr.length nr.length zk 1 (enL g.bl),.box 3 b3 [.int .i64 start,.slice ca cls.length cc,.slice na nr.length nc,.slice aa acc.length ac] zg])
  (fun g=>g.bl.length=nr.length/\Blk M st (fnL g.bl) g.nb/\g.nb<=256) (fun g=>257 - g.nb)
  ⟨bl,0,some ⟨b23,0,none⟩,none,0⟩ ⟨hbl,hB0,Nat.zero_le _⟩ (by (repeat ((conv=>whnf);refine vS ?_));exact trivial) (Ref.takes [23,3] rfl (.refl _)) ?_
 clear hbl hB0
 rintro ⟨bl,nb,ba,fa,fc⟩ ⟨hbl,hB,hnb⟩
 dsimp only at hbl hB hnb ⊢
 have z2:=zh6 (l.length+1)
 have q5:((l.length:Int)+1).toNat=l.length+1:=by omega
 (repeat' ((conv=>whnf);first|rw [q5]|refine ⟨.sl 23 _ _ _,⟨rfl,rfl,rfl,rfl⟩,?_⟩|refine zh ?_|((first|apply zc|apply za|apply zd)<;>intro h<;>try (exfalso;omega))|refine pay ?_|intro _));(all_goals (conv=>whnf))
 all_goals try (exfalso;omega)
 rename_i b44 b45 b49
 obtain ⟨kf,hkf⟩:∃ kf,kM M l (fnL bl)=kf:=⟨_,rfl⟩
 have hkb:∀ q∈st,BT (kf q):=fun q hq y hy=>by
  rw [←hkf] at hy
  rcases List.mem_cons.1 hy with rfl|hy
  ·exact hB.lt q hq
  ·obtain ⟨c,hc,rfl⟩:=List.mem_map.1 hy
   exact hB.lt _ (hS.step q hq c hc)
 have hkl:∀ q,(kf q).length=l.length+1:=fun q=>by rw [←hkf];simp [kM]
 refine zw R3G (fun g=>[(1,.v (.slice la l.length lc)),(2,.v (.slice sa st.length sc)),(3,.ptr 3 b3 0),(6,.sl 23 ba nr.length nr.length),(7,.sl 105 g.fa g.fs.length g.fc),(10,.v (.int .i64 nb)),(11,.sl 44 (some ⟨b44,0,none⟩) nr.length nr.length),(12,.mp 45 b45),(13,.sl 49 (some ⟨b49,0,none⟩) (l.length+1) (l.length+1)),(50,.v (.slice sa st.length sc)),(51,.v (.int .i64 st.length)),(52,.v (.int .i64 g.i))])
  (fun g=>[.own 105 g.fa g.fs.length g.fc zk 1 (enL g.fs),.mapE 45 b45 .str (zbs (g.fs.map kf)),.own 49 (some ⟨b49,0,none⟩) (l.length+1) (l.length+1) qi 1 (byL g.kr),.own 44 (some ⟨b44,0,none⟩) nr.length nr.length zk 1 (enL g.nx),.own 23 ba nr.length nr.length zk 1 (enL bl),.box 3 b3 [.int .i64 start,.slice ca cls.length cc,.slice na nr.length nc,.slice aa acc.length ac] zg])
  (fun g=>g.i<=st.length/\g.nx.length=nr.length/\g.kr.length=l.length+1/\g.fs.length<=g.i/\Rp M l st (fnL bl) g.i g.nx g.fs) (fun g=>st.length - g.i)
  ⟨0,List.replicate nr.length 0,[],List.replicate (l.length+1) 0,none,0⟩ ⟨Nat.zero_le _,by simp,by simp,Nat.le_refl _,⟨by simp,fun q hq=>(by simp at hq),fun j hj=>(by dsimp only at hj;omega)⟩⟩ (by (repeat ((conv=>whnf);refine vS ?_));exact trivial)
  ((Ref.ownNil 105 zk 1).trans (Ref.takes [105,45,49,44,23,3] rfl (.keep rfl (fun _ h=>h) (.keep rfl (fun _ h=>h) (.own rfl z2 (.own rfl z1 (.refl _))))))) ?_
 rintro ⟨i,nx,fs,kr,fa,fc⟩ ⟨hi,hnx,hkr,hfs,hP⟩
 dsimp only at hi hnx hkr hfs hP ⊢
 by_cases hlt:i<st.length
 case neg =>
  obtain rfl:i=st.length:=by omega
  have hRn:=hP.rnd
  have hmo:=hRn.more hB hS
  have hle:=hRn.le
  have hpos:=hRn.pos hS
  by_cases hend:fs.length=nb
  ·(repeat' ((conv=>whnf);first|refine ⟨.sl 44 _ _ _,⟨rfl,rfl,rfl,rfl⟩,?_⟩|refine ⟨.sl 105 _ _ _,⟨rfl,rfl,rfl,rfl⟩,?_⟩|refine zh ?_|((first|apply zc|apply za|apply zd)<;>intro h<;>try (exfalso;omega))|refine pay ?_|intro _));(all_goals (conv=>whnf))
   all_goals try (exfalso;omega)
   refine ⟨⟨_,Ref.takes [44,105] rfl (.refl _),nx,fs,some ⟨b44,0,none⟩,fa,nr.length,fc,by rw [hnx],by rw [hnx],by rw [hnx,hml],hRn.fin hB hO hS hsl hend⟩⟩
  ·(repeat' ((conv=>whnf);first|refine ⟨.sl 44 _ _ _,⟨rfl,rfl,rfl,rfl⟩,?_⟩|refine ⟨.sl 105 _ _ _,⟨rfl,rfl,rfl,rfl⟩,?_⟩|refine zh ?_|((first|apply zc|apply za|apply zd)<;>intro h<;>try (exfalso;omega))|refine pay ?_|intro _));(all_goals (conv=>whnf))
   all_goals try (exfalso;omega)
   exact zi (⟨nx,fs.length,some ⟨b44,0,none⟩,fa,fc⟩:R2G) ⟨hnx,hRn.blk hB hO hS hsl,by dsimp only;omega⟩ (by dsimp only;omega) (by (repeat ((conv=>whnf);refine vS ?_));exact trivial) (Ref.takes [44,3] rfl (.own (k':=23) rfl rfl (.refl _)))
 have rds:=fun {L:List Ent}=>zaj (L:=L) hsi hlt
 have hsa:=hsal hs0
 have hqm:st.getD i 0∈st:=zZ hlt
 have hPo:=fun j=>hP.old (j:=j) hS.nodup hlt (by rw [hnx];exact hst _ hqm)
 have hPn:=hP.new hS.nodup hlt (by rw [hnx];exact hst _ hqm)
 obtain ⟨q,hq⟩:∃ q,st.getD i 0=q:=⟨_,rfl⟩
 rw [hq] at rds hqm hPo hPn
 rw [hkf] at hPo hPn
 have hqn:=hst q hqm
 have q0:((i:Nat):Int).toNat=i:=by omega
 have q1:((q:Nat):Int).toNat=q:=by omega
 have hbq:=hB.lt q hqm
 have hb1:=uj (l:=bl) (j:=q) (by omega)
 have kb1:=jT (l:=bl) (j:=q) (by omega)
 have hk0:(kf q)[0]?=some (bl.getD q 0):=by rw [←hkf];rfl
 obtain ⟨v,hv⟩:∃ v,bl.getD q 0=v:=⟨_,rfl⟩
 have hv2:fnL bl q=v:=hv
 rw [hv2] at hbq
 rw [hv] at hb1 hk0
 have q2:((v:Nat):Int)%256=(v:Int):=Int.emod_eq_of_lt (by omega) (by omega)
 have hsp:zv (byL kr) (Int.toNat 0) [.int .u8 (v:Int)]=byL (kr.set 0 v):=zfE (l:=kr) (q:=0) (v:=v) (by omega)
 have hk00:0<kr.length:=by omega
 have hkrl:=zcd kr
 have hb4:0+1<=(byL kr).length:=by omega
 (repeat' ((conv=>whnf);first|rw [q0]|rw [q1]|rw [q2]|rw [Nat.mul_one]|rw [hb1]|rw [hsp]|refine ⟨_,rds,?_⟩|refine ⟨.sl 23 _ _ _,⟨rfl,rfl,rfl,rfl⟩,?_⟩|refine zh ?_|((first|apply zc|apply za|apply zd)<;>intro h<;>try (exfalso;omega))|refine pay ?_|refine And.intro (by first|exact kb1|exact ⟨rfl,hb4⟩) ?_|intro _));(all_goals (conv=>whnf))
 all_goals try (exfalso;omega)
 refine zw R4G (fun g=>[(1,.v (.slice la l.length lc)),(2,.v (.slice sa st.length sc)),(3,.ptr 3 b3 0),(6,.sl 23 ba nr.length nr.length),(7,.sl 105 fa fs.length fc),(10,.v (.int .i64 nb)),(11,.sl 44 (some ⟨b44,0,none⟩) nr.length nr.length),(12,.mp 45 b45),(13,.sl 49 (some ⟨b49,0,none⟩) (l.length+1) (l.length+1)),(15,.v (.int .i64 q)),(50,.v (.slice sa st.length sc)),(51,.v (.int .i64 st.length)),(52,.v (.int .i64 i)),(63,.v (.slice la l.length lc)),(64,.v (.int .i64 l.length)),(65,.v (.int .i64 g.j))])
  (fun g=>[.own 105 fa fs.length fc zk 1 (enL fs),.mapE 45 b45 .str (zbs (fs.map kf)),.own 49 (some ⟨b49,0,none⟩) (l.length+1) (l.length+1) qi 1 (byL g.kr),.own 44 (some ⟨b44,0,none⟩) nr.length nr.length zk 1 (enL nx),.own 23 ba nr.length nr.length zk 1 (enL bl),.box 3 b3 [.int .i64 start,.slice ca cls.length cc,.slice na nr.length nc,.slice aa acc.length ac] zg])
  (fun g=>g.j<=l.length/\g.kr.length=l.length+1/\g.kr.take (g.j+1)=(kf q).take (g.j+1)) (fun g=>l.length - g.j)
  ⟨0,kr.set 0 v⟩ ⟨Nat.zero_le _,by simp [hkr],zbt (by simp) hk00 hk0⟩ (by (repeat ((conv=>whnf);refine vS ?_));exact trivial) (Ref.takes [105,45,49,44,23,3] rfl (.refl _)) ?_
 clear hkr hkrl hb4 hsp
 rintro ⟨j,kr⟩ ⟨hj,hkr,hkt⟩
 dsimp only at hj hkr hkt ⊢
 have hkrl:=zcd kr
 by_cases hjl:j<l.length
 ·have rdc:=fun {L:List Ent}=>zaj (L:=L) hli hjl
  have hla:=hlal (by omega)
  have hcm:l.getD j 0∈l:=zZ hjl
  have hkj:(kf q)[j+1]?=some (fnL bl (dl M q (l.getD j 0))):=by
   rw [←hkf]
   simp only [kM,List.getElem?_cons_succ,List.getElem?_map,g2q hjl,g1q,Option.map_some,Option.getD_some]
  obtain ⟨cn,hcn⟩:∃ cn,l.getD j 0=cn:=⟨_,rfl⟩
  rw [hcn] at rdc hcm hkj
  have hck:=hlk _ hcm
  obtain ⟨r,hr⟩:∃ r,nr[q]?=some r:=⟨_,g2q hqn⟩
  have rdr:=fun {L:List Ent}=>h2.rd (L:=L) (k:=q) (v:=r.v) (by rw [List.getElem?_map,hr];rfl)
  obtain ⟨hdq,hdn,hcr⟩:=hdr q cn r hr hck
  have hrin:=h4 r (List.mem_of_getElem? hr)
  have rdq:=fun {L:List Ent}=>rdI (L:=L) hrin (i:=cn) hcr
  have hra:r.a≠none:=neI hrin (by omega)
  rw [hdq] at rdq
  have hpst:=hS.step q hqm cn hcm
  have hbp:=hB.lt _ hpst
  obtain ⟨p,hp⟩:∃ p,dl M q cn=p:=⟨_,rfl⟩
  rw [hp] at rdq hdn hkj hbp
  have q3:((j:Nat):Int).toNat=j:=by omega
  have q4:((cn:Nat):Int).toNat=cn:=by omega
  have q6:((p:Nat):Int).toNat=p:=by omega
  have q7:((j:Int)+1).toNat=j+1:=by omega
  have hb2:=uj (l:=bl) (j:=p) (by omega)
  have kb2:=jT (l:=bl) (j:=p) (by omega)
  have hu2:fnL bl p=bl.getD p 0:=rfl
  rw [hu2] at hbp hkj
  obtain ⟨u,hu⟩:∃ u,bl.getD p 0=u:=⟨_,rfl⟩
  rw [hu] at hb2 hbp hkj
  have q8:((u:Nat):Int)%256=(u:Int):=Int.emod_eq_of_lt (by omega) (by omega)
  have hsp:=zfE (l:=kr) (q:=j+1) (v:=u) (by omega)
  have hb4:j+1+1<=(byL kr).length:=by omega
  have hj1:j+1<kr.length:=by omega
  (repeat' ((conv=>whnf);first|rw [q1]|rw [q3]|rw [q4]|rw [q6]|rw [q7]|rw [q8]|rw [Nat.mul_one]|rw [hb2]|rw [hsp]|refine ⟨_,rdc,?_⟩|refine ⟨_,rdq,?_⟩|refine ⟨_,_,_,rdr,?_⟩|refine ⟨.sl 23 _ _ _,⟨rfl,rfl,rfl,rfl⟩,?_⟩|refine zh ?_|((first|apply zc|apply za|apply zd)<;>intro h<;>try (exfalso;omega))|refine pay ?_|refine And.intro (by first|exact kb2|exact ⟨rfl,hb4⟩) ?_|intro _));(all_goals (conv=>whnf))
  all_goals try (exfalso;omega)
  exact zi (⟨j+1,kr.set (j+1) u⟩:R4G) ⟨hjl,by simp [hkr],zbt hkt hj1 hkj⟩ (by dsimp only;omega) (by (repeat ((conv=>whnf);refine vS ?_));exact trivial) (Ref.takes [105,45,49,44,23,3] rfl (.refl _))
 ·obtain rfl:j=l.length:=by omega
  have hkq:kr=kf q:=by
   rw [←hkl q] at hkt
   rw [List.take_length] at hkt
   rw [←hkt,hkl q,←hkr,List.take_length]
  subst hkq
  have hbt:=hkb q hqm
  have hcel:=zqA hbt
  have hbs:∀ y∈fs.map kf,BT y:=fun y hy=>by
   obtain ⟨z,hz,rfl⟩:=List.mem_map.1 hy
   exact hkb z (hP.mem z hz)
  have hsn:=uL (l:=fs) (x:=q)
  have hnd:=hP.nodup
  rw [hkf] at hnd
  by_cases hin:kf q∈fs.map kf
  ·obtain ⟨ix,hix⟩:=List.getElem?_of_mem hin
   have hg:=zl3 hbs hnd hix
   have hspn:=qJ (l:=nx) (q:=q) (v:=ix) (by omega)
   have hb5:q+1<=(enL nx).length:=by rw [qW];omega
   (repeat' ((conv=>whnf);first|rw [q1]|rw [Nat.mul_one]|rw [hspn]|refine ⟨(kf q).map UInt8.ofNat,hcel,?_⟩|refine zau hg ?_|refine ⟨.sl 49 _ _ _,⟨rfl,rfl,rfl,rfl⟩,?_⟩|refine ⟨.mp 45 _,⟨rfl,rfl⟩,?_⟩|refine zh ?_|((first|apply zc|apply za|apply zd)<;>intro h<;>try (exfalso;omega))|refine pay ?_|refine And.intro (by first|exact ⟨rfl,rfl,⟨_,rfl⟩⟩|exact ⟨rfl,hb5⟩) ?_|intro _));(all_goals (conv=>whnf))
   all_goals try (exfalso;omega)
   exact zi (⟨i+1,nx.set q ix,fs,kf q,fa,fc⟩:R3G) ⟨hlt,by simp [hnx],hkl q,by dsimp only;omega,hPo ix hix⟩ (by dsimp only;omega) (by (repeat ((conv=>whnf);refine vS ?_));exact trivial) (Ref.takes [105,45,49,44,23,3] rfl (.refl _))
  ·obtain ⟨hg,hg2⟩:=zl2 hbt hbs hin
   rw [g8q] at hg2
   have hspn:=qJ (l:=nx) (q:=q) (v:=fs.length) (by omega)
   have hb5:q+1<=(enL nx).length:=by rw [qW];omega
   (repeat' ((conv=>whnf);first|rw [q1]|rw [Nat.mul_one]|rw [hspn]|rw [hsn]|refine ⟨(kf q).map UInt8.ofNat,hcel,?_⟩|refine jO hg ?_|refine ⟨.sl 49 _ _ _,⟨rfl,rfl,rfl,rfl⟩,?_⟩|refine ⟨.mp 45 _,⟨rfl,rfl⟩,?_⟩|refine zh ?_|((first|apply zc|apply za|apply zd)<;>intro h<;>try (exfalso;omega))|refine pay ?_|refine And.intro (by first|exact ⟨rfl,rfl,⟨_,rfl⟩⟩|exact ⟨rfl,hb5⟩|exact ⟨by unfold maxLen;omega,by omega⟩) ?_|intro _));(all_goals (conv=>whnf))
   all_goals try (exfalso;omega)
   rename_i a2 c2
   have l1:(fs++[q]).length=fs.length+1:=by simp
   have hkm:zbs (fs.map kf++[kf q])=zbs ((fs++[q]).map kf):=by rw [List.map_append];rfl
   exact zi (⟨i+1,nx.set q fs.length,fs++[q],kf q,a2,c2⟩:R3G) ⟨hlt,by simp [hnx],hkl q,by dsimp only;omega,hPn hin⟩ (by dsimp only;omega) (by dsimp only;rw [l1];(repeat ((conv=>whnf);refine vS ?_));exact trivial) (by dsimp only;rw [l1];exact Ref.takes [105,45,49,44,23,3] rfl (.keep rfl (fun _ h=>h) (.map (hg2.trans hkm) (.refl _))))
end
section
open Go.EG
theorem zfF {l:List Nat} {s v:Nat} (h:rgB s l) (hv:v<=rgE s l):rgB s (l++[v]):=by
 rw [zkl];exact ⟨h,hv,trivial⟩
theorem zfG {l:List Nat} {s v:Nat}:rgE s (l++[v])=if v=rgE s l then rgE s l+1 else rgE s l:=by
 rw [zkk];rfl
theorem Cls.start (M:Mch) (b:Nat->Nat) (first:List Nat):Cls M b first [] []:=⟨by simp,fun c hc=>by simp at hc,fun x hx=>by simp at hx,trivial,rfl⟩
theorem jG (l:List Nat) (v:Nat):(l++[v]).getD l.length 0=v:=by simp [g1q]
theorem Cls.old {M:Mch} {b:Nat->Nat} {first cl cols:List Nat} {j:Nat} (h:Cls M b first cl cols) (hj:(cols.map (zd4 M b first))[j]?=some (zd4 M b first (M.cls.getD cl.length 0).toNat)):Cls M b first (cl++[j]) cols:=by
 obtain ⟨hjl,hje⟩:=List.getElem?_eq_some_iff.1 hj
 have hjl':j<cols.length:=by simpa using hjl
 refine ⟨h.nodup,h.has,fun x hx=>?_,zfF h.rg (by rw [h.re];omega),by rw [zfG,h.re,if_neg (by omega)]⟩
 rw [g6q] at hx
 by_cases he:x=cl.length
 ·subst he
  rw [jG]
  refine ⟨hjl',?_⟩
  rw [List.getElem_map] at hje
  rw [g1q,g2q hjl']
  exact hje
 ·rw [xd (by simp at hx;omega)]
  exact h.at_ x (by simp at hx;omega)
theorem Cls.new {M:Mch} {b:Nat->Nat} {first cl cols:List Nat} {c:Nat} (h:Cls M b first cl cols) (hc:(M.cls.getD cl.length 0).toNat=c) (hl:cl.length<256) (hj:zd4 M b first c∉cols.map (zd4 M b first)):Cls M b first (cl++[cols.length]) (cols++[c]):=by
 refine ⟨?_,fun x hx=>?_,fun x hx=>?_,zfF h.rg (by rw [h.re];exact Nat.le_refl _),by rw [zfG,h.re,if_pos rfl,g6q];rfl⟩
 ·rw [List.map_append]
  exact List.nodup_append.2 ⟨h.nodup,by simp,fun x hx y hy e=>by simp at hy;subst hy;subst e;exact hj hx⟩
 ·rcases List.mem_append.1 hx with hx|hx
  ·exact h.has x hx
  ·rw [List.mem_singleton.1 hx];exact ⟨_,hl,hc⟩
 ·rw [g6q] at hx
  rw [g6q]
  by_cases he:x=cl.length
  ·subst he
   rw [jG,jG,hc]
   exact ⟨by simp,rfl⟩
  ·rw [xd (by simp at hx;omega)]
   obtain ⟨h1,h2⟩:=h.at_ x (by simp at hx;omega)
   exact ⟨by omega,by rw [xd h1];exact h2⟩
structure OrdP (M:Mch) (b:Nat->Nat) (first cols ord:List Nat) (rows:List (List Nat)) (pr:List Nat):Prop where
 nodup:ord.Nodup
 lt:∀ x∈ord,x<first.length
 zero:ord.head?=some (b M.start.toNat)
 len:∀ r∈rows,r.length=cols.length
 at_:∀ i,i<rows.length->∀ n,n<cols.length->(rows.getD i []).getD n 0<ord.length/\ord.getD ((rows.getD i []).getD n 0) 0=b (dl M (first.getD (ord.getD i 0) 0) (cols.getD n 0))
 now:∀ n,n<pr.length->pr.getD n 0<ord.length/\ord.getD (pr.getD n 0) 0=b (dl M (first.getD (ord.getD rows.length 0) 0) (cols.getD n 0))
 rg:rgB 1 (rows.flatten++pr)
 re:rgE 1 (rows.flatten++pr)=ord.length
 lead:∀ i,i<=rows.length->i<rgE 1 (rows.take i).flatten
 cur:rows.length<ord.length
theorem Ord.begin {M:Mch} {b:Nat->Nat} {first cols ord:List Nat} {rows:List (List Nat)} (h:Ord M b first cols ord rows) (hl:rows.length<ord.length):OrdP M b first cols ord rows [] :=
 ⟨h.nodup,h.lt,h.zero,h.len,h.at_,fun n hn=>by simp at hn,by rw [List.append_nil];exact h.rg,by rw [List.append_nil];exact h.re,fun i hi=>by
  rcases Nat.lt_or_ge i rows.length with h1|h1
  ·exact h.lead i h1
  ·rw [List.take_of_length_le h1,h.re];omega,hl⟩
theorem OrdP.finish {M:Mch} {b:Nat->Nat} {first cols ord:List Nat} {rows:List (List Nat)} {pr:List Nat} (h:OrdP M b first cols ord rows pr) (hp:pr.length=cols.length):Ord M b first cols ord (rows++[pr]):=by
 refine ⟨h.nodup,h.lt,h.zero,fun r hr=>?_,fun i hi n hn=>?_,by rw [List.flatten_append];simpa using h.rg,by rw [List.flatten_append];simpa using h.re,fun i hi=>?_⟩
 ·rcases List.mem_append.1 hr with hr|hr
  ·exact h.len r hr
  ·rw [List.mem_singleton.1 hr];exact hp
 ·rw [g6q] at hi
  by_cases he:i=rows.length
  ·subst he
   have:(rows++[pr]).getD rows.length []=pr:=by simp [g1q]
   rw [this]
   exact h.now n (by omega)
  ·have:(rows++[pr]).getD i []=rows.getD i []:=by
    simp only [g1q,List.getElem?_append_left (show i<rows.length by simp at hi;omega)]
   rw [this]
   exact h.at_ i (by simp at hi;omega) n hn
 ·rw [g6q] at hi
  have hle:i<=rows.length:=by simp at hi;omega
  rw [List.take_append_of_le_length hle]
  exact h.lead i hle
theorem OrdP.old {M:Mch} {b:Nat->Nat} {first cols ord:List Nat} {rows:List (List Nat)} {pr:List Nat} {p:Nat} (h:OrdP M b first cols ord rows pr) (hp:p<ord.length) (he:ord.getD p 0=b (dl M (first.getD (ord.getD rows.length 0) 0) (cols.getD pr.length 0))):OrdP M b first cols ord rows (pr++[p]):=by
 refine ⟨h.nodup,h.lt,h.zero,h.len,h.at_,fun n hn=>?_,?_,?_,h.lead,h.cur⟩
 ·rw [g6q] at hn
  by_cases hx:n=pr.length
  ·subst hx;rw [jG];exact ⟨hp,he⟩
  ·rw [xd (by simp at hn;omega)]
   exact h.now n (by simp at hn;omega)
 ·rw [←List.append_assoc];exact zfF h.rg (by rw [h.re];omega)
 ·rw [←List.append_assoc,zfG,h.re,if_neg (by omega)]
theorem OrdP.new {M:Mch} {b:Nat->Nat} {first cols ord:List Nat} {rows:List (List Nat)} {pr:List Nat} {v:Nat} (h:OrdP M b first cols ord rows pr) (hn:v∉ord) (hv:v<first.length) (he:v=b (dl M (first.getD (ord.getD rows.length 0) 0) (cols.getD pr.length 0))):OrdP M b first cols (ord++[v]) rows (pr++[ord.length]):=by
 have hcur:=h.cur
 refine ⟨?_,fun x hx=>?_,?_,h.len,fun i hi n hn'=>?_,fun n hn'=>?_,?_,?_,h.lead,by rw [g6q];omega⟩
 ·exact List.nodup_append.2 ⟨h.nodup,by simp,fun x hx y hy e=>by simp at hy;subst hy;subst e;exact hn hx⟩
 ·rcases List.mem_append.1 hx with hx|hx
  ·exact h.lt x hx
  ·rw [List.mem_singleton.1 hx];exact hv
 ·have:=h.zero
  cases ord with
  | nil=>cases this
  | cons _ _=>exact this
 ·obtain ⟨h1,h2⟩:=h.at_ i hi n hn'
  rw [g6q,xd h1,xd (by omega:i<ord.length)]
  exact ⟨by omega,h2⟩
 ·rw [g6q] at hn'
  rw [g6q,xd hcur]
  by_cases hx:n=pr.length
  ·subst hx;rw [jG,jG];exact ⟨by simp,he⟩
  ·rw [xd (by simp at hn';omega)]
   obtain ⟨h1,h2⟩:=h.now n (by simp at hn';omega)
   exact ⟨by omega,by rw [xd h1];exact h2⟩
 ·rw [←List.append_assoc];exact zfF h.rg (by rw [h.re];exact Nat.le_refl _)
 ·rw [←List.append_assoc,zfG,h.re,if_pos rfl,g6q];rfl
theorem Ord.start {M:Mch} {b:Nat->Nat} {first cols:List Nat} (h:b M.start.toNat<first.length):Ord M b first cols [b M.start.toNat] [] :=
 ⟨by simp,fun x hx=>by rw [List.mem_singleton.1 hx];exact h,rfl,fun r hr=>by simp at hr,fun i hi=>by simp at hi,trivial,rfl,fun i hi=>by simp at hi⟩
structure Nums (n:Nat) (nu ord:List Nat):Prop where
 len:nu.length=n
 has:∀ p,p<ord.length->nu.getD (ord.getD p 0) 0=p+1
 no:∀ v,v∉ord->nu.getD v 0=0
theorem Nums.start {n v:Nat} (h:v<n):Nums n ((List.replicate n 0).set v 1) [v]:=by
 refine ⟨by simp,fun p hp=>?_,fun x hx=>?_⟩
 ·obtain rfl:p=0:=by simpa using hp
  have:=zaP (nx:=List.replicate n 0) (q:=v) (v:=1) (x:=v) (by simpa using h)
  simpa [fnL] using this
 ·have:=zaP (nx:=List.replicate n 0) (q:=v) (v:=1) (x:=x) (by simpa using h)
  rw [if_neg (by simpa using hx)] at this
  unfold fnL at this
  rw [this,g1q,List.getElem?_replicate];split<;>rfl
theorem Nums.new {n v:Nat} {nu ord:List Nat} (h:Nums n nu ord) (hv:v<n) (hn:v∉ord):Nums n (nu.set v (ord.length+1)) (ord++[v]):=by
 have hs:=fun x=>zaP (nx:=nu) (q:=v) (v:=ord.length+1) (x:=x) (by rw [h.len];exact hv)
 unfold fnL at hs
 refine ⟨by simp [h.len],fun p hp=>?_,fun x hx=>?_⟩
 ·rw [g6q] at hp
  by_cases he:p=ord.length
  ·subst he;rw [jG,hs,if_pos rfl]
  ·have hpl:p<ord.length:=by simp at hp;omega
   rw [xd hpl,hs,if_neg (fun e=>hn (by rw [←e];exact zZ hpl))]
   exact h.has p hpl
 ·rw [List.mem_append,List.mem_singleton] at hx
  rw [hs,if_neg (fun e=>hx (.inr e))]
  exact h.no x (fun hm=>hx (.inl hm))
end
section
open Go.EG
attribute [local irreducible] zT yE Go.Calls
set_option maxRecDepth 20000
set_option maxHeartbeats 4000000
def zwz (M:Mch) (v:Value) (L1:List Ent):Prop:=∃ y F kc,v=MA.v y/\L1=[frE 79 F]/\MFz F y/\Can y.m kc/\zm0 y.m M
structure N1G where
 cl:List Nat
 cols:List Nat
 kr:List Nat
 a:Option Addr
 c:Nat
structure N2G where
 rows:List (List Nat)
 nr:List RA
 F:List Frz
 ord:List Nat
 nu:List Nat
 oa:Option Addr
 oc:Nat
 xa:Option Addr
 xc:Nat
 ya:Option Addr
 yc:Nat
structure N3G where
 pr:List Nat
 ord:List Nat
 nu:List Nat
 oa:Option Addr
 oc:Nat
def kO (l:List Nat) (n:Nat):List Nat:=l++List.replicate (n - l.length) 0
theorem zoF {l:List Nat} {n:Nat} (h:l.length<=n):(kO l n).length=n:=by simp [kO];omega
theorem zoG {l:List Nat} {n v:Nat} (h:l.length<n):(kO l n).set l.length v=kO (l++[v]) n:=by
 unfold kO
 rw [show n - l.length=(n - (l++[v]).length)+1 by simp;omega,List.replicate_succ,List.set_append_right _ _ (Nat.le_refl _)]
 simp
theorem zoH {l:List Nat} {n:Nat} (h:l.length=n):kO l n=l:=by simp [kO,h]
theorem zoI {w:World} {k:Nat} (x:MA) (hx:McI w [] x) (hM:MOk x.m k) (l:List Nat) (hO:Occ x.m l) (st:List Nat) (hS:Rst x.m l st) (bl fs:List Nat) (hbl:bl.length=x.nr.length) (hF:Fin1 x.m l st (fnL bl) fs) (ba:Option Addr) (bc:Nat) (hbi:In w [] ba (enL bl)) (fa:Option Addr) (fc:Nat) (hfi:In w [] fa (enL fs)) :
 Calls Tryz.prog u9 #[x.v,.slice ba bl.length bc,.slice fa fs.length fc] w fun e w'=>∃ v L1,e=.returned v/\R w [] L1 w'/\zwz x.m v L1:=by
 refine zQ [.v x.v,.v (.slice ba bl.length bc),.v (.slice fa fs.length fc)] zhG (by simp) ?_
 obtain ⟨n1,n2,n3,n4,n5,n6⟩:=zeE hM
 have hk1:=hM.k1
 have hdr:=fun q c r hr hc=>zsx (q:=q) (c:=c) (r:=r) hM hr hc
 have hcn:=fun b hb=>zqy (b:=b) hM hb
 have hml:x.m.nx.length=x.nr.length:=g8q ..
 have hacc:∀ q,qO x.m q=x.acc.getD q false:=fun _=>rfl
 have hst:∀ q∈st,q<x.nr.length:=fun q hq=>by rw [←hml];exact hS.lt q hq
 have hstN:x.start=((x.m.start.toNat:Nat):Int):=(Int.toNat_of_nonneg n5).symm
 have hfm:=hF.mem
 have hfat:=hF.at_
 have hfle:=hF.le
 have hs0:=hS.start
 have hstp:∀ q∈st,∀ c,c<k->(∃ b,b<256/\(x.m.cls.getD b 0).toNat=c)->dl x.m q c∈st:=fun q hq c _ ⟨b,hb,e⟩=>by rw [←e];exact hS.stp hO hq hb
 have hok:=fun {cl cols ord rows} hC hcl hOr hrl=>zwy (cl:=cl) (cols:=cols) (ord:=ord) (rows:=rows) hM hO hS hF hC hcl hOr hrl
 obtain ⟨M,hMM⟩:∃ M,x.m=M:=⟨_,rfl⟩
 rw [hMM] at hdr hcn hacc hstN hs0 hstp
 rw [hMM] at hok ⊢
 clear hM hO hS hF hMM hml
 obtain ⟨start,cls,ca,cc,nr,na,nc,acc,aa,ac⟩:=x
 obtain ⟨h1,h2,h3,h4⟩:=hx
 dsimp only [MA.v,MA.cells] at *
 obtain ⟨s0,hs0e⟩:∃ s0,M.start.toNat=s0:=⟨_,rfl⟩
 rw [hs0e] at hs0 hstN
 subst hstN
 have hf0:0<fs.length:=by have:=hfat _ hs0;omega
 have hna:na≠none:=h2.ne' (k:=0) (by rw [g8q];exact n1)
 have haa:aa≠none:=h3.ne' (k:=0) (by rw [g8q];omega)
 have hca:ca≠none:=neI h1 (by omega)
 have hfa:fa≠none:=hfi.ne' (k:=0) (by rw [qW];exact hf0)
 have hba:ba≠none:=hbi.ne' (k:=0) (by rw [qW];omega)
 have z1:=zbZ 256
 have z2:=zh6 fs.length
 obtain ⟨kf,hkf⟩:∃ kf,zd4 M (fnL bl) fs=kf:=⟨_,rfl⟩
 have hkl:∀ c,(kf c).length=fs.length:=fun c=>by rw [←hkf];simp [zd4]
 (repeat' ((conv=>whnf);first|refine zh ?_|((first|apply zc|apply za|apply zd)<;>intro h<;>try (exfalso;omega))|refine pay ?_|intro _));(all_goals (conv=>whnf))
 all_goals try (exfalso;omega)
 rename_i b3 b6 b25 b7 b27 b30
 refine zw N1G (fun g=>[(1,.v (.slice ba bl.length bc)),(2,.v (.slice fa fs.length fc)),(3,.ptr 3 b3 0),(6,.ptr 6 b6 0),(7,.ptr 7 b7 0),(8,.mp 27 b27),(9,.sl 80 g.a g.cols.length g.c),(10,.sl 30 (some ⟨b30,0,none⟩) fs.length fs.length),(32,.v (.slice ca cls.length cc)),(33,.v (.int .i64 cls.length)),(34,.v (.int .i64 g.cl.length))])
  (fun g=>[.own 80 g.a g.cols.length g.c zk 1 (enL g.cols),.mapE 27 b27 .str (zbs (g.cols.map kf)),.own 30 (some ⟨b30,0,none⟩) fs.length fs.length qi 1 (byL g.kr),.own 25 (some ⟨b25,0,none⟩) 256 256 zk 1 (enL (kO g.cl 256)),.box 7 b7 [.int .i64 0,.slice (some ⟨b25,0,none⟩) 256 256,.slice none 0 0,.slice none 0 0] zg,.box 3 b3 [.int .i64 s0,.slice ca cls.length cc,.slice na nr.length nc,.slice aa acc.length ac] zg,.box 6 b6 [.int .i64 0,.slice none 0 0,.slice none 0 0,.slice none 0 0] zg])
  (fun g=>g.cl.length<=256/\g.cols.length<=g.cl.length/\g.kr.length=fs.length/\Cls M (fnL bl) fs g.cl g.cols) (fun g=>256 - g.cl.length)
  ⟨[],[],List.replicate fs.length 0,none,0⟩ ⟨Nat.zero_le _,Nat.le_refl _,by simp,Cls.start _ _ _⟩ (by (repeat ((conv=>whnf);refine vS ?_));exact trivial)
  ((Ref.ownNil 80 zk 1).trans (Ref.takes [80,27,30,25,7,3,6] rfl (.keep rfl (fun _ h=>h) (.keep rfl (fun _ h=>h) (.own rfl z2 (.own rfl z1 (.refl _))))))) ?_
 rintro ⟨cl,cols,kr,a,c⟩ ⟨hi,hcl,hkr,hC⟩
 dsimp only at hi hcl hkr hC ⊢
 have hpl:=zoF (l:=cl) (n:=256) hi
 by_cases hlt:cl.length<256
 ·obtain ⟨i,hie⟩:∃ i,cl.length=i:=⟨_,rfl⟩
  have rdc:=fun {L:List Ent}=>rdI (L:=L) h1 (i:=i) (by omega)
  obtain ⟨cn,hc1,hc2,hc3⟩:=hcn i (by omega)
  rw [hc1] at rdc
  have q0:((i:Nat):Int).toNat=i:=by omega
  have hCo:=fun j=>hC.old (j:=j)
  have hCn:=hC.new (c:=cn) (by rw [hie];exact hc3) hlt
  rw [hie,hc3,hkf] at hCo
  rw [hkf] at hCn
  have hps:∀ v,(kO cl 256).set i v=kO (cl++[v]) 256:=fun v=>by rw [←hie];exact zoG hlt
  rw [hie] at hi hcl hlt ⊢
  have hnd:=hC.nodup
  rw [hkf] at hnd
  have hbt:∀ c,c<k->(∃ b,b<256/\(M.cls.getD b 0).toNat=c)->BT (kf c):=fun c hc hb y hy=>by
   rw [←hkf] at hy
   obtain ⟨q,hq,rfl⟩:=List.mem_map.1 hy
   have:=hfat _ (hstp q (hfm q hq) c hc hb)
   omega
  have hbs:∀ y∈cols.map kf,BT y:=fun y hy=>by
   obtain ⟨c',hc',rfl⟩:=List.mem_map.1 hy
   obtain ⟨bx,hbx,e⟩:=hC.has c' hc'
   obtain ⟨cm,_,e2,e3⟩:=hcn bx hbx
   refine hbt c' ?_ ⟨bx,hbx,e⟩
   omega
  have hbc:=hbt cn hc2 ⟨i,by omega,hc3⟩
  have hstc:=fun q hq=>hstp q (hfm q hq) cn hc2 ⟨i,by omega,hc3⟩
  clear hC
  (repeat' ((conv=>whnf);first|rw [q0]|refine ⟨_,rdc,?_⟩|refine zh ?_|((first|apply zc|apply za|apply zd)<;>intro h<;>try (exfalso;omega))|refine pay ?_|intro _));(all_goals (conv=>whnf))
  all_goals try (exfalso;omega)
  refine zw R4G (fun g=>[(1,.v (.slice ba bl.length bc)),(2,.v (.slice fa fs.length fc)),(3,.ptr 3 b3 0),(6,.ptr 6 b6 0),(7,.ptr 7 b7 0),(8,.mp 27 b27),(9,.sl 80 a cols.length c),(10,.sl 30 (some ⟨b30,0,none⟩) fs.length fs.length),(11,.v (.int .i64 i)),(12,.v (.int .i64 cn)),(32,.v (.slice ca cls.length cc)),(33,.v (.int .i64 cls.length)),(34,.v (.int .i64 i)),(39,.v (.slice fa fs.length fc)),(40,.v (.int .i64 fs.length)),(41,.v (.int .i64 g.j))])
   (fun g=>[.own 80 a cols.length c zk 1 (enL cols),.mapE 27 b27 .str (zbs (cols.map kf)),.own 30 (some ⟨b30,0,none⟩) fs.length fs.length qi 1 (byL g.kr),.own 25 (some ⟨b25,0,none⟩) 256 256 zk 1 (enL (kO cl 256)),.box 7 b7 [.int .i64 0,.slice (some ⟨b25,0,none⟩) 256 256,.slice none 0 0,.slice none 0 0] zg,.box 3 b3 [.int .i64 s0,.slice ca cls.length cc,.slice na nr.length nc,.slice aa acc.length ac] zg,.box 6 b6 [.int .i64 0,.slice none 0 0,.slice none 0 0,.slice none 0 0] zg])
   (fun g=>g.j<=fs.length/\g.kr.length=fs.length/\g.kr.take g.j=(kf cn).take g.j) (fun g=>fs.length - g.j)
   ⟨0,kr⟩ ⟨Nat.zero_le _,hkr,rfl⟩ (by (repeat ((conv=>whnf);refine vS ?_));exact trivial) (Ref.takes [80,27,30,25,7,3,6] rfl (.refl _)) ?_
  clear hkr
  rintro ⟨j,kr⟩ ⟨hj,hkr,hkt⟩
  dsimp only at hj hkr hkt ⊢
  have hkrl:=zcd kr
  by_cases hjl:j<fs.length
  ·have rdf:=fun {L:List Ent}=>zaj (L:=L) hfi hjl
   have hqm:fs.getD j 0∈fs:=zZ hjl
   have hkj:(kf cn)[j]?=some (fnL bl (dl M (fs.getD j 0) cn)):=by
    rw [←hkf]
    simp only [zd4,List.getElem?_map,g2q hjl,g1q,Option.map_some,Option.getD_some]
   obtain ⟨q,hq⟩:∃ q,fs.getD j 0=q:=⟨_,rfl⟩
   rw [hq] at rdf hqm hkj
   have hqn:=hst q (hfm q hqm)
   obtain ⟨r,hr⟩:∃ r,nr[q]?=some r:=⟨_,g2q hqn⟩
   have rdr:=fun {L:List Ent}=>h2.rd (L:=L) (k:=q) (v:=r.v) (by rw [List.getElem?_map,hr];rfl)
   obtain ⟨hdq,hdn,hcr⟩:=hdr q cn r hr hc2
   have hrin:=h4 r (List.mem_of_getElem? hr)
   have rdq:=fun {L:List Ent}=>rdI (L:=L) hrin (i:=cn) hcr
   have hra:r.a≠none:=neI hrin (by omega)
   rw [hdq] at rdq
   have hbp:=hfat _ (hstc q hqm)
   obtain ⟨p,hp⟩:∃ p,dl M q cn=p:=⟨_,rfl⟩
   rw [hp] at rdq hdn hkj hbp
   have rdb:=fun {L:List Ent}=>zaj (L:=L) hbi (i:=p) (by omega)
   have hu2:fnL bl p=bl.getD p 0:=rfl
   rw [hu2] at hbp hkj
   obtain ⟨u,hu⟩:∃ u,bl.getD p 0=u:=⟨_,rfl⟩
   rw [hu] at rdb hbp hkj
   have q3:((j:Nat):Int).toNat=j:=by omega
   have q4:((cn:Nat):Int).toNat=cn:=by omega
   have q5:((q:Nat):Int).toNat=q:=by omega
   have q6:((p:Nat):Int).toNat=p:=by omega
   have q8:((u:Nat):Int)%256=(u:Int):=Int.emod_eq_of_lt (by omega) (by omega)
   have hsp:=zfE (l:=kr) (q:=j) (v:=u) (by omega)
   have hb4:j+1<=(byL kr).length:=by omega
   have hj1:j<kr.length:=by omega
   (repeat' ((conv=>whnf);first|rw [q3]|rw [q4]|rw [q5]|rw [q6]|rw [q8]|rw [Nat.mul_one]|rw [hsp]|refine ⟨_,rdf,?_⟩|refine ⟨_,rdq,?_⟩|refine ⟨_,rdb,?_⟩|refine ⟨_,_,_,rdr,?_⟩|refine zh ?_|((first|apply zc|apply za|apply zd)<;>intro h<;>try (exfalso;omega))|refine pay ?_|refine And.intro (by first|exact ⟨rfl,hb4⟩) ?_|intro _));(all_goals (conv=>whnf))
   all_goals try (exfalso;omega)
   exact zi (⟨j+1,kr.set j u⟩:R4G) ⟨hjl,by simp [hkr],zbt hkt hj1 hkj⟩ (by dsimp only;omega) (by (repeat ((conv=>whnf);refine vS ?_));exact trivial) (Ref.takes [80,27,30,25,7,3,6] rfl (.refl _))
  ·obtain rfl:j=fs.length:=by omega
   have hkq:kr=kf cn:=by
    rw [←hkl cn] at hkt
    rw [List.take_length] at hkt
    rw [←hkt,hkl cn,←hkr,List.take_length]
   subst hkq
   have hcel:=zqA hbc
   have hsn:=uL (l:=cols) (x:=cn)
   have hb5:i+1<=(enL (kO cl 256)).length:=by rw [qW];omega
   by_cases hin:kf cn∈cols.map kf
   ·obtain ⟨ix,hix⟩:=List.getElem?_of_mem hin
    have hg:=zl3 hbs hnd hix
    have hspn:=qJ (l:=kO cl 256) (q:=i) (v:=ix) (by omega)
    rw [hps] at hspn
    (repeat' ((conv=>whnf);first|rw [q0]|rw [Nat.mul_one]|rw [hspn]|refine ⟨(kf cn).map UInt8.ofNat,hcel,?_⟩|refine zau hg ?_|refine ⟨.sl 30 _ _ _,⟨rfl,rfl,rfl,rfl⟩,?_⟩|refine ⟨.mp 27 _,⟨rfl,rfl⟩,?_⟩|refine ⟨.sl 25 _ _ _,⟨rfl,rfl,rfl,rfl⟩,?_⟩|refine zh ?_|((first|apply zc|apply za|apply zd)<;>intro h<;>try (exfalso;omega))|refine pay ?_|refine And.intro (by first|exact ⟨rfl,rfl,⟨_,rfl⟩⟩|exact ⟨rfl,hb5⟩) ?_|intro _));(all_goals (conv=>whnf))
    all_goals try (exfalso;omega)
    have l2:(cl++[ix]).length=i+1:=by simp [hie]
    exact zi (⟨cl++[ix],cols,kf cn,a,c⟩:N1G) ⟨by dsimp only;omega,by dsimp only;omega,hkr,hCo ix hix⟩ (by dsimp only;omega) (by dsimp only;rw [l2];(repeat ((conv=>whnf);refine vS ?_));exact trivial) (Ref.takes [80,27,30,25,7,3,6] rfl (.refl _))
   ·obtain ⟨hg,hg2⟩:=zl2 hbc hbs hin
    rw [g8q] at hg2
    have hspn:=qJ (l:=kO cl 256) (q:=i) (v:=cols.length) (by omega)
    rw [hps] at hspn
    (repeat' ((conv=>whnf);first|rw [q0]|rw [Nat.mul_one]|rw [hspn]|rw [hsn]|refine ⟨(kf cn).map UInt8.ofNat,hcel,?_⟩|refine jO hg ?_|refine ⟨.sl 30 _ _ _,⟨rfl,rfl,rfl,rfl⟩,?_⟩|refine ⟨.mp 27 _,⟨rfl,rfl⟩,?_⟩|refine ⟨.sl 25 _ _ _,⟨rfl,rfl,rfl,rfl⟩,?_⟩|refine zh ?_|((first|apply zc|apply za|apply zd)<;>intro h<;>try (exfalso;omega))|refine pay ?_|refine And.intro (by first|exact ⟨rfl,rfl,⟨_,rfl⟩⟩|exact ⟨rfl,hb5⟩|exact ⟨by unfold maxLen;omega,by omega⟩) ?_|intro _));(all_goals (conv=>whnf))
    all_goals try (exfalso;omega)
    rename_i a2 c2
    have l1:(cols++[cn]).length=cols.length+1:=by simp
    have l2:(cl++[cols.length]).length=i+1:=by simp [hie]
    have hkm:zbs (cols.map kf++[kf cn])=zbs ((cols++[cn]).map kf):=by rw [List.map_append];rfl
    exact zi (⟨cl++[cols.length],cols++[cn],kf cn,a2,c2⟩:N1G) ⟨by dsimp only;omega,by dsimp only;omega,hkr,hCn hin⟩ (by dsimp only;omega) (by dsimp only;rw [l1,l2];(repeat ((conv=>whnf);refine vS ?_));exact trivial) (by dsimp only;rw [l1];exact Ref.takes [80,27,30,25,7,3,6] rfl (.keep rfl (fun _ h=>h) (.map (hg2.trans hkm) (.refl _))))
 have hc256:cl.length=256:=by omega
 rw [zoH hc256]
 have hch:=hC.has
 have hck:∀ c'∈cols,c'<k/\∃ b,b<256/\(M.cls.getD b 0).toNat=c':=fun c' hc'=>by
  obtain ⟨bx,hbx,e⟩:=hch c' hc'
  obtain ⟨cm,_,e2,e3⟩:=hcn bx hbx
  exact ⟨by omega,bx,hbx,e⟩
 have rdb0:=fun {L:List Ent}=>zaj (L:=L) hbi (i:=s0) (by omega)
 have hv0:=hfat _ hs0
 have hO0:=Ord.start (M:=M) (b:=fnL bl) (first:=fs) (cols:=cols) (by rw [hs0e];exact hv0)
 have hN0:=Nums.start hv0
 rw [hs0e] at hO0
 have hu0:fnL bl s0=bl.getD s0 0:=rfl
 rw [hu0] at hv0 hO0 hN0
 obtain ⟨v0,hv0e⟩:∃ v,bl.getD s0 0=v:=⟨_,rfl⟩
 rw [hv0e] at rdb0 hv0 hO0 hN0
 have q1:((s0:Nat):Int).toNat=s0:=by omega
 have q2:((v0:Nat):Int).toNat=v0:=by omega
 have qn:((fs.length:Nat):Int).toNat=fs.length:=by omega
 have z3:=zbZ fs.length
 have hsp0:zv (enL (List.replicate fs.length 0)) v0 [.int .i64 (1:Int)]=enL ((List.replicate fs.length 0).set v0 1):=qJ (v:=1) (by simpa using hv0)
 have hzl:(enL (List.replicate fs.length 0)).length=fs.length:=by rw [qW];simp
 have haf:∀ q,q<nr.length->(acc.map Value.bool)[q]?=some (.bool (qO M q)):=fun q hq=>by
  rw [hacc,List.getElem?_map,g1q,g2q (by omega)];rfl
 (repeat' ((conv=>whnf);first|rw [q1]|rw [q2]|rw [qn]|rw [z3]|rw [Nat.mul_one]|rw [hsp0]|refine ⟨_,rdb0,?_⟩|refine zh ?_|((first|apply zc|apply za|apply zd)<;>intro h<;>try (exfalso;omega))|refine pay ?_|refine And.intro (by first|exact ⟨rfl,by rw [qn,z3,hzl];omega⟩|exact ⟨rfl,by rw [z3,hzl];omega⟩|exact ⟨rfl,by rw [hzl];omega⟩) ?_|intro _));(all_goals (conv=>whnf))
 all_goals try (exfalso;omega)
 rename_i b89 b102
 obtain ⟨af,haf2⟩:∃ af:Nat->Bool,(fun j=>qO M (fs.getD j 0))=af:=⟨_,rfl⟩
 refine zw N2G (fun g=>[(1,.v (.slice ba bl.length bc)),(2,.v (.slice fa fs.length fc)),(3,.ptr 3 b3 0),(6,.ptr 6 b6 0),(7,.ptr 7 b7 0),(9,.sl 80 a cols.length c),(17,.sl 89 (some ⟨b89,0,none⟩) fs.length fs.length),(18,.sl 102 g.oa g.ord.length g.oc),(19,.v (.int .i64 g.rows.length))])
  (fun g=>[.own 80 a cols.length c zk 1 (enL cols),.own 25 (some ⟨b25,0,none⟩) 256 256 zk 1 (enL cl),.own 89 (some ⟨b89,0,none⟩) fs.length fs.length zk 1 (enL g.nu),.own 102 g.oa g.ord.length g.oc zk 1 (enL g.ord),.own 164 g.xa g.rows.length g.xc qm 1 (g.nr.map RA.v),.own 174 g.ya g.rows.length g.yc qe 1 (usL ((g.ord.take g.rows.length).map af)),frE 79 g.F,.box 7 b7 [.int .i64 0,.slice (some ⟨b25,0,none⟩) 256 256,.slice g.xa g.rows.length g.xc,.slice g.ya g.rows.length g.yc] zg,.box 3 b3 [.int .i64 s0,.slice ca cls.length cc,.slice na nr.length nc,.slice aa acc.length ac] zg,.box 6 b6 [.int .i64 0,.slice none 0 0,.slice none 0 0,.slice none 0 0] zg])
  (fun g=>Ord M (fnL bl) fs cols g.ord g.rows/\Nums fs.length g.nu g.ord/\g.nr.map RA.xs=g.rows.map (fun r=>r.map Int.ofNat)/\(∀ r∈g.nr,FIn g.F r.a (zu .i64 r.xs))/\g.rows.length<=g.ord.length) (fun g=>257 - g.rows.length)
  ⟨[],[],[],[v0],(List.replicate fs.length 0).set v0 1,some ⟨b102,0,none⟩,1,none,0,none,0⟩ ⟨hO0,hN0,rfl,fun r hr=>(by simp at hr),Nat.zero_le _⟩ (by (repeat ((conv=>whnf);refine vS ?_));exact trivial)
  (((Ref.ownNil 164 qm 1).trans ((Ref.ownNil 174 qe 1).trans (Ref.freezeNew 79))).trans (Ref.takes [80,25,89,102,164,174,79,7,3,6] rfl (.refl _))) ?_
 rintro ⟨rows,nr2,F,ord,nu,oa,oc,xa,xc,ya,yc⟩ ⟨hOr,hNu,hnr,hfr,hro⟩
 dsimp only at hOr hNu hnr hfr hro ⊢
 have hordl:=xj hOr.nodup hOr.lt
 have hnrl:nr2.length=rows.length:=by
  have:=congrArg List.length hnr
  simpa using this
 by_cases hlt2:rows.length<ord.length
 case neg =>
  have hre:rows.length=ord.length:=by omega
  obtain ⟨hCan,hSame⟩:=hok hC hc256 hOr hre
  rw [List.take_of_length_le (by omega)]
  (repeat' ((conv=>whnf);first|refine zh ?_|((first|apply zc|apply za|apply zd)<;>intro h<;>try (exfalso;omega))|refine pay ?_|intro _));(all_goals (conv=>whnf))
  all_goals try (exfalso;omega)
  refine ⟨⟨_,(Ref.takes [25,79,164,174] rfl (.refl _)).trans (Ref.freezeRow.trans ((Ref.takes [164,79,174] rfl (.refl _)).trans (Ref.freezeRow.trans ((Ref.takes [174,79] rfl (.refl _)).trans Ref.freezeRow)))),
   ⟨0,cl.map Int.ofNat,some ⟨b25,0,none⟩,256,nr2,xa,xc,ord.map af,ya,yc⟩,⟨ya,rows.length,yc,usL (ord.map af)⟩::⟨xa,rows.length,xc,nr2.map RA.v⟩::⟨some ⟨b25,0,none⟩,256,256,enL cl⟩::F,cols.length,?_,rfl,⟨FIn.head.tail.tail,FIn.head.tail,FIn.head,fun r hr=>(hfr r hr).tail.tail.tail⟩,?_⟩⟩
  ·unfold MA.v MA.cells
   dsimp only
   rw [g8q,g8q,hc256,hnrl,hre];rfl
  ·have hmm:(⟨0,cl.map Int.ofNat,some ⟨b25,0,none⟩,256,nr2,xa,xc,ord.map af,ya,yc⟩:MA).m=zi7 M fs cl ord rows:=by
    unfold MA.m zi7
    dsimp only
    rw [hnr,←haf2]
   rw [hmm]
   exact ⟨hCan,hSame⟩
 have hP0:=hOr.begin hlt2
 obtain ⟨i,hie⟩:∃ i,rows.length=i:=⟨_,rfl⟩
 rw [hie] at hlt2 hro hnrl ⊢
 have hoi:ord.getD i 0<fs.length:=hOr.lt _ (zZ hlt2)
 have ho1:=uj (l:=ord) (j:=i) hlt2
 have ko1:=jT (l:=ord) (j:=i) hlt2
 obtain ⟨e0,he0⟩:∃ e0,ord.getD i 0=e0:=⟨_,rfl⟩
 rw [he0] at hoi ho1
 have rdf:=fun {L:List Ent}=>zaj (L:=L) hfi hoi
 have hqm:fs.getD e0 0∈fs:=zZ hoi
 have hafq:af e0=qO M (fs.getD e0 0):=by rw [←haf2]
 obtain ⟨q,hq⟩:∃ q,fs.getD e0 0=q:=⟨_,rfl⟩
 rw [hq] at rdf hqm hafq
 have hqs:=hfm q hqm
 have hqn:=hst q hqs
 have q3:((i:Nat):Int).toNat=i:=by omega
 have q4:((e0:Nat):Int).toNat=e0:=by omega
 have q5:((q:Nat):Int).toNat=q:=by omega
 have z4:=zbZ cols.length
 have hcoll:cols.length<=256:=by omega
 (repeat' ((conv=>whnf);first|rw [q3]|rw [q4]|rw [Nat.mul_one]|rw [ho1]|refine ⟨_,rdf,?_⟩|refine ⟨.sl 102 _ _ _,⟨rfl,rfl,rfl,rfl⟩,?_⟩|refine zh ?_|((first|apply zc|apply za|apply zd)<;>intro h<;>try (exfalso;omega))|refine pay ?_|refine And.intro (by first|exact ko1) ?_|intro _));(all_goals (conv=>whnf))
 all_goals try (exfalso;omega)
 rename_i b118
 refine zw N3G (fun g=>[(1,.v (.slice ba bl.length bc)),(2,.v (.slice fa fs.length fc)),(3,.ptr 3 b3 0),(6,.ptr 6 b6 0),(7,.ptr 7 b7 0),(9,.sl 80 a cols.length c),(17,.sl 89 (some ⟨b89,0,none⟩) fs.length fs.length),(18,.sl 102 g.oa g.ord.length g.oc),(19,.v (.int .i64 i)),(20,.v (.int .i64 q)),(21,.sl 118 (some ⟨b118,0,none⟩) cols.length cols.length),(119,.sl 80 a cols.length c),(120,.v (.int .i64 cols.length)),(121,.v (.int .i64 g.pr.length))])
  (fun g=>[.own 118 (some ⟨b118,0,none⟩) cols.length cols.length zk 1 (enL (kO g.pr cols.length)),.own 80 a cols.length c zk 1 (enL cols),.own 25 (some ⟨b25,0,none⟩) 256 256 zk 1 (enL cl),.own 89 (some ⟨b89,0,none⟩) fs.length fs.length zk 1 (enL g.nu),.own 102 g.oa g.ord.length g.oc zk 1 (enL g.ord),.own 164 xa i xc qm 1 (nr2.map RA.v),.own 174 ya i yc qe 1 (usL ((ord.take i).map af)),frE 79 F,.box 7 b7 [.int .i64 0,.slice (some ⟨b25,0,none⟩) 256 256,.slice xa i xc,.slice ya i yc] zg,.box 3 b3 [.int .i64 s0,.slice ca cls.length cc,.slice na nr.length nc,.slice aa acc.length ac] zg,.box 6 b6 [.int .i64 0,.slice none 0 0,.slice none 0 0,.slice none 0 0] zg])
  (fun g=>g.pr.length<=cols.length/\OrdP M (fnL bl) fs cols g.ord rows g.pr/\Nums fs.length g.nu g.ord/\∃ z,g.ord=ord++z) (fun g=>cols.length - g.pr.length)
  ⟨[],ord,nu,oa,oc⟩ ⟨Nat.zero_le _,hP0,hNu,[],by simp⟩ (by (repeat ((conv=>whnf);refine vS ?_));exact trivial) (Ref.takes [118,80,25,89,102,164,174,79,7,3,6] rfl (.own rfl z4 (.refl _))) ?_
 have hi256:i<=256:=by omega
 clear hP0 hNu ho1 ko1 hordl
 rintro ⟨pr,od,nu,oa,oc⟩ ⟨hpl2,hP,hNu,z,hz⟩
 dsimp only at hpl2 hP hNu hz ⊢
 have hodl:=xj hP.nodup hP.lt
 have hodi:od.getD i 0=e0:=by rw [hz,xd hlt2];exact he0
 by_cases hjl:pr.length<cols.length
 ·obtain ⟨j,hje⟩:∃ j,pr.length=j:=⟨_,rfl⟩
  have hPo:=fun p=>hP.old (p:=p)
  have hPn:=fun v=>hP.new (v:=v)
  rw [hie,hje,hodi,hq] at hPo hPn
  have hpad:∀ v,(kO pr cols.length).set j v=kO (pr++[v]) cols.length:=fun v=>by rw [←hje];exact zoG hjl
  have hpdl:=zoF hpl2
  rw [hje] at hjl hpl2 ⊢
  have hc1:=uj (l:=cols) (j:=j) hjl
  have kc1:=jT (l:=cols) (j:=j) hjl
  obtain ⟨hcnk,hcnb⟩:=hck _ (zZ (d:=0) hjl)
  obtain ⟨cn,hcne⟩:∃ cn,cols.getD j 0=cn:=⟨_,rfl⟩
  rw [hcne] at hc1 hcnk hcnb hPo hPn
  obtain ⟨r,hr⟩:∃ r,nr[q]?=some r:=⟨_,g2q hqn⟩
  have rdr:=fun {L:List Ent}=>h2.rd (L:=L) (k:=q) (v:=r.v) (by rw [List.getElem?_map,hr];rfl)
  obtain ⟨hdq,hdn,hcr⟩:=hdr q cn r hr hcnk
  have hrin:=h4 r (List.mem_of_getElem? hr)
  have rdq:=fun {L:List Ent}=>rdI (L:=L) hrin (i:=cn) hcr
  have hra:r.a≠none:=neI hrin (by omega)
  rw [hdq] at rdq
  have hvl:=hfat _ (hstp q hqs cn hcnk hcnb)
  obtain ⟨p,hp⟩:∃ p,dl M q cn=p:=⟨_,rfl⟩
  rw [hp] at rdq hdn hvl hPo hPn
  have rdb:=fun {L:List Ent}=>zaj (L:=L) hbi (i:=p) (by omega)
  have hu2:fnL bl p=bl.getD p 0:=rfl
  rw [hu2] at hvl hPo hPn
  obtain ⟨v,hv⟩:∃ v,bl.getD p 0=v:=⟨_,rfl⟩
  rw [hv] at rdb hvl hPo hPn
  have q6:((j:Nat):Int).toNat=j:=by omega
  have q7:((cn:Nat):Int).toNat=cn:=by omega
  have q8:((p:Nat):Int).toNat=p:=by omega
  have q9:((v:Nat):Int).toNat=v:=by omega
  have hnul:=hNu.len
  have hnv:=uj (l:=nu) (j:=v) (by omega)
  have kv:=jT (l:=nu) (j:=v) (by omega)
  have hb5:j+1<=(enL (kO pr cols.length)).length:=by rw [qW];omega
  by_cases hin:v∈od
  ·obtain ⟨ix,hixl,hixe⟩:=List.getElem_of_mem hin
   have hixg:od.getD ix 0=v:=by rw [g1q,g2q hixl];exact hixe
   have hnx:=hNu.has ix hixl
   rw [hixg] at hnx
   rw [hnx] at hnv
   have hsp:zv (enL (kO pr cols.length)) j [.int .i64 (((ix+1:Nat):Int) - 1)]=enL (kO (pr++[ix]) cols.length):=by
    rw [show ((ix+1:Nat):Int) - 1=(ix:Int) by omega,←hpad]
    exact qJ (by omega)
   (repeat' ((conv=>whnf);first|rw [q5]|rw [q6]|rw [q7]|rw [q8]|rw [q9]|rw [Nat.mul_one]|rw [hc1]|rw [hnv]|rw [hsp]|refine ⟨_,rdq,?_⟩|refine ⟨_,rdb,?_⟩|refine ⟨_,_,_,rdr,?_⟩|refine ⟨.sl 80 _ _ _,⟨rfl,rfl,rfl,rfl⟩,?_⟩|refine ⟨.sl 89 _ _ _,⟨rfl,rfl,rfl,rfl⟩,?_⟩|refine zh ?_|((first|apply zc|apply za|apply zd)<;>intro h<;>try (exfalso;omega))|refine pay ?_|refine And.intro (by first|exact kc1|exact kv|exact ⟨rfl,hb5⟩) ?_|intro _));(all_goals (conv=>whnf))
   all_goals try (exfalso;omega)
   have l2:(pr++[ix]).length=j+1:=by simp [hje]
   exact zi (⟨pr++[ix],od,nu,oa,oc⟩:N3G) ⟨by dsimp only;omega,hPo ix hixl hixg,hNu,z,hz⟩ (by dsimp only;omega) (by dsimp only;rw [l2];(repeat ((conv=>whnf);refine vS ?_));exact trivial) (Ref.takes [118,80,25,89,102,164,174,79,7,3,6] rfl (.refl _))
  ·rw [hNu.no v hin] at hnv
   have hNn:=hNu.new hvl hin
   have hsn:=uL (l:=od) (x:=v)
   have hspn:zv (enL nu) v [.int .i64 ((od.length+1:Nat):Int)]=enL (nu.set v (od.length+1)):=qJ (by omega)
   have hnl2:(nu.set v (od.length+1)).length=fs.length:=by simp [hnul]
   have hnv2:=uj (l:=nu.set v (od.length+1)) (j:=v) (by omega)
   have hg2:=zaP (nx:=nu) (q:=v) (v:=od.length+1) (x:=v) (by omega)
   rw [if_pos rfl] at hg2
   unfold fnL at hg2
   rw [hg2] at hnv2
   have kv2:=jT (l:=nu.set v (od.length+1)) (j:=v) (by omega)
   have hb6:v+1<=(enL nu).length:=by rw [qW];omega
   have hsp:zv (enL (kO pr cols.length)) j [.int .i64 (((od.length+1:Nat):Int) - 1)]=enL (kO (pr++[od.length]) cols.length):=by
    rw [show ((od.length+1:Nat):Int) - 1=(od.length:Int) by omega,←hpad]
    exact qJ (by omega)
   (repeat' ((conv=>whnf);first|rw [q5]|rw [q6]|rw [q7]|rw [q8]|rw [q9]|rw [Nat.mul_one]|rw [hc1]|rw [hnv]|rw [hnv2]|rw [hsp]|rw [hspn]|rw [hsn]|refine ⟨_,rdq,?_⟩|refine ⟨_,rdb,?_⟩|refine ⟨_,_,_,rdr,?_⟩|refine ⟨.sl 80 _ _ _,⟨rfl,rfl,rfl,rfl⟩,?_⟩|refine ⟨.sl 89 _ _ _,⟨rfl,rfl,rfl,rfl⟩,?_⟩|refine zh ?_|((first|apply zc|apply za|apply zd)<;>intro h<;>try (exfalso;omega))|refine pay ?_|refine And.intro (by first|exact kc1|exact kv|exact kv2|exact ⟨rfl,hb5⟩|exact ⟨rfl,hb6⟩|exact ⟨by unfold maxLen;omega,by omega⟩) ?_|intro _));(all_goals (conv=>whnf))
   all_goals try (exfalso;omega)
   rename_i a2 c2
   have l1:(od++[v]).length=od.length+1:=by simp
   have l2:(pr++[od.length]).length=j+1:=by simp [hje]
   exact zi (⟨pr++[od.length],od++[v],nu.set v (od.length+1),a2,c2⟩:N3G) ⟨by dsimp only;omega,hPn v hin hvl rfl,hNn,z++[v],by dsimp only;rw [hz,List.append_assoc]⟩ (by dsimp only;omega) (by dsimp only;rw [l1,l2];(repeat ((conv=>whnf);refine vS ?_));exact trivial) (by dsimp only;rw [l1];exact Ref.takes [118,80,25,89,102,164,174,79,7,3,6] rfl (.refl _))
 ·have hpe:pr.length=cols.length:=by omega
  have hFi:=hP.finish hpe
  rw [zoH hpe]
  have hrv:nr2.map RA.v++[Value.slice (some ⟨b118,0,none⟩) cols.length cols.length]=(nr2++[(⟨pr.map Int.ofNat,some ⟨b118,0,none⟩,cols.length⟩:RA)]).map RA.v:=by
   rw [List.map_append,List.map_singleton]
   unfold RA.v
   rw [g8q,hpe]
  have rda:=fun {L:List Ent}=>h3.rd (L:=L) (k:=q) (v:=.bool (qO M q)) (haf q hqn)
  have htk:(od.take (i+1)).map af=(ord.take i).map af++[qO M q]:=by
   rw [List.take_add_one,hz,List.take_append_of_le_length (by omega),List.getElem?_append_left hlt2,List.map_append,←hafq,←he0,g1q,g2q hlt2];rfl
  have hus:usL ((ord.take i).map af)++[.bool (qO M q)]=usL ((od.take (i+1)).map af):=by rw [htk];unfold usL;rw [List.map_append];rfl
  (repeat' ((conv=>whnf);first|rw [q5]|rw [hrv]|rw [hus]|refine ⟨_,rda,?_⟩|refine ⟨.sl 164 _ _ _,⟨rfl,rfl,rfl,rfl⟩,?_⟩|refine ⟨.sl 174 _ _ _,⟨rfl,rfl,rfl,rfl⟩,?_⟩|refine zh ?_|((first|apply zc|apply za|apply zd)<;>intro h<;>try (exfalso;omega))|refine pay ?_|refine And.intro (by first|exact ⟨by unfold maxLen;omega,by omega⟩) ?_|intro _));(all_goals (conv=>whnf))
  all_goals try (exfalso;omega)
  rename_i a3 c3 _ a4 c4
  have l3:(rows++[pr]).length=i+1:=by rw [g6q,hie];rfl
  have hcur:=hP.cur
  refine zi (⟨rows++[pr],nr2++[(⟨pr.map Int.ofNat,some ⟨b118,0,none⟩,cols.length⟩:RA)],⟨some ⟨b118,0,none⟩,cols.length,cols.length,enL pr⟩::F,od,nu,oa,oc,a3,c3,a4,c4⟩:N2G) ⟨hFi,hNu,?_,?_,?_⟩ ?_ (by dsimp only;rw [l3];(repeat ((conv=>whnf);refine vS ?_));exact trivial) ?_
  ·dsimp only
   rw [List.map_append,List.map_append,hnr];rfl
  ·intro r hr
   rcases List.mem_append.1 hr with hr|hr
   ·exact (hfr r hr).tail
   ·rw [List.mem_singleton] at hr
    subst hr
    exact FIn.head
  ·dsimp only
   omega
  ·dsimp only
   omega
  ·dsimp only
   rw [l3]
   exact (Ref.takes [118,79,80,25,89,102,164,174,7,3,6] rfl (.refl _)).trans (Ref.freezeRow.trans (Ref.takes [80,25,89,102,164,174,79,7,3,6] rfl (.refl _)))
theorem zll {w:World} {k:Nat} (x:MA) (hx:McI w [] x) (hM:MOk x.m k) :
 Calls Tryz.prog uu #[x.v] w fun e w'=>∃ v L1,e=.returned v/\R w [] L1 w'/\zwz x.m v L1:=by
 refine zQ [.v x.v] zf9 (by simp) ?_
 have c1:=fun (w':World) (L:List Ent) (hR:R w [] L w')=>zkm (w:=w') (k:=k) x (hx.cast hR) hM
 have c2:=fun (w':World) (L:List Ent) (hR:R w [] L w')=>zkn (w:=w') (k:=k) x (hx.cast hR) hM
 have c3:=fun (w':World) (L:List Ent) (hR:R w [] L w')=>zoE (w:=w') (k:=k) x (hx.cast hR) hM
 have c4:=fun (w':World) (L:List Ent) (hR:R w [] L w')=>zoI (w:=w') (k:=k) x (hx.cast hR) hM
 have hml:x.m.nx.length=x.nr.length:=g8q ..
 obtain ⟨M,hMM⟩:∃ M,x.m=M:=⟨_,rfl⟩
 rw [hMM] at c1 c2 c3 c4 hml ⊢
 obtain ⟨start,cls,ca,cc,nr,na,nc,acc,aa,ac⟩:=x
 dsimp only [MA.v,MA.cells] at *
 (repeat' ((conv=>whnf);first|(refine zz (fun w' hR=>c1 w' _ hR) ?_;rintro _ _ ⟨l,la,lc,rfl,rfl,hO,hl⟩;refine ⟨.sl 31 _ _ _,rfl,?_⟩)|(refine zz (fun w' hR=>c2 w' _ hR l hO hl la lc (In.ownR (key:=31) hR rfl)) ?_;rintro _ _ ⟨st,sa,sc,rfl,rfl,hS⟩;refine ⟨.sl 21 _ _ _,rfl,?_⟩)|(refine zz (fun w' hR=>c3 w' _ hR l hO hl la lc (In.ownR (key:=31) hR rfl) st hS sa sc (In.ownR (key:=21) hR rfl)) ?_;rintro _ _ ⟨bl,fs,ba,fa,bc,fc,rfl,rfl,hbl,hF⟩;refine ⟨.v _,rfl,?_⟩)|(refine zz (fun w' hR=>c4 w' _ hR l hO st hS bl fs (hbl.trans hml) hF ba bc (In.ownR (key:=44) hR rfl) fa fc (In.ownR (key:=105) hR rfl)) ?_;rintro _ _ ⟨y,F,kc,rfl,rfl,hy,hC,hSm⟩;refine ⟨.v (MA.v y),rfl,?_⟩)|refine zh ?_|((first|apply zc|apply za|apply zd)<;>intro h<;>try (exfalso;omega))|refine pay ?_|intro _));(all_goals (conv=>whnf))
 all_goals try (exfalso;omega)
 exact ⟨⟨_,Ref.takes [79] rfl (.refl _),y,F,kc,rfl,rfl,hy,hC,hSm⟩⟩
theorem zl4 {M:Mch} {k:Nat} (h:MOk M k):zaI M=0:=by
 have h0:(M.nx.getD 0 []).length=k:=(h.row _ (zZ h.pos)).1
 have:=h.most
 rw [zhi (by rw [h0];exact ⟨h.cls,h.pos,h.acc,h.start,h.k1,h.row,h.letter⟩),if_neg (by omega)]
def mzQ (key:Nat) (M:Mch) (v:Value) (L1:List Ent):Prop:=∃ y F kc,v=.tuple #[MA.v y,.nilIface]/\L1=[frE key F]/\MFz F y/\Can y.m kc/\zm0 y.m M
theorem zlm (key:Nat) {w:World} {k:Nat} (x:MA) (hx:McI w [] x) (hM:MOk x.m k) :
 Calls Tryz.prog ut #[x.v] w fun e w'=>∃ v L1,e=.returned v/\R w [] L1 w'/\mzQ key x.m v L1:=by
 refine zQ [.v x.v] zf7 (by simp) ?_
 obtain ⟨n1,n2,n3,n4,n5,n6⟩:=zeE hM
 have hrw:=fun r hr=>(zhm (r:=r) hM hr).1
 have hk1:=hM.k1
 have c1:=fun (w':World) (L:List Ent) (hR:R w [] L w')=>zhZ (w:=w') x (hx.cast hR) ⟨by omega,fun r hr=>by have:=hrw r hr;omega⟩
 rw [zl4 hM] at c1
 have c2:=fun (w':World) (L:List Ent) (hR:R w [] L w')=>zll (w:=w') (k:=k) x (hx.cast hR) hM
 obtain ⟨M,hMM⟩:∃ M,x.m=M:=⟨_,rfl⟩
 rw [hMM] at c2 ⊢
 obtain ⟨start,cls,ca,cc,nr,na,nc,acc,aa,ac⟩:=x
 dsimp only [MA.v,MA.cells] at *
 (repeat' ((conv=>whnf);first|refine zm (.v .nilIface) (fun w' hR=>c1 w' _ hR) ?_|(refine zz (fun w' hR=>c2 w' _ hR) ?_;rintro _ _ ⟨y,F,kc,rfl,rfl,hy,hC,hSm⟩;refine ⟨.v (MA.v y),rfl,?_⟩)|refine zh ?_|((first|apply zc|apply za|apply zd)<;>intro h<;>try (exfalso;omega))|refine pay ?_|intro _));(all_goals (conv=>whnf))
 all_goals try (exfalso;omega)
 exact ⟨⟨_,Ref.takes [79] rfl (Thin.abs (k':=key) (.nil _)),y,F,kc,rfl,rfl,hy,hC,hSm⟩⟩
end
section
set_option maxHeartbeats 4000000
def val:List Nat->Nat
 | []=>0
 | a::l=>a+256*val l
theorem zi8 {a b p q:Nat} (ha:a<256) (hb:b<256):(a+256*p)&&&(b+256*q)=(a&&&b)+256*(p&&&q):=by
 have h1:((a+256*p)&&&(b+256*q))%2 ^ 8=a&&&b:=by
  rw [Nat.and_mod_two_pow]
  rw [show (a+256*p)%2 ^ 8=a by omega,show (b+256*q)%2 ^ 8=b by omega]
 have h2:((a+256*p)&&&(b+256*q))/2 ^ 8=p&&&q:=by
  rw [Nat.and_div_two_pow]
  rw [show (a+256*p)/2 ^ 8=p by omega,show (b+256*q)/2 ^ 8=q by omega]
 have h3:=Nat.div_add_mod ((a+256*p)&&&(b+256*q)) (2 ^ 8)
 rw [h1,h2] at h3
 omega
theorem zln {c:Nat} (hc:c<256):∀ {l:List Nat},(∀ a∈l,a<256)->val l&&&val (l.map fun _=>c)=val (l.map fun a=>a&&&c)
 | [],_=>by simp [val]
 | a :: l,h => by
   simp only [val,List.map_cons]
   rw [zi8 (h a g5q) hc,zln hc fun x hx=>h x (g4q _ hx)]
theorem zd5 {c k m:Nat} (hc:c<m) (hm:m*k=256) (hand:∀ y t,y<m->(y+m*t)%256&&&c=y&&&c):∀ {l:List Nat},(∀ a∈l,a<256)->(val l/k)&&&val (l.map fun _=>c)=val (l.map fun a=>a/k&&&c)
 | [],_=>by simp [val]
 | a :: l,h => by
   have ha:=h a g5q
   have hk:0<k:=by
    rcases Nat.eq_zero_or_pos k with h0|h0
    ·rw [h0] at hm;simp at hm
    ·exact h0
   have ih:=zd5 hc hm hand (l:=l) fun x hx=>h x (g4q _ hx)
   simp only [val,List.map_cons]
   have e1:(a+256*val l)/k=a/k+m*val l:=by
    rw [←hm,Nat.mul_comm m k,Nat.mul_assoc,Nat.add_mul_div_left _ _ hk]
   have hak:a/k<m:=by rw [Nat.div_lt_iff_lt_mul hk,hm];exact ha
   have e2:a/k+m*val l=(a/k+m*val l)%256+256*(val l/k):=by
    have h3:=Nat.div_add_mod (a/k+m*val l) 256
    have h4:(a/k+m*val l)/256=val l/k:=by
     rw [←hm,←Nat.div_div_eq_div_mul,Nat.add_mul_div_left _ _ (by omega),Nat.div_eq_of_lt hak,Nat.zero_add]
    rw [h4] at h3
    omega
   have hmle:m<=256:=by
    have:=Nat.le_mul_of_pos_right m hk
    omega
   rw [e1,e2,zi8 (Nat.mod_lt _ (by decide)) (by omega),ih,hand _ _ hak]
theorem zlo {f g:Nat->Nat}:∀ l:List Nat,val (l.map f)+val (l.map g)=val (l.map fun a=>f a+g a)
 | []=>rfl
 | a :: l => by
   have:=zlo (f:=f) (g:=g) l
   simp only [val,List.map_cons]
   omega
theorem zqB:∀ {l:List Nat},(∀ a∈l,a%16<=6/\a/16<=6)->(val l/16+val l)&&&val (l.map fun _=>15)=val (l.map fun a=>a/16+a%16)/\val l%16<=6
 | [],_=>by simp [val]
 | a :: l,h => by
   obtain ⟨h1,h2⟩:=h a g5q
   obtain ⟨ih,ih2⟩:=zqB (l:=l) fun x hx=>h x (g4q _ hx)
   simp only [val,List.map_cons]
   obtain ⟨P,hP⟩:∃ P,val l=P:=⟨_,rfl⟩
   rw [hP] at ih ih2 ⊢
   have e1:(a+256*P)/16+(a+256*P)=(a+a/16+16*(P%16))+256*(P/16+P):=by omega
   refine ⟨?_,by omega⟩
   rw [e1,zi8 (by omega) (by decide),ih]
   have e2:(a+a/16+16*(P%16))&&&15=(a+a/16+16*(P%16))%16:=Nat.and_two_pow_sub_one_eq_mod _ 4
   rw [e2]
   omega
def f1 (a:Nat):Nat:=(a/2&&&85)+(a&&&85)
def f2 (a:Nat):Nat:=(a/4&&&51)+(a&&&51)
theorem zu5:∀ a,a<256->f1 a<256:=by decide +kernel
theorem zxK:∀ a,a<256->f2 a%16<=6/\f2 a/16<=6/\f2 a<256:=by decide +kernel
theorem zdx:∀ a,a<256->(a=0↔f2 (f1 a)/16+f2 (f1 a)%16=0):=by decide +kernel
theorem zgX:∀ a,a<256->f2 (f1 a)/16+f2 (f1 a)%16<=12:=by decide +kernel
theorem zwA (x:Nat) (h:x<18446744073709551616):∃ l:List Nat,l.length=8/\(∀ a∈l,a<256)/\val l=x :=
 ⟨[x % 256,x / 256 % 256,x / 65536 % 256,x / 16777216 % 256,x / 4294967296 % 256,x / 1099511627776 % 256,x / 281474976710656 % 256,x / 72057594037927936 % 256],rfl,by
   intro a ha
   simp at ha
   omega,by simp only [val];omega⟩
def oc1 (x:Nat):Nat:=(x/2&&&6148914691236517205)+(x&&&6148914691236517205)
def oc2 (x:Nat):Nat:=(x/4&&&3689348814741910323)+(x&&&3689348814741910323)
def oc4 (x:Nat):Nat:=(x/16+x)&&&1085102592571150095
theorem zxL:∀ y t,y<128->(y+128*t)%256&&&85=y&&&85:=fun y t hy=>by
 have h:(y+128*t)%256=y∨(y+128*t)%256=y+128:=by omega
 rcases h with h|h
 ·rw [h]
 ·rw [h]
  have k:∀ y,y<128->y+128&&&85=y&&&85:=by decide +kernel
  exact k y hy
theorem zxM:∀ y t,y<64->(y+64*t)%256&&&51=y&&&51:=fun y t hy=>by
 have h:(y+64*t)%256=y∨(y+64*t)%256=y+64∨(y+64*t)%256=y+128∨(y+64*t)%256=y+192:=by omega
 have k:∀ y,y<64->(y+64&&&51=y&&&51/\y+128&&&51=y&&&51/\y+192&&&51=y&&&51):=by decide +kernel
 obtain ⟨k1,k2,k3⟩:=k y hy
 rcases h with h|h|h|h<;>rw [h]<;>assumption
theorem zwB {x:Nat} (h:x<18446744073709551616):∃ l:List Nat,l.length=8/\(∀ a∈l,a<256)/\val l=x/\oc1 x=val (l.map f1)/\oc2 (oc1 x)=val (l.map fun a=>f2 (f1 a))/\oc4 (oc2 (oc1 x))=val (l.map fun a=>f2 (f1 a)/16+f2 (f1 a)%16):=by
 obtain ⟨l,hl,hb,hx⟩:=zwA x h
 have m1:∀ c:Nat,val (l.map fun _=>c)=c*72340172838076673:=fun c=>by
  match l,hl with
  | [_,_,_,_,_,_,_,_],_=>simp only [List.map_cons,List.map_nil,val];omega
 have e1:oc1 x=val (l.map f1):=by
  unfold oc1
  have h1:=zln (c:=85) (by decide) hb
  have h2:=zd5 (c:=85) (k:=2) (m:=128) (by decide) (by decide) zxL hb
  rw [m1 85,hx] at h1 h2
  rw [show (85*72340172838076673:Nat)=6148914691236517205 by decide] at h1 h2
  rw [h1,h2,zlo];rfl
 have e2:oc2 (oc1 x)=val (l.map fun a=>f2 (f1 a)):=by
  have hb2:∀ a∈l.map f1,a<256:=fun a ha=>by
   obtain ⟨y,hy,rfl⟩:=List.mem_map.1 ha
   exact zu5 y (hb y hy)
  unfold oc2
  have h1:=zln (c:=51) (by decide) hb2
  have h2:=zd5 (c:=51) (k:=4) (m:=64) (by decide) (by decide) zxM hb2
  rw [List.map_map,←e1] at h1 h2
  have m2:val (l.map ((fun _=>51) ∘ f1))=3689348814741910323:=by
   have:=m1 51
   rw [show (51*72340172838076673:Nat)=3689348814741910323 by decide] at this
   exact this
  rw [m2] at h1 h2
  rw [h1,h2,List.map_map,List.map_map,zlo];rfl
 refine ⟨l,hl,hb,hx,e1,e2,?_⟩
 have h3:=(zqB (l:=l.map fun a=>f2 (f1 a)) fun a ha=>by
  obtain ⟨y,hy,rfl⟩:=List.mem_map.1 ha
  have:=zxK _ (zu5 y (hb y hy))
  exact ⟨this.1,this.2.1⟩).1
 rw [List.map_map,List.map_map,←e2] at h3
 have m3:val (l.map ((fun _=>15) ∘ fun a=>f2 (f1 a)))=1085102592571150095:=by
  have:=m1 15
  rw [show (15*72340172838076673:Nat)=1085102592571150095 by decide] at this
  exact this
 rw [m3] at h3
 unfold oc4
 exact h3
theorem zwC {x:Nat}:oc1 x<=12297829382473034410:=by
 have h1:x/2&&&6148914691236517205<=6148914691236517205:=Nat.and_le_right
 have h2:x&&&6148914691236517205<=6148914691236517205:=Nat.and_le_right
 unfold oc1;omega
theorem zwD {x:Nat}:oc2 x<=7378697629483820646:=by
 have h1:x/4&&&3689348814741910323<=3689348814741910323:=Nat.and_le_right
 have h2:x&&&3689348814741910323<=3689348814741910323:=Nat.and_le_right
 unfold oc2;omega
def oc8 (y:Nat):Nat:=y+y/256
def zaQ (y:Nat):Nat:=y+y/65536
def zd6 (y:Nat):Nat:=y+y/4294967296
def xK (x:Nat):Nat:=zd6 (zaQ (oc8 (oc4 (oc2 (oc1 x)))))%128
theorem dv8 {a p:Nat} (h:a<256):(a+256*p)/256=p:=by omega
theorem zyf {a b p:Nat} (h:a<256) (k:b<256):(a+256*(b+256*p))/65536=p:=by omega
theorem zyg {a b c d p:Nat} (h:a<256) (k:b<256) (h2:c<256) (k2:d<256):(a+256*(b+256*(c+256*(d+256*p))))/4294967296=p:=by omega
theorem zux {y A B C D E F G K:Nat} (hy:y=A+256*(B+256*(C+256*(D+256*(E+256*(F+256*(G+256*(K+256*0)))))))) (la:A<=12) (lb:B<=12) (lc:C<=12) (ld:D<=12) (le:E<=12) (lf:F<=12) (lg:G<=12) (lk:K<=12) :
 zd6 (zaQ (oc8 y))%128=A+B+C+D+E+F+G+K/\oc8 y<18446744073709551616/\zaQ (oc8 y)<18446744073709551616/\zd6 (zaQ (oc8 y))<9223372036854775808:=by
 have h1:A<256/\A+B<256/\B+C<256/\A+B+C+D<256/\B+C+D+E<256/\C+D+E+F<256/\D+E+F+G<256:=by clear hy;omega
 obtain ⟨b1,b2,b3,b4,b5,b6,b7⟩:=h1
 have y8:oc8 y=(A+B)+256*((B+C)+256*((C+D)+256*((D+E)+256*((E+F)+256*((F+G)+256*((G+K)+256*K)))))):=by
  unfold oc8;rw [hy,dv8 b1];clear hy b1 b2 b3 b4 b5 b6 b7;omega
 clear hy
 have y16:zaQ (oc8 y)=(A+B+C+D)+256*((B+C+D+E)+256*((C+D+E+F)+256*((D+E+F+G)+256*((E+F+G+K)+256*((F+G+K)+256*((G+K)+256*K)))))):=by
  unfold zaQ;rw [y8,zyf b2 b3];clear y8 b1 b2 b3 b4 b5 b6 b7;omega
 have y32:zd6 (zaQ (oc8 y))=(A+B+C+D+E+F+G+K)+256*((B+C+D+E+F+G+K)+256*((C+D+E+F+G+K)+256*((D+E+F+G+K)+256*((E+F+G+K)+256*((F+G+K)+256*((G+K)+256*K)))))):=by
  unfold zd6;rw [y16,zyg b4 b5 b6 b7];clear y8 y16 b1 b2 b3 b4 b5 b6 b7;omega
 clear b1 b2 b3 b4 b5 b6 b7
 rw [y32,y16,y8]
 clear y8 y16 y32
 refine ⟨?_,?_,?_,?_⟩
 ·obtain ⟨S,hS⟩:∃ S,A+B+C+D+E+F+G+K=S:=⟨_,rfl⟩
  have hS2:S<=96:=by omega
  rw [hS]
  generalize (B+C+D+E+F+G+K)+256*((C+D+E+F+G+K)+256*((D+E+F+G+K)+256*((E+F+G+K)+256*((F+G+K)+256*((G+K)+256*K)))))=Q
  clear hS la lb lc ld le lf lg lk
  omega
 ·omega
 ·omega
 ·omega
theorem zbi {x:Nat} (h:x<18446744073709551616):(xK x=0↔x=0)/\oc8 (oc4 (oc2 (oc1 x)))<18446744073709551616/\zaQ (oc8 (oc4 (oc2 (oc1 x))))<18446744073709551616/\zd6 (zaQ (oc8 (oc4 (oc2 (oc1 x)))))<9223372036854775808:=by
 obtain ⟨l,hl,hb,hx,_,_,e4⟩:=zwB h
 match l,hl with
 | [a,b,c,d,e,f,g,k],_ =>
   have pa:=zdx a (hb a (by simp));have la:=zgX a (hb a (by simp))
   have pb:=zdx b (hb b (by simp));have lb:=zgX b (hb b (by simp))
   have pc:=zdx c (hb c (by simp));have lc:=zgX c (hb c (by simp))
   have pd:=zdx d (hb d (by simp));have ld:=zgX d (hb d (by simp))
   have pe:=zdx e (hb e (by simp));have le:=zgX e (hb e (by simp))
   have pf:=zdx f (hb f (by simp));have lf:=zgX f (hb f (by simp))
   have pg:=zdx g (hb g (by simp));have lg:=zgX g (hb g (by simp))
   have pk:=zdx k (hb k (by simp));have lk:=zgX k (hb k (by simp))
   simp only [List.map_cons,List.map_nil,val] at e4
   obtain ⟨h1,h2,h3,h4⟩:=zux e4 la lb lc ld le lf lg lk
   refine ⟨?_,h2,h3,h4⟩
   unfold xK
   rw [h1]
   have hx2:x=0↔a=0/\b=0/\c=0/\d=0/\e=0/\f=0/\g=0/\k=0:=by
    rw [←hx]
    simp only [val]
    clear pa pb pc pd pe pf pg pk la lb lc ld le lf lg lk h1 h2 h3 h4 e4 hb hx
    constructor
    ·intro h0
     refine ⟨?_,?_,?_,?_,?_,?_,?_,?_⟩<;>omega
    ·rintro ⟨rfl,rfl,rfl,rfl,rfl,rfl,rfl,rfl⟩
     rfl
   rw [hx2]
   clear la lb lc ld le lf lg lk h1 h2 h3 h4 e4 hb hx hx2
   generalize f2 (f1 a)/16+f2 (f1 a)%16=A at *
   generalize f2 (f1 b)/16+f2 (f1 b)%16=B at *
   generalize f2 (f1 c)/16+f2 (f1 c)%16=C at *
   generalize f2 (f1 d)/16+f2 (f1 d)%16=D at *
   generalize f2 (f1 e)/16+f2 (f1 e)%16=E at *
   generalize f2 (f1 f)/16+f2 (f1 f)%16=F at *
   generalize f2 (f1 g)/16+f2 (f1 g)%16=G at *
   generalize f2 (f1 k)/16+f2 (f1 k)%16=K at *
   constructor
   ·intro h0
    have z:A=0/\B=0/\C=0/\D=0/\E=0/\F=0/\G=0/\K=0:=by
     clear pa pb pc pd pe pf pg pk
     refine ⟨?_,?_,?_,?_,?_,?_,?_,?_⟩<;>omega
    obtain ⟨z1,z2,z3,z4,z5,z6,z7,z8⟩:=z
    exact ⟨pa.2 z1,pb.2 z2,pc.2 z3,pd.2 z4,pe.2 z5,pf.2 z6,pg.2 z7,pk.2 z8⟩
   ·rintro ⟨z1,z2,z3,z4,z5,z6,z7,z8⟩
    rw [pa.1 z1,pb.1 z2,pc.1 z3,pd.1 z4,pe.1 z5,pf.1 z6,pg.1 z7,pk.1 z8]
end
section
open Go.EG
structure Ls where
 a:Nat
 b:Nat
 c:Nat
 d:Nat
 ha:a<18446744073709551616
 hb:b<18446744073709551616
 hc:c<18446744073709551616
 hd:d<18446744073709551616
instance:Inhabited Ls:=⟨⟨0,0,0,0,by decide,by decide,by decide,by decide⟩⟩
abbrev Ls.cells (s:Ls):List Value:=[.int .u64 (s.a:Int),.int .u64 (s.b:Int),.int .u64 (s.c:Int),.int .u64 (s.d:Int)]
abbrev Ls.v (s:Ls):Value:=.agg s.cells.toArray
def Ls.w (s:Ls) (i:Nat):Nat:=if i=0 then s.a else if i=1 then s.b else if i=2 then s.c else s.d
theorem Ls.w_lt (s:Ls) (i:Nat):s.w i<18446744073709551616:=by
 unfold Ls.w
 split
 ·exact s.ha
 ·split
  ·exact s.hb
  ·split
   ·exact s.hc
   ·exact s.hd
def Ls.has (s:Ls) (x:Nat):Bool:=(s.w (x/64)).testBit (x%64)
theorem uO {x y:Nat} (h:x<18446744073709551616):x&&&y<18446744073709551616:=Nat.lt_of_le_of_lt Nat.and_le_left h
theorem zfH {x y:Nat} (h:x<18446744073709551616) (k:y<18446744073709551616):x ^^^ y<18446744073709551616:=Nat.xor_lt_two_pow (n:=64) h k
def Ls.meet (s t:Ls):Ls:=⟨s.a&&&t.a,s.b&&&t.b,s.c&&&t.c,s.d&&&t.d,uO s.ha,uO s.hb,uO s.hc,uO s.hd⟩
def Ls.minus (s t:Ls):Ls:=⟨s.a ^^^ (s.a&&&t.a),s.b ^^^ (s.b&&&t.b),s.c ^^^ (s.c&&&t.c),s.d ^^^ (s.d&&&t.d),zfH s.ha (uO s.ha),zfH s.hb (uO s.hb),zfH s.hc (uO s.hc),zfH s.hd (uO s.hd)⟩
theorem Ls.w_meet (s t:Ls) (i:Nat):(s.meet t).w i=s.w i&&&t.w i:=by
 unfold Ls.w Ls.meet
 dsimp only
 split
 ·rfl
 ·split
  ·rfl
  ·split<;>rfl
theorem Ls.w_minus (s t:Ls) (i:Nat):(s.minus t).w i=s.w i ^^^ (s.w i&&&t.w i):=by
 unfold Ls.w Ls.minus
 dsimp only
 split
 ·rfl
 ·split
  ·rfl
  ·split<;>rfl
theorem Ls.has_meet (s t:Ls) (x:Nat):(s.meet t).has x=(s.has x&&t.has x):=by
 unfold Ls.has;rw [Ls.w_meet,Nat.testBit_and]
theorem Ls.has_minus (s t:Ls) (x:Nat):(s.minus t).has x=(s.has x&&!t.has x):=by
 unfold Ls.has
 rw [Ls.w_minus,Nat.testBit_xor,Nat.testBit_and]
 cases (s.w (x/64)).testBit (x%64)<;>cases (t.w (x/64)).testBit (x%64)<;>rfl
def Ls.zero (s:Ls):Prop:=s.a=0/\s.b=0/\s.c=0/\s.d=0
theorem zru {x:Nat} (h0:x≠0) (h:x<18446744073709551616):∃ i,i<64/\x.testBit i=true:=by
 obtain ⟨i,hi⟩:=Nat.exists_testBit_of_ne_zero h0
 refine ⟨i,?_,hi⟩
 rcases Nat.lt_or_ge i 64 with h1|h1
 ·exact h1
 ·have:x<2 ^ i:=Nat.lt_of_lt_of_le h (Nat.pow_le_pow_right (n:=2) (by decide) h1)
  rw [Nat.testBit_lt_two_pow this] at hi
  cases hi
theorem Ls.some_of {s:Ls} (h:¬s.zero):∃ x,x<256/\s.has x=true:=by
 have key:∀ j,j<4->s.w j≠0->∃ x,x<256/\s.has x=true:=fun j hj h0=>by
  obtain ⟨i,hi,hb⟩:=zru h0 (s.w_lt j)
  refine ⟨64*j+i,by omega,?_⟩
  unfold Ls.has
  rw [show (64*j+i)/64=j by omega,show (64*j+i)%64=i by omega]
  exact hb
 by_cases h1:s.a=0
 ·by_cases h2:s.b=0
  ·by_cases h3:s.c=0
   ·by_cases h4:s.d=0
    ·exact absurd ⟨h1,h2,h3,h4⟩ h
    ·exact key 3 (by omega) h4
   ·exact key 2 (by omega) h3
  ·exact key 1 (by omega) h2
 ·exact key 0 (by omega) h1
theorem Ls.zero_has {s:Ls} (h:s.zero) (x:Nat):s.has x=false:=by
 obtain ⟨h1,h2,h3,h4⟩:=h
 unfold Ls.has Ls.w
 split
 ·rw [h1];simp
 ·split
  ·rw [h2];simp
  ·split
   ·rw [h3];simp
   ·rw [h4];simp
def Ls.least (s:Ls):Nat:=if s.a≠0 then Lib.ctz 64 s.a else if s.b≠0 then 64+Lib.ctz 64 s.b else if s.c≠0 then 128+Lib.ctz 64 s.c else if s.d≠0 then 192+Lib.ctz 64 s.d else 256
def lsL (l:List Ls):List Value:=l.flatMap Ls.cells
theorem uZ:∀ l:List Ls,(lsL l).length=l.length*4
 | []=>rfl
 | s :: l => by
   have:=uZ l
   unfold lsL at this ⊢
   rw [List.flatMap_cons,g6q,this,List.length_cons]
   simp;omega
theorem zfI (l l':List Ls):lsL (l++l')=lsL l++lsL l':=List.flatMap_append ..
theorem zaR:∀ {l:List Ls} {i:Nat} {s:Ls},l[i]?=some s->((lsL l).drop (i*4)).take 4=s.cells
 | [],i,s,h=>by simp at h
 | t :: l,0,s,h => by
   simp only [List.getElem?_cons_zero,g3q] at h
   subst h
   rfl
 | t :: l,i + 1,s,h => by
   simp only [List.getElem?_cons_succ] at h
   have ih:=zaR h
   have e:lsL (t::l)=t.cells++lsL l:=rfl
   rw [e,show (i+1)*4=t.cells.length+i*4 by simp;omega,←List.drop_drop,List.drop_left]
   exact ih
structure Part (ps:List Ls):Prop where
 full:∀ p∈ps,¬p.zero
 disj:ps.Pairwise fun p q=>∀ x,x<256->¬(p.has x=true/\q.has x=true)
 cover:∀ x,x<256->∃ p∈ps,p.has x=true
theorem Part.perm {ps qs:List Ls} (h:Part ps) (hp:ps.Perm qs):Part qs :=
 ⟨fun p hq=>h.full p (hp.mem_iff.2 hq),(hp.pairwise_iff (fun {a b} h x hx hab=>h x hx ⟨hab.2,hab.1⟩)).1 h.disj,fun x hx=>by
  obtain ⟨p,hp',h'⟩:=h.cover x hx
  exact ⟨p,hp.mem_iff.1 hp',h'⟩⟩
noncomputable def Ls.pick (s:Ls):Nat:=by
 classical exact if h:∃ x,x<256/\s.has x=true then h.choose else 0
theorem Ls.pick_spec {s:Ls} (h:¬s.zero):s.pick<256/\s.has s.pick=true:=by
 have:=Ls.some_of h
 unfold Ls.pick
 rw [dif_pos this]
 exact this.choose_spec
theorem zuy {ps:List Ls} (hf:∀ p∈ps,¬p.zero) (hd:ps.Pairwise fun p q=>∀ x,x<256->¬(p.has x=true/\q.has x=true)):ps.length<=256:=by
 have hn:(ps.map Ls.pick).Nodup:=by
  refine List.pairwise_map.2 (List.Pairwise.imp_of_mem (fun {p q} hp hq h e=>?_) hd)
  obtain ⟨h1,h2⟩:=Ls.pick_spec (hf p hp)
  obtain ⟨h3,h4⟩:=Ls.pick_spec (hf q hq)
  exact h _ h1 ⟨h2,by rw [e];exact h4⟩
 have:=xj hn (n:=256) fun x hx=>by
  obtain ⟨p,hp,rfl⟩:=List.mem_map.1 hx
  exact (Ls.pick_spec (hf p hp)).1
 simpa using this
theorem Part.len {ps:List Ls} (h:Part ps):1<=ps.length/\ps.length<=256:=by
 refine ⟨?_,zuy h.full h.disj⟩
 obtain ⟨p,hp,_⟩:=h.cover 0 (by decide)
 exact List.length_pos_of_mem hp
theorem Part.inj {ps:List Ls} (h:Part ps) {i j:Nat} {p q:Ls} {x:Nat} (hx:x<256) (hi:ps[i]?=some p) (hj:ps[j]?=some q) (hp:p.has x=true) (hq:q.has x=true):i=j:=by
 obtain ⟨hi1,hi2⟩:=List.getElem?_eq_some_iff.1 hi
 obtain ⟨hj1,hj2⟩:=List.getElem?_eq_some_iff.1 hj
 have hd:=List.pairwise_iff_getElem.1 h.disj
 rcases Nat.lt_trichotomy i j with hlt|heq|hgt
 ·exact absurd ⟨by rw [hi2];exact hp,by rw [hj2];exact hq⟩ (hd i j hi1 hj1 hlt x hx)
 ·exact heq
 ·exact absurd ⟨by rw [hj2];exact hq,by rw [hi2];exact hp⟩ (hd j i hj1 hi1 hgt x hx)
def Homo (ss ps:List Ls):Prop:=∀ s∈ss,∀ p∈ps,(∀ x,x<256->p.has x=true->s.has x=true)∨(∀ x,x<256->p.has x=true->s.has x=false)
noncomputable def pc1 (s p:Ls):List Ls:=by
 classical exact (if (p.meet s).zero then [] else [p.meet s])++(if (p.minus s).zero then [] else [p.minus s])
noncomputable def zbu (s:Ls) (ps:List Ls):List Ls:=ps.flatMap (pc1 s)
theorem zlp {s p q:Ls} (h:q∈pc1 s p):¬q.zero/\(q=p.meet s∨q=p.minus s):=by
 unfold pc1 at h
 rcases List.mem_append.1 h with h|h
 ·split at h
  ·cases h
  ·rw [List.mem_singleton] at h;subst h;rename_i hz;exact ⟨hz,.inl rfl⟩
 ·split at h
  ·cases h
  ·rw [List.mem_singleton] at h;subst h;rename_i hz;exact ⟨hz,.inr rfl⟩
theorem zhn {s p q:Ls} (h:q∈pc1 s p) {x:Nat} (hx:q.has x=true):p.has x=true:=by
 obtain ⟨_,h1|h1⟩:=zlp h
 ·rw [h1,Ls.has_meet,Bool.and_eq_true] at hx;exact hx.1
 ·rw [h1,Ls.has_minus,Bool.and_eq_true] at hx;exact hx.1
theorem zuz (s p:Ls):(pc1 s p).Pairwise fun p q=>∀ x,x<256->¬(p.has x=true/\q.has x=true):=by
 unfold pc1
 refine List.pairwise_append.2 ⟨?_,?_,?_⟩
 ·split<;>simp
 ·split<;>simp
 ·intro a ha b hb x _ ⟨h1,h2⟩
  split at ha
  ·cases ha
  ·split at hb
   ·cases hb
   ·rw [List.mem_singleton] at ha hb
    subst ha;subst hb
    rw [Ls.has_meet,Bool.and_eq_true] at h1
    rw [Ls.has_minus,Bool.and_eq_true,h1.2] at h2
    simp at h2
theorem zsy {s p:Ls} {x:Nat} (hx:p.has x=true):∃ q∈pc1 s p,q.has x=true:=by
 unfold pc1
 cases hs:s.has x
 ·have h1:(p.minus s).has x=true:=by rw [Ls.has_minus,hx,hs];rfl
  have hz:¬(p.minus s).zero:=fun h=>by rw [Ls.zero_has h] at h1;cases h1
  exact ⟨p.minus s,by rw [if_neg hz];simp,h1⟩
 ·have h1:(p.meet s).has x=true:=by rw [Ls.has_meet,hx,hs];rfl
  have hz:¬(p.meet s).zero:=fun h=>by rw [Ls.zero_has h] at h1;cases h1
  exact ⟨p.meet s,by rw [if_neg hz];simp,h1⟩
theorem Part.pcs {ps:List Ls} (h:Part ps) (s:Ls):Part (zbu s ps):=by
 refine ⟨fun q hq=>?_,?_,fun x hx=>?_⟩
 ·obtain ⟨p,_,hq⟩:=List.mem_flatMap.1 hq
  exact (zlp hq).1
 ·unfold zbu
  refine List.pairwise_flatMap.2 ⟨fun p _=>zuz s p,List.Pairwise.imp (fun {p q} hpq a ha b hb x hx hab=>hpq x hx ⟨zhn ha hab.1,zhn hb hab.2⟩) h.disj⟩
 ·obtain ⟨p,hp,hpx⟩:=h.cover x hx
  obtain ⟨q,hq,hqx⟩:=zsy (s:=s) hpx
  exact ⟨q,List.mem_flatMap.2 ⟨p,hp,hq⟩,hqx⟩
theorem Homo.pcs {ss ps:List Ls} (h:Homo ss ps) (s:Ls):Homo (ss++[s]) (zbu s ps):=by
 intro t ht q hq
 obtain ⟨p,hp,hq⟩:=List.mem_flatMap.1 hq
 rcases List.mem_append.1 ht with ht|ht
 ·rcases h t ht p hp with h1|h1
  ·exact .inl fun x hx hqx=>h1 x hx (zhn hq hqx)
  ·exact .inr fun x hx hqx=>h1 x hx (zhn hq hqx)
 ·rw [List.mem_singleton] at ht
  subst ht
  obtain ⟨_,h1|h1⟩:=zlp hq
  ·refine .inl fun x _ hqx=>?_
   rw [h1,Ls.has_meet,Bool.and_eq_true] at hqx;exact hqx.2
  ·refine .inr fun x _ hqx=>?_
   rw [h1,Ls.has_minus,Bool.and_eq_true] at hqx
   simpa using hqx.2
theorem Homo.perm {ss ps qs:List Ls} (h:Homo ss ps) (hp:ps.Perm qs):Homo ss qs:=fun s hs q hq=>h s hs q (hp.mem_iff.2 hq)
def lsAll:Ls:=⟨18446744073709551615,18446744073709551615,18446744073709551615,18446744073709551615,by decide,by decide,by decide,by decide⟩
theorem zsz (x:Nat):lsAll.has x=true:=by
 have:∀ i,lsAll.w i=2 ^ 64 - 1:=fun i=>by
  unfold Ls.w lsAll
  dsimp only
  split
  ·rfl
  ·split
   ·rfl
   ·split<;>rfl
 unfold Ls.has
 rw [this,Nat.testBit_two_pow_sub_one]
 simp;omega
theorem Part.all:Part [lsAll]:=⟨fun p hp=>by rw [List.mem_singleton.1 hp];intro h;have:=h.1;simp [lsAll] at this,by simp,fun x _=>⟨lsAll,by simp,zsz x⟩⟩
theorem Homo.nil (ps:List Ls):Homo [] ps:=fun s hs=>by cases hs
end
section
open Go.EG
attribute [local irreducible] zT yE Go.Calls
set_option maxRecDepth 20000
set_option maxHeartbeats 4000000
def tabI:List Int:=Lib.deBruijn64tab.map fun n:Nat=>(n:Int)
theorem za2:tabI.length=64:=by decide
theorem zuA (i:Nat):tabI.getD i 0=((Lib.deBruijn64tab.getD i 0:Nat):Int):=by
 unfold tabI
 rw [g1q,List.getElem?_map,g1q]
 cases Lib.deBruijn64tab[i]?<;>rfl
abbrev Tab (w:World):Prop:=In w [] (some ⟨0,0,none⟩) (zu .u8 tabI)
theorem rdG {w0:World} {fp0:List Nat} {L:List Ent} {k:IntKind} {g:Nat} {zs:List Int} {i:Nat} (hx:In w0 fp0 (some ⟨g,0,none⟩) (zu k zs)) (h:i<zs.length):Rd w0 fp0 L (.v (.pointer (some ((⟨g,0,none⟩:Addr).add i)))) [.int k (zs.getD i 0)] :=
 rdI hx h
theorem zi9 (x:Nat) (h0:0<x) (h1:x<18446744073709551616) (w:World) (hG:Tab w):Calls Tryz.prog qA #[.int .u64 x] w fun e w'=>e=.returned (.int .i64 (Lib.ctz 64 x))/\Ext w w':=by
 refine zF [.v (.int .u64 x)] w zaO (by simp) ?_
 obtain ⟨hlow,hk⟩:=Lib.lowest_bit 64 x (by omega) h1
 obtain ⟨hi,htab⟩:=Lib.deBruijn64_at _ hk
 generalize Lib.ctz 64 x=k at *
 have hn:(0 - (x:Int))%18446744073709551616=((18446744073709551616 - x:Nat):Int):=by omega
 have hb:(((x:Int).toNat&&&((0 - (x:Int))%18446744073709551616).toNat:Nat):Int)=((2 ^ k:Nat):Int):=by
  rw [hn,g7q,g7q]
  rw [show 18446744073709551616 - x=2 ^ 64 - x from rfl,hlow]
 have hx:((2 ^ k:Nat):Int)*285870213051353865%18446744073709551616/((2 ^ (58:Int).toNat:Nat):Int)=((2 ^ k*285870213051353865%18446744073709551616/288230376151711744:Nat):Int):=by
  rw [Int.natCast_ediv,Int.natCast_emod,Int.natCast_mul];rfl
 generalize hidx:2 ^ k*285870213051353865%18446744073709551616/288230376151711744=idx at *
 have h2:(0:Int)<=(0 - (x:Int))%18446744073709551616/\(0 - (x:Int))%18446744073709551616<=18446744073709551615:=by omega
 have h3:tabI.getD idx 0=(k:Int):=by rw [zuA,htab]
 (repeat' ((conv=>whnf);first|rw [hb]|rw [hx]|rw [g7q]|rw [h3]|refine ⟨_,rdG hG (by rw [za2];exact hi),?_⟩|((first|apply zc|apply za|apply zd)<;>intro h<;>try (exfalso;omega))|refine pay ?_|refine And.intro (by first|exact ⟨by omega,by omega,h2.1,h2.2⟩|exact ⟨by decide,by show _<=(64:Int);decide⟩) ?_|intro _));(all_goals (conv=>whnf))
 exact ⟨rfl⟩
theorem zja {n:Nat} (h:n<18446744073709551616):((n:Nat):Int)%18446744073709551616=(n:Int):=by omega
theorem zb1 (x:Nat) (h:x<18446744073709551616) (w:World):Calls Tryz.prog kD #[.int .u64 x] w fun e w'=>e=.returned (.int .i64 (xK x:Nat))/\Ext w w':=by
 refine zF [.v (.int .u64 x)] w zc5 (by simp) ?_
 obtain ⟨_,hb8,hb16,hb32⟩:=zbi h
 have b1:oc1 x<18446744073709551616:=Nat.lt_of_le_of_lt (@zwC x) (by decide)
 have b2:oc2 (oc1 x)<=7378697629483820646:=@zwD (oc1 x)
 have b4:oc4 (oc2 (oc1 x))<18446744073709551616:=Nat.lt_of_le_of_lt Nat.and_le_right (by decide)
 have k1:((x:Int)/((2 ^ (1:Int).toNat:Nat):Int))=((x/2:Nat):Int):=by rw [Int.natCast_ediv];rfl
 have s1:(((((x/2:Nat):Int).toNat&&&(6148914691236517205:Int).toNat:Nat):Int)+((((x:Int).toNat&&&(6148914691236517205:Int).toNat:Nat)):Int))%18446744073709551616=((oc1 x:Nat):Int):=by
  rw [g7q,g7q,←Int.natCast_add]
  exact zja (n:=oc1 x) b1
 have hon:xK x=zd6 (zaQ (oc8 (oc4 (oc2 (oc1 x)))))%128:=rfl
 obtain ⟨x1,hx1⟩:∃ x1,oc1 x=x1:=⟨_,rfl⟩
 rw [hx1] at s1 b1 b2 b4 hb8 hb16 hb32 hon
 have k2:((x1:Int)/((2 ^ (2:Int).toNat:Nat):Int))=((x1/4:Nat):Int):=by rw [Int.natCast_ediv];rfl
 have s2:(((((x1/4:Nat):Int).toNat&&&(3689348814741910323:Int).toNat:Nat):Int)+((((x1:Int).toNat&&&(3689348814741910323:Int).toNat:Nat)):Int))%18446744073709551616=((oc2 x1:Nat):Int):=by
  rw [g7q,g7q,←Int.natCast_add]
  exact zja (n:=oc2 x1) (Nat.lt_of_le_of_lt b2 (by decide))
 obtain ⟨x2,hx2⟩:∃ x2,oc2 x1=x2:=⟨_,rfl⟩
 rw [hx2] at s2 b2 b4 hb8 hb16 hb32 hon
 have k4:((x2:Int)/((2 ^ (4:Int).toNat:Nat):Int))=((x2/16:Nat):Int):=by rw [Int.natCast_ediv];rfl
 have b3:x2/16+x2<18446744073709551616:=by clear k1 s1 k2 s2 k4 hon hb8 hb16 hb32 b4;omega
 have s4a:(((x2/16:Nat):Int)+(x2:Int))%18446744073709551616=((x2/16+x2:Nat):Int):=by
  rw [←Int.natCast_add];exact zja b3
 have s4:(((((x2/16+x2:Nat):Int).toNat&&&(1085102592571150095:Int).toNat:Nat)):Int)=((oc4 x2:Nat):Int):=by
  rw [g7q];rfl
 obtain ⟨x4,hx4⟩:∃ x4,oc4 x2=x4:=⟨_,rfl⟩
 rw [hx4] at s4 b4 hb8 hb16 hb32 hon
 have k8:((x4:Int)/((2 ^ (8:Int).toNat:Nat):Int))=((x4/256:Nat):Int):=by rw [Int.natCast_ediv];rfl
 have s8:((x4:Int)+((x4/256:Nat):Int))%18446744073709551616=((oc8 x4:Nat):Int):=by
  rw [←Int.natCast_add];exact zja (n:=oc8 x4) hb8
 obtain ⟨x8,hx8⟩:∃ x8,oc8 x4=x8:=⟨_,rfl⟩
 rw [hx8] at s8 hb8 hb16 hb32 hon
 have k16:((x8:Int)/((2 ^ (16:Int).toNat:Nat):Int))=((x8/65536:Nat):Int):=by rw [Int.natCast_ediv];rfl
 have s16:((x8:Int)+((x8/65536:Nat):Int))%18446744073709551616=((zaQ x8:Nat):Int):=by
  rw [←Int.natCast_add];exact zja (n:=zaQ x8) hb16
 obtain ⟨x16,hx16⟩:∃ x16,zaQ x8=x16:=⟨_,rfl⟩
 rw [hx16] at s16 hb16 hb32 hon
 have k32:((x16:Int)/((2 ^ (32:Int).toNat:Nat):Int))=((x16/4294967296:Nat):Int):=by rw [Int.natCast_ediv];rfl
 have s32:((x16:Int)+((x16/4294967296:Nat):Int))%18446744073709551616=((zd6 x16:Nat):Int):=by
  rw [←Int.natCast_add];exact zja (n:=zd6 x16) (by clear k1 s1 k2 s2 k4 s4a s4 k8 s8 k16 s16 k32;omega)
 obtain ⟨x32,hx32⟩:∃ x32,zd6 x16=x32:=⟨_,rfl⟩
 rw [hx32] at s32 hb32 hon
 clear hx1 hx2 hx4 hx8 hx16 hx32 b2
 have hcv:((((x32:Int).toNat&&&(127:Int).toNat:Nat)):Int)=((x32%128:Nat):Int):=by
  rw [g7q]
  exact congrArg _ (Nat.and_two_pow_sub_one_eq_mod x32 7)
 have g1:x/2<=18446744073709551615:=by clear k1 s1 k2 s2 k4 s4a s4 k8 s8 k16 s16 k32 s32 hon hcv;omega
 have g2:x1/4<=18446744073709551615:=by clear k1 s1 k2 s2 k4 s4a s4 k8 s8 k16 s16 k32 s32 hon hcv g1;omega
 (repeat' ((conv=>whnf);first|rw [k1]|rw [s1]|rw [k2]|rw [s2]|rw [k4]|rw [s4a]|rw [s4]|rw [k8]|rw [s8]|rw [k16]|rw [s16]|rw [k32]|rw [s32]|rw [hcv]|((first|apply zc|apply za|apply zd)<;>intro h<;>try (exfalso;omega))|refine pay ?_|refine And.intro (by first|exact ⟨by clear k1 s1 k2 s2 k4 s4a s4 k8 s8 k16 s16 k32 s32 hon hcv;omega,by clear k1 s1 k2 s2 k4 s4a s4 k8 s8 k16 s16 k32 s32 hon hcv;omega⟩|exact ⟨by decide,by show _<=(64:Int);decide⟩) ?_|intro _));(all_goals (conv=>whnf))
 exact ⟨by rw [hon]⟩
def zwE (s m:Ls):Nat->List Value
 | 0=>s.cells
 | 1=>[.int .u64 (m.a:Int),.int .u64 (s.b:Int),.int .u64 (s.c:Int),.int .u64 (s.d:Int)]
 | 2=>[.int .u64 (m.a:Int),.int .u64 (m.b:Int),.int .u64 (s.c:Int),.int .u64 (s.d:Int)]
 | 3=>[.int .u64 (m.a:Int),.int .u64 (m.b:Int),.int .u64 (m.c:Int),.int .u64 (s.d:Int)]
 | _=>m.cells
theorem zkq (s t:Ls) (w:World):Calls Tryz.prog vl #[s.v,t.v] w fun e w'=>e=.returned (s.meet t).v/\Ext w w':=by
 refine zF [.v s.v,.v t.v] w zhJ (by simp) ?_
 have s1:=s.ha;have s2:=s.hb;have s3:=s.hc;have s4:=s.hd
 have t1:=t.ha;have t2:=t.hb;have t3:=t.hc;have t4:=t.hd
 (repeat' ((conv=>whnf);first|((first|apply zc|apply za|apply zd)<;>intro h<;>try (exfalso;omega))|refine pay ?_|intro _));(all_goals (conv=>whnf))
 rename_i b2 b3 b4
 refine zw Nat (fun i=>[(2,.ptr 2 b2 0),(3,.ptr 3 b3 0),(4,.ptr 4 b4 0),(6,.v (.int .i64 i))]) (fun i=>[.box 2 b2 (zwE s (s.meet t) i) zj,.box 3 b3 t.cells zj,.box 4 b4 [.int .u64 0,.int .u64 0,.int .u64 0,.int .u64 0] zj]) (fun i=>i<=4) (fun i=>4 - i) 0 (Nat.zero_le _) (by (repeat ((conv=>whnf);refine vS ?_));exact trivial) (Ref.takes [2,3,4] rfl (.refl _)) ?_
 rintro i hi
 rcases (by omega:i=0∨i=1∨i=2∨i=3∨i=4) with rfl|rfl|rfl|rfl|rfl
 ·(repeat' ((conv=>whnf);first|((first|apply zc|apply za|apply zd)<;>intro h<;>try (exfalso;omega))|refine pay ?_|refine And.intro (by first|exact ⟨by omega,by omega,by omega,by omega⟩) ?_|intro _));(all_goals (conv=>whnf))
  all_goals try (exfalso;omega)
  exact zi 1 (by omega) (by omega) (by (repeat ((conv=>whnf);refine vS ?_));exact trivial) (Ref.takes [2,3,4] rfl (.box rfl (.refl _)))
 ·(repeat' ((conv=>whnf);first|((first|apply zc|apply za|apply zd)<;>intro h<;>try (exfalso;omega))|refine pay ?_|refine And.intro (by first|exact ⟨by omega,by omega,by omega,by omega⟩) ?_|intro _));(all_goals (conv=>whnf))
  all_goals try (exfalso;omega)
  exact zi 2 (by omega) (by omega) (by (repeat ((conv=>whnf);refine vS ?_));exact trivial) (Ref.takes [2,3,4] rfl (.box rfl (.refl _)))
 ·(repeat' ((conv=>whnf);first|((first|apply zc|apply za|apply zd)<;>intro h<;>try (exfalso;omega))|refine pay ?_|refine And.intro (by first|exact ⟨by omega,by omega,by omega,by omega⟩) ?_|intro _));(all_goals (conv=>whnf))
  all_goals try (exfalso;omega)
  exact zi 3 (by omega) (by omega) (by (repeat ((conv=>whnf);refine vS ?_));exact trivial) (Ref.takes [2,3,4] rfl (.box rfl (.refl _)))
 ·(repeat' ((conv=>whnf);first|((first|apply zc|apply za|apply zd)<;>intro h<;>try (exfalso;omega))|refine pay ?_|refine And.intro (by first|exact ⟨by omega,by omega,by omega,by omega⟩) ?_|intro _));(all_goals (conv=>whnf))
  all_goals try (exfalso;omega)
  exact zi 4 (by omega) (by omega) (by (repeat ((conv=>whnf);refine vS ?_));exact trivial) (Ref.takes [2,3,4] rfl (.box rfl (.refl _)))
 ·(repeat' ((conv=>whnf);first|((first|apply zc|apply za|apply zd)<;>intro h<;>try (exfalso;omega))|refine pay ?_|intro _));(all_goals (conv=>whnf))
  all_goals try (exfalso;omega)
  exact ⟨rfl⟩
theorem zpL (s t:Ls) (w:World):Calls Tryz.prog uN #[s.v,t.v] w fun e w'=>e=.returned (s.minus t).v/\Ext w w':=by
 refine zF [.v s.v,.v t.v] w zgS (by simp) ?_
 have s1:=s.ha;have s2:=s.hb;have s3:=s.hc;have s4:=s.hd
 have t1:=t.ha;have t2:=t.hb;have t3:=t.hc;have t4:=t.hd
 (repeat' ((conv=>whnf);first|((first|apply zc|apply za|apply zd)<;>intro h<;>try (exfalso;omega))|refine pay ?_|intro _));(all_goals (conv=>whnf))
 rename_i b2 b3 b4
 refine zw Nat (fun i=>[(2,.ptr 2 b2 0),(3,.ptr 3 b3 0),(4,.ptr 4 b4 0),(6,.v (.int .i64 i))]) (fun i=>[.box 2 b2 (zwE s (s.minus t) i) zj,.box 3 b3 t.cells zj,.box 4 b4 [.int .u64 0,.int .u64 0,.int .u64 0,.int .u64 0] zj]) (fun i=>i<=4) (fun i=>4 - i) 0 (Nat.zero_le _) (by (repeat ((conv=>whnf);refine vS ?_));exact trivial) (Ref.takes [2,3,4] rfl (.refl _)) ?_
 rintro i hi
 rcases (by omega:i=0∨i=1∨i=2∨i=3∨i=4) with rfl|rfl|rfl|rfl|rfl
 ·(repeat' ((conv=>whnf);first|((first|apply zc|apply za|apply zd)<;>intro h<;>try (exfalso;omega))|refine pay ?_|refine And.intro (by first|exact ⟨by omega,by omega,by omega,by omega⟩) ?_|intro _));(all_goals (conv=>whnf))
  all_goals try (exfalso;omega)
  exact zi 1 (by omega) (by omega) (by (repeat ((conv=>whnf);refine vS ?_));exact trivial) (Ref.takes [2,3,4] rfl (.box rfl (.refl _)))
 ·(repeat' ((conv=>whnf);first|((first|apply zc|apply za|apply zd)<;>intro h<;>try (exfalso;omega))|refine pay ?_|refine And.intro (by first|exact ⟨by omega,by omega,by omega,by omega⟩) ?_|intro _));(all_goals (conv=>whnf))
  all_goals try (exfalso;omega)
  exact zi 2 (by omega) (by omega) (by (repeat ((conv=>whnf);refine vS ?_));exact trivial) (Ref.takes [2,3,4] rfl (.box rfl (.refl _)))
 ·(repeat' ((conv=>whnf);first|((first|apply zc|apply za|apply zd)<;>intro h<;>try (exfalso;omega))|refine pay ?_|refine And.intro (by first|exact ⟨by omega,by omega,by omega,by omega⟩) ?_|intro _));(all_goals (conv=>whnf))
  all_goals try (exfalso;omega)
  exact zi 3 (by omega) (by omega) (by (repeat ((conv=>whnf);refine vS ?_));exact trivial) (Ref.takes [2,3,4] rfl (.box rfl (.refl _)))
 ·(repeat' ((conv=>whnf);first|((first|apply zc|apply za|apply zd)<;>intro h<;>try (exfalso;omega))|refine pay ?_|refine And.intro (by first|exact ⟨by omega,by omega,by omega,by omega⟩) ?_|intro _));(all_goals (conv=>whnf))
  all_goals try (exfalso;omega)
  exact zi 4 (by omega) (by omega) (by (repeat ((conv=>whnf);refine vS ?_));exact trivial) (Ref.takes [2,3,4] rfl (.box rfl (.refl _)))
 ·(repeat' ((conv=>whnf);first|((first|apply zc|apply za|apply zd)<;>intro h<;>try (exfalso;omega))|refine pay ?_|intro _));(all_goals (conv=>whnf))
  all_goals try (exfalso;omega)
  exact ⟨rfl⟩
def yK (s:Ls):Nat->Nat
 | 0=>0
 | 1=>xK s.a
 | 2=>xK s.a+xK s.b
 | 3=>xK s.a+xK s.b+xK s.c
 | _=>xK s.a+xK s.b+xK s.c+xK s.d
theorem zqC (s:Ls):yK s 0=0/\yK s 1=yK s 0+xK s.a/\yK s 2=yK s 1+xK s.b/\yK s 3=yK s 2+xK s.c/\yK s 4=yK s 3+xK s.d:=⟨rfl,(Nat.zero_add _).symm,rfl,rfl,rfl⟩
theorem zho (x:Nat):xK x<=127:=by unfold xK;omega
theorem zoJ (s:Ls):0<yK s 4↔¬s.zero:=by
 have h1:=(zbi s.ha).1
 have h2:=(zbi s.hb).1
 have h3:=(zbi s.hc).1
 have h4:=(zbi s.hd).1
 obtain ⟨q0,q1,q2,q3,q4⟩:=zqC s
 unfold Ls.zero
 constructor
 ·rintro h ⟨z1,z2,z3,z4⟩
  have:=h1.2 z1;have:=h2.2 z2;have:=h3.2 z3;have:=h4.2 z4
  omega
 ·intro h
  rcases Nat.eq_zero_or_pos (yK s 4) with h0|h0
  ·exact absurd ⟨h1.1 (by omega),h2.1 (by omega),h3.1 (by omega),h4.1 (by omega)⟩ h
  ·exact h0
theorem zl5 (s:Ls) (w:World):Calls Tryz.prog jE #[s.v] w fun e w'=>e=.returned (.int .i64 (yK s 4:Nat))/\Ext w w':=by
 refine zF [.v s.v] w zi4 (by simp) ?_
 obtain ⟨p0,p1,p2,p3,p4⟩:=zqC s
 have o1:=zho s.a;have o2:=zho s.b;have o3:=zho s.c;have o4:=zho s.d
 have c1:=fun w=>zb1 s.a s.ha w
 have c2:=fun w=>zb1 s.b s.hb w
 have c3:=fun w=>zb1 s.c s.hc w
 have c4:=fun w=>zb1 s.d s.hd w
 (repeat' ((conv=>whnf);first|((first|apply zc|apply za|apply zd)<;>intro h<;>try (exfalso;omega))|refine pay ?_|intro _));(all_goals (conv=>whnf))
 rename_i b1
 refine zw Nat (fun i=>[(3,.v (.int .i64 (yK s i:Nat))),(6,.v s.v),(7,.v (.int .i64 i))]) (fun i=>[]) (fun i=>i<=4) (fun i=>4 - i) 0 (Nat.zero_le _) (by (repeat ((conv=>whnf);refine vS ?_));exact trivial) (Ref.takes [] rfl (.nil _)) ?_
 rintro i hi
 rcases (by omega:i=0∨i=1∨i=2∨i=3∨i=4) with rfl|rfl|rfl|rfl|rfl
 ·have g:yK s 1=yK s 0+xK s.a:=by omega
  have g2:yK s 0<=1000:=by omega
  (repeat' ((conv=>whnf);first|refine ⟨_,rfl,?_⟩|refine zm (.v _) (fun w hR=>c1 w) ?_|((first|apply zc|apply za|apply zd)<;>intro h<;>try (exfalso;omega))|refine pay ?_|intro _));(all_goals (conv=>whnf))
  all_goals try (exfalso;omega)
  exact zi 1 (by omega) (by omega) (by rw [g];(repeat ((conv=>whnf);refine vS ?_));exact trivial) (Ref.takes [] rfl (.nil _))
 ·have g:yK s 2=yK s 1+xK s.b:=by omega
  have g2:yK s 1<=1000:=by omega
  (repeat' ((conv=>whnf);first|refine ⟨_,rfl,?_⟩|refine zm (.v _) (fun w hR=>c2 w) ?_|((first|apply zc|apply za|apply zd)<;>intro h<;>try (exfalso;omega))|refine pay ?_|intro _));(all_goals (conv=>whnf))
  all_goals try (exfalso;omega)
  exact zi 2 (by omega) (by omega) (by rw [g];(repeat ((conv=>whnf);refine vS ?_));exact trivial) (Ref.takes [] rfl (.nil _))
 ·have g:yK s 3=yK s 2+xK s.c:=by omega
  have g2:yK s 2<=1000:=by omega
  (repeat' ((conv=>whnf);first|refine ⟨_,rfl,?_⟩|refine zm (.v _) (fun w hR=>c3 w) ?_|((first|apply zc|apply za|apply zd)<;>intro h<;>try (exfalso;omega))|refine pay ?_|intro _));(all_goals (conv=>whnf))
  all_goals try (exfalso;omega)
  exact zi 3 (by omega) (by omega) (by rw [g];(repeat ((conv=>whnf);refine vS ?_));exact trivial) (Ref.takes [] rfl (.nil _))
 ·have g:yK s 4=yK s 3+xK s.d:=by omega
  have g2:yK s 3<=1000:=by omega
  (repeat' ((conv=>whnf);first|refine ⟨_,rfl,?_⟩|refine zm (.v _) (fun w hR=>c4 w) ?_|((first|apply zc|apply za|apply zd)<;>intro h<;>try (exfalso;omega))|refine pay ?_|intro _));(all_goals (conv=>whnf))
  all_goals try (exfalso;omega)
  exact zi 4 (by omega) (by omega) (by rw [g];(repeat ((conv=>whnf);refine vS ?_));exact trivial) (Ref.takes [] rfl (.nil _))
 ·(repeat' ((conv=>whnf);first|((first|apply zc|apply za|apply zd)<;>intro h<;>try (exfalso;omega))|refine pay ?_|intro _));(all_goals (conv=>whnf))
  all_goals try (exfalso;omega)
  exact ⟨rfl⟩
theorem zh7 (s:Ls) (w:World) (hG:Tab w):Calls Tryz.prog kZ #[s.v] w fun e w'=>e=.returned (.int .i64 (s.least:Nat))/\Ext w w':=by
 refine zF [.v s.v] w zgU (by simp) ?_
 have s1:=s.ha;have s2:=s.hb;have s3:=s.hc;have s4:=s.hd
 have ctl:∀ x,x≠0->x<18446744073709551616->Lib.ctz 64 x<64:=fun x h0 h=>(Lib.lowest_bit 64 x h0 h).2
 have ct:=fun (x:Nat) (h0:0<x) (h:x<18446744073709551616) (w':World) (L:List Ent) (hR:R w [] L w')=>zi9 x h0 h w' (hG.cast hR (fun _ h=>by cases h))
 (repeat' ((conv=>whnf);first|((first|apply zc|apply za|apply zd)<;>intro h<;>try (exfalso;omega))|refine pay ?_|intro _));(all_goals (conv=>whnf))
 rename_i b1
 refine zw Nat (fun i=>[(5,.v s.v),(6,.v (.int .i64 i))]) (fun i=>[]) (fun i=>i<=4/\(1<=i->s.a=0)/\(2<=i->s.b=0)/\(3<=i->s.c=0)/\(4<=i->s.d=0)) (fun i=>4 - i) 0 ⟨Nat.zero_le _,by omega,by omega,by omega,by omega⟩ (by (repeat ((conv=>whnf);refine vS ?_));exact trivial) (Ref.takes [] rfl (.nil _)) ?_
 rintro i ⟨hi,z1,z2,z3,z4⟩
 rcases (by omega:i=0∨i=1∨i=2∨i=3∨i=4) with rfl|rfl|rfl|rfl|rfl
 ·by_cases h0:s.a=0
  ·(repeat' ((conv=>whnf);first|refine ⟨_,rfl,?_⟩|((first|apply zc|apply za|apply zd)<;>intro h<;>try (exfalso;omega))|refine pay ?_|intro _));(all_goals (conv=>whnf))
   all_goals try (exfalso;omega)
   exact zi 1 ⟨by omega,fun _=>h0,by omega,by omega,by omega⟩ (by omega) (by (repeat ((conv=>whnf);refine vS ?_));exact trivial) (Ref.takes [] rfl (.nil _))
  ·have:=ctl _ h0 s1
   have hl:s.least=Lib.ctz 64 s.a:=by unfold Ls.least;rw [if_pos h0]
   have c1:=ct s.a (by omega) s1
   (repeat' ((conv=>whnf);first|refine ⟨_,rfl,?_⟩|refine zm (.v _) (fun w' hR=>c1 w' _ hR) ?_|((first|apply zc|apply za|apply zd)<;>intro h<;>try (exfalso;omega))|refine pay ?_|intro _));(all_goals (conv=>whnf))
   all_goals try (exfalso;omega)
   exact ⟨by rw [hl];first|rfl|(congr 1;done)|(congr 1;omega)⟩
 ·have e1:=z1 (by omega)
  by_cases h0:s.b=0
  ·(repeat' ((conv=>whnf);first|refine ⟨_,rfl,?_⟩|((first|apply zc|apply za|apply zd)<;>intro h<;>try (exfalso;omega))|refine pay ?_|intro _));(all_goals (conv=>whnf))
   all_goals try (exfalso;omega)
   exact zi 2 ⟨by omega,fun _=>e1,fun _=>h0,by omega,by omega⟩ (by omega) (by (repeat ((conv=>whnf);refine vS ?_));exact trivial) (Ref.takes [] rfl (.nil _))
  ·have:=ctl _ h0 s2
   have hl:s.least=64+Lib.ctz 64 s.b:=by unfold Ls.least;rw [if_neg (by omega),if_pos h0]
   have c1:=ct s.b (by omega) s2
   (repeat' ((conv=>whnf);first|refine ⟨_,rfl,?_⟩|refine zm (.v _) (fun w' hR=>c1 w' _ hR) ?_|((first|apply zc|apply za|apply zd)<;>intro h<;>try (exfalso;omega))|refine pay ?_|intro _));(all_goals (conv=>whnf))
   all_goals try (exfalso;omega)
   exact ⟨by rw [hl];first|rfl|(congr 1;done)|(congr 1;omega)⟩
 ·have e1:=z1 (by omega)
  have e2:=z2 (by omega)
  by_cases h0:s.c=0
  ·(repeat' ((conv=>whnf);first|refine ⟨_,rfl,?_⟩|((first|apply zc|apply za|apply zd)<;>intro h<;>try (exfalso;omega))|refine pay ?_|intro _));(all_goals (conv=>whnf))
   all_goals try (exfalso;omega)
   exact zi 3 ⟨by omega,fun _=>e1,fun _=>e2,fun _=>h0,by omega⟩ (by omega) (by (repeat ((conv=>whnf);refine vS ?_));exact trivial) (Ref.takes [] rfl (.nil _))
  ·have:=ctl _ h0 s3
   have hl:s.least=128+Lib.ctz 64 s.c:=by unfold Ls.least;rw [if_neg (by omega),if_neg (by omega),if_pos h0]
   have c1:=ct s.c (by omega) s3
   (repeat' ((conv=>whnf);first|refine ⟨_,rfl,?_⟩|refine zm (.v _) (fun w' hR=>c1 w' _ hR) ?_|((first|apply zc|apply za|apply zd)<;>intro h<;>try (exfalso;omega))|refine pay ?_|intro _));(all_goals (conv=>whnf))
   all_goals try (exfalso;omega)
   exact ⟨by rw [hl];first|rfl|(congr 1;done)|(congr 1;omega)⟩
 ·have e1:=z1 (by omega)
  have e2:=z2 (by omega)
  have e3:=z3 (by omega)
  by_cases h0:s.d=0
  ·(repeat' ((conv=>whnf);first|refine ⟨_,rfl,?_⟩|((first|apply zc|apply za|apply zd)<;>intro h<;>try (exfalso;omega))|refine pay ?_|intro _));(all_goals (conv=>whnf))
   all_goals try (exfalso;omega)
   exact zi 4 ⟨by omega,fun _=>e1,fun _=>e2,fun _=>e3,fun _=>h0⟩ (by omega) (by (repeat ((conv=>whnf);refine vS ?_));exact trivial) (Ref.takes [] rfl (.nil _))
  ·have:=ctl _ h0 s4
   have hl:s.least=192+Lib.ctz 64 s.d:=by unfold Ls.least;rw [if_neg (by omega),if_neg (by omega),if_neg (by omega),if_pos h0]
   have c1:=ct s.d (by omega) s4
   (repeat' ((conv=>whnf);first|refine ⟨_,rfl,?_⟩|refine zm (.v _) (fun w' hR=>c1 w' _ hR) ?_|((first|apply zc|apply za|apply zd)<;>intro h<;>try (exfalso;omega))|refine pay ?_|intro _));(all_goals (conv=>whnf))
   all_goals try (exfalso;omega)
   exact ⟨by rw [hl];first|rfl|(congr 1;done)|(congr 1;omega)⟩
 ·have e1:=z1 (by omega)
  have e2:=z2 (by omega)
  have e3:=z3 (by omega)
  have e4:=z4 (by omega)
  have hl:s.least=256:=by unfold Ls.least;rw [if_neg (by omega),if_neg (by omega),if_neg (by omega),if_neg (by omega)]
  (repeat' ((conv=>whnf);first|((first|apply zc|apply za|apply zd)<;>intro h<;>try (exfalso;omega))|refine pay ?_|intro _));(all_goals (conv=>whnf))
  all_goals try (exfalso;omega)
  exact ⟨by rw [hl];rfl⟩
theorem Ls.least_le (s:Ls):s.least<=256:=by
 have ctl:∀ x,x≠0->x<18446744073709551616->Lib.ctz 64 x<64:=fun x h0 h=>(Lib.lowest_bit 64 x h0 h).2
 unfold Ls.least
 split
 ·rename_i h;have:=ctl _ h s.ha;omega
 ·split
  ·rename_i h;have:=ctl _ h s.hb;omega
  ·split
   ·rename_i h;have:=ctl _ h s.hc;omega
   ·split
    ·rename_i h;have:=ctl _ h s.hd;omega
    ·omega
theorem zoK (x y:Ls) (w:World) (hG:Tab w):Calls Tryz.prog vZ #[x.v,y.v] w fun e w'=>e=.returned (.int .i64 ((x.least:Int) - (y.least:Int)))/\Ext w w':=by
 refine zF [.v x.v,.v y.v] w zfz (by simp) ?_
 have h1:=x.least_le
 have h2:=y.least_le
 have c1:=fun (w':World) (L:List Ent) (hR:R w [] L w')=>zh7 x w' (hG.cast hR (fun _ h=>by cases h))
 have c2:=fun (w':World) (L:List Ent) (hR:R w [] L w')=>zh7 y w' (hG.cast hR (fun _ h=>by cases h))
 (repeat' ((conv=>whnf);first|refine zm (.v _) (fun w' hR=>c1 w' _ hR) ?_|refine zm (.v _) (fun w' hR=>c2 w' _ hR) ?_|((first|apply zc|apply za|apply zd)<;>intro h<;>try (exfalso;omega))|refine pay ?_|intro _));(all_goals (conv=>whnf))
 all_goals try (exfalso;omega)
 exact ⟨rfl⟩
def upW (j n:Nat):Nat:=2 ^ (min (n - 64*j) 64) - 1
theorem zkr (j n:Nat):upW j n<18446744073709551616:=by
 unfold upW
 have:2 ^ (min (n - 64*j) 64)<=2 ^ 64:=Nat.pow_le_pow_right (by decide) (Nat.min_le_right _ _)
 have h0:0<2 ^ (min (n - 64*j) 64):=Nat.pow_pos (by decide)
 omega
theorem zfJ (j:Nat):upW j 0=0:=by unfold upW;simp
theorem zsA {j n:Nat} (h:n+1<=64*j∨64*j+64<=n):upW j (n+1)=upW j n:=by
 unfold upW
 congr 2
 omega
theorem zuB {j r:Nat} (h:r<64):upW j (64*j+r)|||2 ^ r=upW j (64*j+r+1):=by
 unfold upW
 rw [show min (64*j+r - 64*j) 64=r by omega,show min (64*j+r+1 - 64*j) 64=r+1 by omega]
 have h0:0<2 ^ r:=Nat.pow_pos (by decide)
 have h2:=Nat.two_pow_add_eq_or_of_lt (i:=r) (b:=2 ^ r - 1) (by omega) 1
 rw [Nat.mul_one] at h2
 rw [Nat.or_comm,←h2,Nat.pow_succ]
 omega
abbrev upL (n:Nat):List Value:=[.int .u64 (upW 0 n:Int),.int .u64 (upW 1 n:Int),.int .u64 (upW 2 n:Int),.int .u64 (upW 3 n:Int)]
theorem zqD {r:Nat} (h:r<64):(1*((2 ^ ((r:Nat):Int).toNat:Nat):Int))%18446744073709551616=((2 ^ r:Nat):Int):=by
 rw [g7q,Int.one_mul]
 have:2 ^ r<2 ^ 64:=Nat.pow_lt_pow_right (by decide) h
 exact zja (n:=2 ^ r) (Nat.lt_of_lt_of_le this (by decide))
theorem zmF (w:World):Calls Tryz.prog vY #[.int .u8 0,.int .u8 255] w fun e w'=>e=.returned lsAll.v/\Ext w w':=by
 refine zF [.v (.int .u8 0),.v (.int .u8 255)] w zfC (by simp) ?_
 (repeat' ((conv=>whnf);first|((first|apply zc|apply za|apply zd)<;>intro h<;>try (exfalso;omega))|refine pay ?_|intro _));(all_goals (conv=>whnf))
 rename_i b4 b5
 refine zw Nat (fun n=>[(1,.v (.int .u8 255)),(4,.ptr 4 b4 0),(5,.ptr 5 b5 0),(6,.v (.int .i64 n))]) (fun n=>[.box 5 b5 (upL n) zj,.box 4 b4 [.int .u64 0,.int .u64 0,.int .u64 0,.int .u64 0] zj]) (fun n=>n<=256) (fun n=>256 - n) 0 (Nat.zero_le _) (by (repeat ((conv=>whnf);refine vS ?_));exact trivial) (Ref.takes [5,4] rfl (.box (by unfold upL;rw [zfJ,zfJ,zfJ,zfJ];rfl) (.refl _))) ?_
 rintro n hn
 by_cases hlt:n<256
 ·obtain ⟨j,r,hj,hr,rfl⟩:∃ j r,j<4/\r<64/\n=64*j+r:=⟨n/64,n%64,by omega,by omega,by omega⟩
  have hsh:=zqD hr
  have hp:2 ^ r<18446744073709551616:=Nat.pow_lt_pow_right (n:=64) (a:=2) (by decide) hr
  have q1:((64*j+r:Nat):Int)%64=(r:Int):=by omega
  have q0:((64*j+r:Nat):Int)/64=(j:Int):=by omega
  have u0:=zkr 0 (64*j+r);have u1:=zkr 1 (64*j+r);have u2:=zkr 2 (64*j+r);have u3:=zkr 3 (64*j+r)
  have hs:=zuB (j:=j) hr
  have ho:∀ i,i<4->i≠j->upW i (64*j+r+1)=upW i (64*j+r):=fun i hi hne=>zsA (by omega)
  obtain ⟨N,hN⟩:∃ N,64*j+r=N:=⟨_,rfl⟩
  rw [hN] at hn hlt q1 q0 u0 u1 u2 u3 hs ho ⊢
  rcases (by omega:j=0∨j=1∨j=2∨j=3) with rfl|rfl|rfl|rfl
  ·have e1:=ho 1 (by omega) (by omega);have e2:=ho 2 (by omega) (by omega);have e3:=ho 3 (by omega) (by omega)
   (repeat' ((conv=>whnf);first|rw [q0]|rw [q1]|rw [hsh]|((first|apply zc|apply za|apply zd)<;>intro h<;>try (exfalso;omega))|refine pay ?_|refine And.intro (by first|exact ⟨by omega,by omega,by omega,by omega⟩|exact ⟨by omega,by show _<=(64:Int);omega⟩) ?_|intro _));(all_goals (conv=>whnf))
   all_goals try (exfalso;omega)
   exact zi (N+1) hlt (by omega) (by (repeat ((conv=>whnf);refine vS ?_));exact trivial) (Ref.takes [5,4] rfl (.box (by unfold upL;rw [e1,e2,e3,←hs];rfl) (.refl _)))
  ·have e1:=ho 0 (by omega) (by omega);have e2:=ho 2 (by omega) (by omega);have e3:=ho 3 (by omega) (by omega)
   (repeat' ((conv=>whnf);first|rw [q0]|rw [q1]|rw [hsh]|((first|apply zc|apply za|apply zd)<;>intro h<;>try (exfalso;omega))|refine pay ?_|refine And.intro (by first|exact ⟨by omega,by omega,by omega,by omega⟩|exact ⟨by omega,by show _<=(64:Int);omega⟩) ?_|intro _));(all_goals (conv=>whnf))
   all_goals try (exfalso;omega)
   exact zi (N+1) hlt (by omega) (by (repeat ((conv=>whnf);refine vS ?_));exact trivial) (Ref.takes [5,4] rfl (.box (by unfold upL;rw [e1,e2,e3,←hs];rfl) (.refl _)))
  ·have e1:=ho 0 (by omega) (by omega);have e2:=ho 1 (by omega) (by omega);have e3:=ho 3 (by omega) (by omega)
   (repeat' ((conv=>whnf);first|rw [q0]|rw [q1]|rw [hsh]|((first|apply zc|apply za|apply zd)<;>intro h<;>try (exfalso;omega))|refine pay ?_|refine And.intro (by first|exact ⟨by omega,by omega,by omega,by omega⟩|exact ⟨by omega,by show _<=(64:Int);omega⟩) ?_|intro _));(all_goals (conv=>whnf))
   all_goals try (exfalso;omega)
   exact zi (N+1) hlt (by omega) (by (repeat ((conv=>whnf);refine vS ?_));exact trivial) (Ref.takes [5,4] rfl (.box (by unfold upL;rw [e1,e2,e3,←hs];rfl) (.refl _)))
  ·have e1:=ho 0 (by omega) (by omega);have e2:=ho 1 (by omega) (by omega);have e3:=ho 2 (by omega) (by omega)
   (repeat' ((conv=>whnf);first|rw [q0]|rw [q1]|rw [hsh]|((first|apply zc|apply za|apply zd)<;>intro h<;>try (exfalso;omega))|refine pay ?_|refine And.intro (by first|exact ⟨by omega,by omega,by omega,by omega⟩|exact ⟨by omega,by show _<=(64:Int);omega⟩) ?_|intro _));(all_goals (conv=>whnf))
   all_goals try (exfalso;omega)
   exact zi (N+1) hlt (by omega) (by (repeat ((conv=>whnf);refine vS ?_));exact trivial) (Ref.takes [5,4] rfl (.box (by unfold upL;rw [e1,e2,e3,←hs];rfl) (.refl _)))
 ·obtain rfl:n=256:=by omega
  (repeat' ((conv=>whnf);first|((first|apply zc|apply za|apply zd)<;>intro h<;>try (exfalso;omega))|refine pay ?_|intro _));(all_goals (conv=>whnf))
  all_goals try (exfalso;omega)
  exact ⟨rfl⟩
end
section
open Go Go.Sort Go.EG Go.Proofs
theorem zks {w:World} {g:Nat} {cur:Array Value} {e:TypeId} {vs:List Value} (hb:w.heap[g]?=some (.cells cur e (0,0))) (ht:cur.toList.take vs.length=vs):Holds id w g 0 vs.toArray:=by
 intro j hj
 have hj':j<vs.length:=by simpa using hj
 refine ⟨?_,by simp [World.frozen?,hb]⟩
 have h1:(cur.toList.take vs.length)[j]?=vs[j]?:=by rw [ht]
 rw [List.getElem?_take_of_lt hj'] at h1
 simp only [World.cell?,hb,Nat.zero_add]
 simp only [Option.isSome_none,Bool.false_eq_true,if_false]
 rw [←Array.getElem?_toList,h1]
 simp [hj']
theorem zoL {w:World} {g n:Nat} {os:Array Obj} {cur:Array Value} {e:TypeId} {fr:Nat × Nat} (d:Array Value) (hb:w.heap[g]?=some (.cells cur e fr)) :
 (grow (putRow id (Sort.ahead w n) g 0 d) os).heap[g]?=some (.cells (putCells id 0 d cur) e fr):=by
 have hg:g<w.heap.size:=(Array.getElem?_eq_some_iff.1 hb).1
 rw [heap_grow_old _ _ (by simpa using hg)]
 simp [putRow,mapBlock,Sort.ahead,Array.getElem?_modify,hb,onCells]
theorem zmG {w:World} {g n:Nat} {os:Array Obj} (d:Array Value) {k:Nat} (hk:k<w.heap.size) (hne:k≠g):(grow (putRow id (Sort.ahead w n) g 0 d) os).heap[k]?=w.heap[k]?:=by
 rw [heap_grow_old _ _ (by simpa using hk)]
 simp [putRow,mapBlock,Sort.ahead,Array.getElem?_modify,Ne.symm hne]
theorem zlq (cur:Array Value) (ts:List Value) (h:ts.length<=cur.size):(putCells id 0 ts.toArray cur).toList.take ts.length=ts:=by
 apply List.ext_getElem?
 intro j
 by_cases hj:j<ts.length
 ·rw [List.getElem?_take_of_lt hj,Array.getElem?_toList]
  simp [putCells,hj,show j<cur.size by omega]
 ·rw [List.getElem?_take_eq_none (by omega),List.getElem?_eq_none (by omega)]
theorem zoM (ps:List Ls):flatK Ls.cells 4 ps.toArray=(lsL ps).toArray:=by
 apply Array.ext
 ·simp [uZ]
 ·intro i h1 h2
  have hi:i<ps.length*4:=by simpa using h1
  have hq:i/4<ps.length:=by omega
  have hd:=zaR (l:=ps) (i:=i/4) (s:=ps[i/4]) (g2q hq)
  have hc:(lsL ps)[i]?=(Ls.cells ps[i/4])[i%4]?:=by
   rw [←hd,List.getElem?_take_of_lt (by omega),List.getElem?_drop]
   congr 1
   omega
  have hl:(Ls.cells ps[i/4]).length=4:=rfl
  have h3:i%4<(Ls.cells ps[i/4]).length:=by rw [hl];omega
  have h4:i<(lsL ps).length:=by rw [uZ];exact hi
  rw [g2q h4,g2q h3,g3q] at hc
  have e1:(flatK Ls.cells 4 ps.toArray)[i]=(Ls.cells ps.toArray[i/4]!)[i%4]!:=by simp [flatK]
  rw [e1]
  have e2:ps.toArray[i/4]! = ps[i/4]:=by rw [getElem!_pos ps.toArray (i/4) (by rw [List.size_toArray];exact hq)];exact List.getElem_toArray _
  rw [e2,getElem!_pos (Ls.cells ps[i/4]) (i%4) h3,←hc]
  simp
theorem zuC {W w':World} (h:Ext W w'):∃ q os',w'=grow (W.drewN q) os':=by
 refine ⟨w'.drawn - W.drawn,w'.heap.extract W.heap.size w'.heap.size,?_⟩
 have hd:=h.d
 have hb:=h.b
 have hh:w'.heap=W.heap++w'.heap.extract W.heap.size w'.heap.size:=by
  apply Array.ext
  ·have:=hb.size
   simp;omega
  ·intro i h1 h2
   rcases Nat.lt_or_ge i W.heap.size with hlt|hge
   ·have:=hb.block i hlt
    rw [Array.getElem?_eq_getElem h1,Array.getElem?_eq_getElem hlt,g3q] at this
    rw [this,Array.getElem_append_left hlt]
   ·rw [Array.getElem_append_right hge,Array.getElem_extract]
    congr 1
    omega
 have e1:=hb.os
 have e2:=hb.tape
 have e3:=hb.output
 obtain ⟨hp,tp,dr,os,ou⟩:=w'
 dsimp only at e1 e2 e3 hd hh
 subst e1;subst e2;subst e3
 unfold grow World.drewN
 dsimp only
 rw [←hh,show W.drawn+(dr - W.drawn)=dr by omega]
def zsB (P:Program) (f g:FuncId):Prop :=
 ∀ (blk cap : Nat) (d : Array Ls) (w : World) (_ : CmpLays P g #[] Ls.cells 4 (fun x y => (x.least : Int) - (y.least : Int)) blk 0 d.size w),HoldsK Ls.cells 4 w blk 0 d -> blk < w.heap.size -> d.size < 4611686018427387904 ->
   Calls P f #[.slice (some ⟨blk,0,none⟩) d.size cap,.func (.func g) #[] #[]] w fun e w'=>e=.returned (.tuple #[])/\∃ d' n os,PermIn 0 d.size d d'/\SortedIn (ltOf fun x y:Ls=>(x.least:Int) - (y.least:Int)) 0 d.size d'/\w'=sortWorldK Ls.cells 4 w blk 0 n d' os
theorem zsC {w0 w:World} {fp0:List Nat} {L:List Ent} {key:Nat} {a:Option Addr} {n c T:Nat} {ps:List Ls} (hR:R w0 fp0 L w) (hb:zL key L=some ⟨a,n,c,T,4,lsL ps⟩) (hn:ps.length=n) (h0:0<n) :
 ∃ blk,a = some ⟨blk,0,none⟩ /\ HoldsK Ls.cells 4 w blk 0 ps.toArray /\ blk < w.heap.size /\
   ∀ m os (qs:List Ls),qs.length=n->R w0 fp0 (qG key a n c (lsL qs) L) (sortWorldK Ls.cells 4 w blk 0 m qs.toArray os):=by
 obtain ⟨L',h1,h2⟩:=yC hb
 have hR':=hR.perm h1
 have hrow:w.ownsRow 0 T 4 (.slice a n c) n (lsL ps):=hR'.ok (.own key a n c T 4 (lsL ps)) (g5q ..)
 rcases hrow.2 with ⟨hv,h⟩|⟨g,cap,cur,hv,hbase,hg,r3,r4,r5,r6⟩
 ·omega
 ·simp only [Value.slice.injEq,true_and] at hv
  obtain ⟨rfl,rfl⟩:=hv
  subst hn
  have hlt:g<w.heap.size:=(Array.getElem?_eq_some_iff.1 hg).1
  refine ⟨g,rfl,?_,hlt,fun m os qs hq=>?_⟩
  ·unfold HoldsK
   rw [zoM]
   refine zks hg ?_
   rw [uZ]
   exact r6
  ·unfold sortWorldK putRowK
   rw [zoM]
   refine (R.grow (e':=.own key (some ⟨g,0,none⟩) ps.length c T 4 (lsL qs)) hR' (fun x hx=>.inl hx) (by simp [Ent.fp,Value.ownBlock]) ?_ ?_ ?_ ?_ ?_ ?_ ?_).perm (h2 _ _ _ _).symm
   ·refine ⟨by rw [uZ,hq],.inr ⟨g,c,_,rfl,hbase,zoL _ hg,r3,r4,by simp [putCells];exact r5,?_⟩⟩
    have hle:(lsL qs).length<=cur.size:=by rw [uZ,hq,r5];exact Nat.mul_le_mul_right _ r3
    have:=zlq cur (lsL qs) hle
    rw [uZ,hq] at this
    exact this
   ·simp [grow,putRow,mapBlock,Sort.ahead]
   ·rfl
   ·rfl
   ·rfl
   ·exact Nat.le_add_right _ _
   ·intro b hb' hne
    exact zmG _ hb' (by simpa [Ent.fp,Value.ownBlock,eq_comm] using hne)
theorem zpM {P:Program} {w0:World} {fp0:List Nat} {L:List Ent} {f g:FuncId} {key:Nat} {a:Option Addr} {n c T:Nat} {ps:List Ls} {k:SV->List Ent->Prop} (hs:zsB P f g) (hb:zL key L=some ⟨a,n,c,T,4,lsL ps⟩) (hn:ps.length=n) (h0:0<n) (hsz:n<4611686018427387904)
 (hc:∀ (W:World) (L':List Ent),R w0 fp0 L' W->∀ x y:Ls,Calls P g #[x.v,y.v] W fun e w'=>e=.returned (.int .i64 ((x.least:Int) - (y.least:Int)))/\Ext W w')
 (hk:∀ qs:List Ls,ps.Perm qs->k (.v (.tuple #[])) (qG key a n c (lsL qs) L)):zT P w0 fp0 f [.slice a n c,.func (.func g) #[] #[]] L k:=by
 intro w hR
 obtain ⟨blk,rfl,hH,hlt,hend⟩:=zsC hR hb hn h0
 subst hn
 have hcl:CmpLays P g #[] Ls.cells 4 (fun x y=>(x.least:Int) - (y.least:Int)) blk 0 ps.toArray.size w:=fun m os dk hdk x y=>by
  have hRW:=hend m os dk.toList (by simpa using hdk)
  rw [Array.toArray_toList] at hRW
  refine (hc _ _ hRW x y).mono fun e w' ⟨he,hx⟩=>⟨he,zuC hx⟩
 have:=hs blk c ps.toArray w hcl hH hlt (by simpa using hsz)
 rw [List.size_toArray] at this
 refine this.mono fun e w' ⟨he,d',m,os,hp,_,hw⟩=>?_
 have hsz':d'.toList.length=ps.length:=by have:=hp.1;simpa using this
 have hperm:ps.Perm d'.toList:=by
  have h3:=hp.2.2
  have e1:d'.extract 0 ps.toArray.size=d':=by rw [←hp.1];simp
  have e2:ps.toArray.extract 0 ps.toArray.size=ps.toArray:=by simp
  have e3:ps.toArray.size=ps.length:=by simp
  rw [e3] at e1 e2
  rw [e1,e2] at h3
  exact h3.symm
 have hRW:=hend m os d'.toList hsz'
 rw [Array.toArray_toList] at hRW
 exact ⟨_,.v (.tuple #[]),_,he,rfl,hw ▸ hRW,hk _ hperm⟩
end
end Go.Proofs.YtjmlialibdobpaaGreatDoor
namespace Go.Proofs
open Go.Shelf
def Tryz.laysSlsf6_f116_ren:Go.Shelf.Ren:=⟨fun | 6=>116 | 15=>131 | 14=>130 | 28=>143 | 29=>144 | 20=>135 | 21=>136 | 22=>137 | 23=>138 | 24=>139 | 25=>140 | 26=>141 | 27=>142 | 46=>145 | 47=>146 | 48=>147 | 49=>148 | 50=>149 | 57=>150|n=>n,fun | 22=>153 | 24=>26 | 25=>229 | 3=>3 | 39=>138 | 0=>0 | 53=>253 | 55=>24 | 4=>4 | 46=>247 | 45=>246 | 50=>140 | 5=>5 | 9=>9 | 66=>254 | 70=>258 | 76=>260 | 77=>131|n=>n,fun|n=>n⟩
theorem Tryz.laysSlsf6_f116:Go.Proofs.SlLaysF0.n6 Tryz.prog Tryz.laysSlsf6_f116_ren:={
 mixed:=by kernel_rfl
 f6:=⟨Tryz.f116.name,by decide,Tryz.func116.trans (congrArg some (by kernel_rfl))⟩
 f14:=⟨Tryz.f130.name,by decide,Tryz.func130.trans (congrArg some (by kernel_rfl))⟩
 f15:=Tryz.func131.trans (congrArg some (by kernel_rfl))
 f20:=⟨Tryz.f135.name,by decide,Tryz.func135.trans (congrArg some (by kernel_rfl))⟩
 f21:=⟨Tryz.f136.name,by decide,Tryz.func136.trans (congrArg some (by kernel_rfl))⟩
 f22:=⟨Tryz.f137.name,by decide,Tryz.func137.trans (congrArg some (by kernel_rfl))⟩
 f23:=⟨Tryz.f138.name,by decide,Tryz.func138.trans (congrArg some (by kernel_rfl))⟩
 f24:=⟨Tryz.f139.name,by decide,Tryz.func139.trans (congrArg some (by kernel_rfl))⟩
 f25:=⟨Tryz.f140.name,by decide,Tryz.func140.trans (congrArg some (by kernel_rfl))⟩
 f26:=⟨Tryz.f141.name,by decide,Tryz.func141.trans (congrArg some (by kernel_rfl))⟩
 f27:=⟨Tryz.f142.name,by decide,Tryz.func142.trans (congrArg some (by kernel_rfl))⟩
 f28:=Tryz.func143.trans (congrArg some (by kernel_rfl))
 f29:=Tryz.func144.trans (congrArg some (by kernel_rfl))
 f46:=⟨Tryz.f145.name,by decide,Tryz.func145.trans (congrArg some (by kernel_rfl))⟩
 f47:=Tryz.func146.trans (congrArg some (by kernel_rfl))
 f48:=Tryz.func147.trans (congrArg some (by kernel_rfl))
 f49:=⟨Tryz.f148.name,by decide,Tryz.func148.trans (congrArg some (by kernel_rfl))⟩
 f50:=⟨Tryz.f149.name,by decide,Tryz.func149.trans (congrArg some (by kernel_rfl))⟩
 f57:=⟨Tryz.f150.name,by decide,Tryz.func150.trans (congrArg some (by kernel_rfl))⟩
 t0:=Tryz.underlying0
 a0:=Tryz.isAgg0
 z0:=Tryz.sizeOf0
 v0:=Tryz.zeroValue0
 t3:=Tryz.underlying3
 a3:=Tryz.isAgg3
 z3:=Tryz.sizeOf3
 v3:=Tryz.zeroValue3
 t4:=Tryz.underlying4
 a4:=Tryz.isAgg4
 z4:=Tryz.sizeOf4
 v4:=Tryz.zeroValue4
 t5:=Tryz.underlying5
 a5:=Tryz.isAgg5
 z5:=Tryz.sizeOf5
 v5:=Tryz.zeroValue5
 t9:=Tryz.underlying9
 a9:=Tryz.isAgg9
 z9:=Tryz.sizeOf9
 v9:=Tryz.zeroValue9
 t22:=Tryz.underlying153
 a22:=Tryz.isAgg153
 z22:=Tryz.sizeOf153
 v22:=Tryz.zeroValue153
 t25:=Tryz.underlying229
 a25:=Tryz.isAgg229
 z25:=Tryz.sizeOf229
 v25:=Tryz.zeroValue229
 t39:=Tryz.underlying138
 a39:=Tryz.isAgg138
 z39:=Tryz.sizeOf138
 v39:=Tryz.zeroValue138
 t45:=Tryz.underlying246
 a45:=Tryz.isAgg246
 z45:=Tryz.sizeOf246
 v45:=Tryz.zeroValue246
 t46:=Tryz.underlying247
 a46:=Tryz.isAgg247
 z46:=Tryz.sizeOf247
 v46:=Tryz.zeroValue247
 t50:=Tryz.underlying140
 a50:=Tryz.isAgg140
 z50:=Tryz.sizeOf140
 v50:=Tryz.zeroValue140
 t53:=Tryz.underlying253
 a53:=Tryz.isAgg253
 z53:=Tryz.sizeOf253
 v53:=Tryz.zeroValue253
 t55:=Tryz.underlying24
 a55:=Tryz.isAgg24
 z55:=Tryz.sizeOf24
 v55:=Tryz.zeroValue24
 t66:=Tryz.underlying254
 a66:=Tryz.isAgg254
 z66:=Tryz.sizeOf254
 v66:=Tryz.zeroValue254
 t70:=Tryz.underlying258
 a70:=Tryz.isAgg258
 z70:=Tryz.sizeOf258
 v70:=Tryz.zeroValue258
 t76:=Tryz.underlying260
 a76:=Tryz.isAgg260
 z76:=Tryz.sizeOf260
 v76:=Tryz.zeroValue260
 t77:=Tryz.underlying131
 a77:=Tryz.isAgg131
 z77:=Tryz.sizeOf131
 v77:=Tryz.zeroValue131 }
end Go.Proofs
namespace Go.Proofs.YtjmlialibdobpaaGreatDoor
section
open Go Go.EG Go.Sort Go.Lib Go.Shelf
theorem zuD (x y:Ls):ltOf (fun x y:Ls=>(x.least:Int) - (y.least:Int)) x y=decide (x.least<y.least):=by
 unfold ltOf
 exact decide_eq_decide.2 (by show ((x.least:Int) - (y.least:Int)<0)↔_;omega)
theorem zxN:SWO (ltOf fun x y:Ls=>(x.least:Int) - (y.least:Int)) where
 irrefl x:=by rw [zuD];simp
 trans x y z h1 h2:=by rw [zuD] at *;simp at *;omega
 ntrans x y z h1 h2:=by rw [zuD] at *;simp at *;omega
theorem zwF:zsB Tryz.prog yq vZ:=fun blk cap d w hc hH hb hs =>
 AnyQ.slices_SortFunc Tryz.laysSlsf6_f116 4 Tryz.isAgg26 Tryz.sizeOf26 Ls.cells (fun _=>rfl) (fun x v hv=>by simp [Ls.cells] at hv;rcases hv with rfl|rfl|rfl|rfl<;>rfl) _ zxN 117 #[] blk 0 cap d w (enters_of Tryz.func117 (by kernel_rfl) rfl) hc hH hb hs
end
section
open Go.EG
attribute [local irreducible] zT yE Go.Calls
set_option maxRecDepth 20000
set_option maxHeartbeats 4000000
def atQ (ss:List Ls) (v:Value) (L1:List Ent):Prop:=∃ (ps:List Ls) (a:Option Addr) (c:Nat),v=.slice a ps.length c/\L1=[.own 12 a ps.length c zj 4 (lsL ps)]/\Part ps/\Homo ss ps
structure A1G where
 i:Nat
 ps:List Ls
 a:Option Addr
 c:Nat
structure A2G where
 j:Nat
 nx:List Ls
 a:Option Addr
 c:Nat
theorem zsD {w:World} {fp:List Nat} {L:List Ent} {a:Option Addr} {ss:List Ls} {i:Nat} {s:Ls} (h:In w fp a (lsL ss)) (hs:ss[i]?=some s):Rd w fp L (.el a (i*4)) s.cells :=
 h.rdn (vs:=s.cells) (show 0<4 by decide) (zaR hs)
theorem zwG {l:List Ls} {i:Nat} {s:Ls} (h:l[i]?=some s):zhb [.int .u64,.int .u64,.int .u64,.int .u64] (lsL l) (i*4)/\True:=⟨(ze2 (ks:=[.int .u64,.int .u64,.int .u64,.int .u64]) (vs:=s.cells) (zaR h) rfl).1,trivial⟩
theorem zqE (s p:Ls):(pc1 s p).length<=2:=by
 unfold pc1
 rw [g6q]
 split<;>split<;>simp
theorem zoN (s:Ls):∀ ps:List Ls,(zbu s ps).length<=2*ps.length
 | []=>by simp [zbu]
 | p :: ps => by
   have h1:=zqE s p
   have h2:=zoN s ps
   have e:zbu s (p::ps)=pc1 s p++zbu s ps:=rfl
   rw [e,g6q,List.length_cons]
   omega
structure A3G where
 k:Nat
 nx:List Ls
 a:Option Addr
 c:Nat
noncomputable def pcA (s p:Ls):Nat->List Ls:=by
 classical exact fun k=>if k=0 then [] else if k=1 then (if (p.meet s).zero then [] else [p.meet s]) else pc1 s p
theorem zm1 (s p:Ls):pcA s p 0=[]:=rfl
theorem zwH {s p:Ls} (h:(p.meet s).zero):pcA s p 1=[]:=by unfold pcA;rw [if_neg (by decide),if_pos rfl,if_pos h]
theorem zwI {s p:Ls} (h:¬(p.meet s).zero):pcA s p 1=[p.meet s]:=by unfold pcA;rw [if_neg (by decide),if_pos rfl,if_neg h]
theorem zu6 (s p:Ls):pcA s p 2=pc1 s p:=rfl
theorem zwJ {s p:Ls} (h:(p.minus s).zero):pcA s p 2=pcA s p 1:=by
 simp [pcA,pc1,h]
theorem zwK {s p:Ls} (h:¬(p.minus s).zero):pcA s p 2=pcA s p 1++[p.minus s]:=by
 simp [pcA,pc1,h]
theorem zpN (ss:List Ls) (hl:ss.length<=4096) (sa:Option Addr) (sc:Nat) (w:World) (hG:Tab w) (hin:In w [] sa (lsL ss)) :
 Calls Tryz.prog uM #[.slice sa ss.length sc] w fun e w'=>∃ v L1,e=.returned v/\R w [] L1 w'/\atQ ss v L1:=by
 refine zQ [.v (.slice sa ss.length sc)] zgP (by simp) ?_
 have cB:=fun w=>zmF w
 have hsa:0<ss.length->sa≠none:=fun h=>hin.ne' (k:=0) (by rw [uZ];omega)
 (repeat' ((conv=>whnf);first|refine zm (.v lsAll.v) (fun w hR=>cB w) ?_|refine zh ?_|((first|apply zc|apply za|apply zd)<;>intro h<;>try (exfalso;omega))|refine pay ?_|intro _));(all_goals (conv=>whnf))
 all_goals try (exfalso;omega)
 rename_i b12
 refine zw A1G (fun g=>[(3,.sl 12 g.a g.ps.length g.c),(13,.v (.slice sa ss.length sc)),(14,.v (.int .i64 ss.length)),(15,.v (.int .i64 g.i))])
  (fun g=>[.own 12 g.a g.ps.length g.c zj 4 (lsL g.ps)]) (fun g=>g.i<=ss.length/\Part g.ps/\Homo (ss.take g.i) g.ps) (fun g=>ss.length - g.i)
  ⟨0,[lsAll],some ⟨b12,0,none⟩,1⟩ ⟨Nat.zero_le _,Part.all,Homo.nil _⟩ (by (repeat ((conv=>whnf);refine vS ?_));exact trivial) (Ref.takes [12] rfl (.refl _)) ?_
 rintro ⟨i,ps,a,c⟩ ⟨hi,hP,hH⟩
 dsimp only at hi hP hH ⊢
 obtain ⟨hp1,hp2⟩:=hP.len
 by_cases hlt:i<ss.length
 ·obtain ⟨s,hs⟩:∃ s,ss[i]?=some s:=⟨_,g2q hlt⟩
  have rds:=fun {L:List Ent}=>zsD (L:=L) hin hs
  have hsa:=hsa (by omega)
  have q0:((i:Nat):Int).toNat=i:=by omega
  have htk:ss.take (i+1)=ss.take i++[s]:=by rw [List.take_add_one,hs];rfl
  have hP':=hP.pcs s
  have hH':=hH.pcs s
  rw [←htk] at hH'
  clear hP hH
  (repeat' ((conv=>whnf);first|rw [q0]|refine ⟨s.cells,rfl,rds,?_⟩|refine zh ?_|((first|apply zc|apply za|apply zd)<;>intro h<;>try (exfalso;omega))|refine pay ?_|intro _));(all_goals (conv=>whnf))
  all_goals try (exfalso;omega)
  rename_i b5
  refine zw A2G (fun g=>[(3,.sl 12 a ps.length c),(5,.ptr 5 b5 0),(6,.sl 41 g.a g.nx.length g.c),(13,.v (.slice sa ss.length sc)),(14,.v (.int .i64 ss.length)),(15,.v (.int .i64 i)),(19,.sl 12 a ps.length c),(20,.v (.int .i64 ps.length)),(21,.v (.int .i64 g.j))])
   (fun g=>[.own 41 g.a g.nx.length g.c zj 4 (lsL g.nx),.own 12 a ps.length c zj 4 (lsL ps),.box 5 b5 s.cells zj]) (fun g=>g.j<=ps.length/\g.nx=zbu s (ps.take g.j)) (fun g=>ps.length - g.j)
   ⟨0,[],none,0⟩ ⟨Nat.zero_le _,rfl⟩ (by (repeat ((conv=>whnf);refine vS ?_));exact trivial) ((Ref.ownNil 41 zj 4).trans (Ref.takes [41,12,5] rfl (.refl _))) ?_
  rintro ⟨j,nx,a2,c2⟩ ⟨hj,hnx⟩
  dsimp only at hj hnx ⊢
  by_cases hjl:j<ps.length
  ·obtain ⟨p,hp⟩:∃ p,ps[j]?=some p:=⟨_,g2q hjl⟩
   have q1:((j:Nat):Int).toNat=j:=by omega
   have hrw:=(zwG hp).1
   have hrd:=zaR hp
   have cM:=fun w=>zkq p s w
   have cN:=fun w=>zpL p s w
   have htk2:zbu s (ps.take (j+1))=zbu s (ps.take j)++pc1 s p:=by
    rw [List.take_add_one,hp]
    unfold zbu
    rw [List.flatMap_append]
    simp
   have hnl:nx.length<=512:=by
    have:=zoN s (ps.take j)
    rw [←hnx,List.length_take] at this
    omega
   (repeat' ((conv=>whnf);first|rw [q1]|refine uT hrd ?_ rfl rfl rfl|refine zm (.v (p.meet s).v) (fun w hR=>cM w) ?_|refine zm (.v (p.minus s).v) (fun w hR=>cN w) ?_|refine zh ?_|((first|apply zc|apply za|apply zd)<;>intro h<;>try (exfalso;omega))|refine pay ?_|intro _));(all_goals (conv=>whnf))
   all_goals try (exfalso;omega)
   rename_i b8
   obtain ⟨M,hM⟩:∃ M,p.meet s=M:=⟨_,rfl⟩
   obtain ⟨N,hN⟩:∃ N,p.minus s=N:=⟨_,rfl⟩
   have z1:=fun h:M.zero=>zwH (s:=s) (p:=p) (by rw [hM];exact h)
   have y1:=fun h:¬M.zero=>zwI (s:=s) (p:=p) (by rw [hM];exact h)
   have z2:=fun h:N.zero=>zwJ (s:=s) (p:=p) (by rw [hN];exact h)
   have y2:=fun h:¬N.zero=>zwK (s:=s) (p:=p) (by rw [hN];exact h)
   rw [hM] at y1
   rw [hN] at y2
   have mc:(p.meet s).cells=M.cells:=by rw [hM]
   have nc:(p.minus s).cells=N.cells:=by rw [hN]
   have mA:(p.meet s).a=M.a/\(p.meet s).b=M.b/\(p.meet s).c=M.c/\(p.meet s).d=M.d:=by rw [hM];exact ⟨rfl,rfl,rfl,rfl⟩
   have nA:(p.minus s).a=N.a/\(p.minus s).b=N.b/\(p.minus s).c=N.c/\(p.minus s).d=N.d:=by rw [hN];exact ⟨rfl,rfl,rfl,rfl⟩
   obtain ⟨m1,m2,m3,m4⟩:=mA
   obtain ⟨v1,v2,v3,v4⟩:=nA
   rw [m1,m2,m3,m4,v1,v2,v3,v4]
   have hpl:=zqE s p
   have hp1l:(pcA s p 1).length<=1:=by
    by_cases h:M.zero
    ·rw [z1 h];simp
    ·rw [y1 h];simp
   refine zw A3G (fun g=>[(3,.sl 12 a ps.length c),(5,.ptr 5 b5 0),(6,.sl 41 g.a g.nx.length g.c),(13,.v (.slice sa ss.length sc)),(14,.v (.int .i64 ss.length)),(15,.v (.int .i64 i)),(19,.sl 12 a ps.length c),(20,.v (.int .i64 ps.length)),(21,.v (.int .i64 j)),(31,.v (.agg #[.int .u64 (M.a:Int),.int .u64 (M.b:Int),.int .u64 (M.c:Int),.int .u64 (M.d:Int),.int .u64 (N.a:Int),.int .u64 (N.b:Int),.int .u64 (N.c:Int),.int .u64 (N.d:Int)])),(32,.v (.int .i64 g.k))])
    (fun g=>[.own 41 g.a g.nx.length g.c zj 4 (lsL g.nx),.own 12 a ps.length c zj 4 (lsL ps),.box 5 b5 s.cells zj]) (fun g=>g.k<=2/\g.nx=nx++pcA s p g.k) (fun g=>2 - g.k)
    ⟨0,nx,a2,c2⟩ ⟨Nat.zero_le _,by rw [zm1,List.append_nil]⟩ (by (repeat ((conv=>whnf);refine vS ?_));exact trivial) (Ref.takes [41,12,5] rfl (.refl _)) ?_
   rintro ⟨k,nx2,a3,c3⟩ ⟨hk,hnx2⟩
   dsimp only at hk hnx2 ⊢
   have hl2:nx2.length<=516:=by
    rw [hnx2,g6q]
    rcases (by omega:k=0∨k=1∨k=2) with rfl|rfl|rfl
    ·rw [zm1];simp;omega
    ·omega
    ·rw [zu6];omega
   have cM2:=fun w=>zl5 M w
   have cN2:=fun w=>zl5 N w
   have pM:=zoJ M
   have pN:=zoJ N
   have sM:lsL nx2++M.cells=lsL (nx2++[M]):=by rw [zfI];simp [lsL]
   have sN:lsL nx2++N.cells=lsL (nx2++[N]):=by rw [zfI];simp [lsL]
   rcases (by omega:k=0∨k=1∨k=2) with rfl|rfl|rfl
   ·by_cases hz:M.zero
    ·have h0:yK M 4=0:=by
      rcases Nat.eq_zero_or_pos (yK M 4) with h|h
      ·exact h
      ·exact absurd hz (pM.1 h)
     rw [h0] at cM2
     (repeat' ((conv=>whnf);first|refine zm (.v (.int .i64 ((0:Nat):Int))) (fun w hR=>cM2 w) ?_|refine zh ?_|((first|apply zc|apply za|apply zd)<;>intro h<;>try (exfalso;omega))|refine pay ?_|intro _));(all_goals (conv=>whnf))
     all_goals try (exfalso;omega)
     exact zi (⟨1,nx2,a3,c3⟩:A3G) ⟨by dsimp only;omega,by dsimp only;rw [hnx2,zm1,z1 hz]⟩ (by dsimp only;omega) (by (repeat ((conv=>whnf);refine vS ?_));exact trivial) (Ref.takes [41,12,5] rfl (.refl _))
    ·have h0:=pM.2 hz
     (repeat' ((conv=>whnf);first|rw [sM]|refine zm (.v (.int .i64 (yK M 4:Nat))) (fun w hR=>cM2 w) ?_|refine zh ?_|((first|apply zc|apply za|apply zd)<;>intro h<;>try (exfalso;omega))|refine pay ?_|refine And.intro (by first|exact ⟨by unfold maxLen;omega,by omega⟩) ?_|intro _));(all_goals (conv=>whnf))
     all_goals try (exfalso;omega)
     rename_i a4 c4
     have l1:(nx2++[M]).length=nx2.length+1:=by simp
     exact zi (⟨1,nx2++[M],a4,c4⟩:A3G) ⟨by dsimp only;omega,by dsimp only;rw [hnx2,zm1,y1 hz,List.append_nil]⟩ (by dsimp only;omega) (by dsimp only;rw [l1];(repeat ((conv=>whnf);refine vS ?_));exact trivial) (by dsimp only;rw [l1];exact Ref.takes [41,12,5] rfl (.refl _))
   ·by_cases hz:N.zero
    ·have h0:yK N 4=0:=by
      rcases Nat.eq_zero_or_pos (yK N 4) with h|h
      ·exact h
      ·exact absurd hz (pN.1 h)
     rw [h0] at cN2
     (repeat' ((conv=>whnf);first|refine zm (.v (.int .i64 ((0:Nat):Int))) (fun w hR=>cN2 w) ?_|refine zh ?_|((first|apply zc|apply za|apply zd)<;>intro h<;>try (exfalso;omega))|refine pay ?_|intro _));(all_goals (conv=>whnf))
     all_goals try (exfalso;omega)
     exact zi (⟨2,nx2,a3,c3⟩:A3G) ⟨by dsimp only;omega,by dsimp only;rw [hnx2,z2 hz]⟩ (by dsimp only;omega) (by (repeat ((conv=>whnf);refine vS ?_));exact trivial) (Ref.takes [41,12,5] rfl (.refl _))
    ·have h0:=pN.2 hz
     (repeat' ((conv=>whnf);first|rw [sN]|refine zm (.v (.int .i64 (yK N 4:Nat))) (fun w hR=>cN2 w) ?_|refine zh ?_|((first|apply zc|apply za|apply zd)<;>intro h<;>try (exfalso;omega))|refine pay ?_|refine And.intro (by first|exact ⟨by unfold maxLen;omega,by omega⟩) ?_|intro _));(all_goals (conv=>whnf))
     all_goals try (exfalso;omega)
     rename_i a4 c4
     have l1:(nx2++[N]).length=nx2.length+1:=by simp
     exact zi (⟨2,nx2++[N],a4,c4⟩:A3G) ⟨by dsimp only;omega,by dsimp only;rw [hnx2,y2 hz,List.append_assoc]⟩ (by dsimp only;omega) (by dsimp only;rw [l1];(repeat ((conv=>whnf);refine vS ?_));exact trivial) (by dsimp only;rw [l1];exact Ref.takes [41,12,5] rfl (.refl _))
   ·(repeat' ((conv=>whnf);first|refine zh ?_|((first|apply zc|apply za|apply zd)<;>intro h<;>try (exfalso;omega))|refine pay ?_|intro _));(all_goals (conv=>whnf))
    all_goals try (exfalso;omega)
    exact zi (⟨j+1,nx2,a3,c3⟩:A2G) ⟨hjl,by dsimp only;rw [hnx2,zu6,htk2,hnx]⟩ (by dsimp only;omega) (by (repeat ((conv=>whnf);refine vS ?_));exact trivial) (Ref.takes [41,12,5] rfl (.refl _))
  ·(repeat' ((conv=>whnf);first|refine ⟨.sl 41 _ _ _,⟨rfl,rfl,rfl,rfl⟩,?_⟩|refine zh ?_|((first|apply zc|apply za|apply zd)<;>intro h<;>try (exfalso;omega))|refine pay ?_|intro _));(all_goals (conv=>whnf))
   all_goals try (exfalso;omega)
   rw [List.take_of_length_le (by omega)] at hnx
   subst hnx
   exact zi (⟨i+1,zbu s ps,a2,c2⟩:A1G) ⟨hlt,hP',hH'⟩ (show ss.length - (i+1)<ss.length - i by omega) (by (repeat ((conv=>whnf);refine vS ?_));exact trivial) (Ref.takes [41] rfl (.own (k':=12) rfl rfl (.nil _)))
 ·rw [List.take_of_length_le (by omega)] at hH
  have cA:=fun (W:World) (L':List Ent) (hR:R w [] L' W) (x y:Ls)=>zoK x y W (hG.cast hR (fun _ h=>by cases h))
  (repeat' ((conv=>whnf);first|(refine zpM (key:=12) zwF rfl rfl (by omega) (by omega) cA ?_;intro qs hqs)|refine zh ?_|((first|apply zc|apply za|apply zd)<;>intro h<;>try (exfalso;omega))|refine pay ?_|intro _));(all_goals (conv=>whnf))
  all_goals try (exfalso;omega)
  exact ⟨⟨_,Ref.takes [12] rfl (.refl _),qs,a,c,by rw [hqs.length_eq],by rw [hqs.length_eq],hP.perm hqs,hH.perm hqs⟩⟩
end
end Go.Proofs.YtjmlialibdobpaaGreatDoor
