/- What is left to be learned of balanced texts. Plain Lean: no program in sight. -/
import Derived.Test.YtdcbghoalnlcmaaGreatDoorK11
import Derived.Test.YtdcbghoalnlcmaaGreatDoorK4
import Derived.Test.YtdcbghoalnlcmaaGreatDoorK9
import Derived.Test.YtdcbghoalnlcmaaGreatDoorK8
import Derived.Test.YtdcbghoalnlcmaaGreatDoorRows
import Derived.Test.YtdcbghoalnlcmaaGreatDoorK2
import Derived.ChangeSame
import Derived.ChangeVars
import Derived.JoinedOf
import Derived.RowKit
import Derived.LaidLaws
import Derived.LaidHandle
set_option linter.unusedSectionVars false
set_option linter.unusedVariables false
set_option linter.unusedSimpArgs false
namespace Go.Proofs.YtdcbghoalnlcmaaGreatDoor
section
open Go.EG
theorem zpU {S:Sto} (hw:WF S) {x y:Int} {t:List Nat} (hx:SigI S x t) (hy:SigI S y t):x=y:=by
 rcases hx with ⟨rfl,rfl⟩|⟨h1,h2,h3⟩
 ·rcases hy with ⟨rfl,_⟩|⟨k1,k2,k3⟩
  ·rfl
  ·have:=hw.pos1 k1 k2
   unfold Tm.len at this
   rw [k3.txt] at this
   simp at this
 ·rcases hy with ⟨rfl,rfl⟩|⟨k1,k2,k3⟩
  ·have:=hw.pos1 h1 h2
   unfold Tm.len at this
   rw [h3.txt] at this
   simp at this
  ·exact hw.inj x.toNat x y (by omega) h1 h2 k1 k2 (h3.det k3)
theorem zvG {S:Sto} (hw:WF S) {x y:Int} {t u:List Nat} (hx:SigI S x t) (hy:SigI S y u):x=y↔t=u:=by
 constructor
 ·rintro rfl
  rw [←hx.txt,←hy.txt]
 ·rintro rfl
  exact zpU hw hx hy
def ned (K:List Tm):Tm->Nat
 | .nil=>0
 | .lt l=>if .lt l∈K then 0 else 1
 | .pr a b=>if .pr a b∈K then 0 else if (Tm.pr a b).len<=256 then 1 else 1+(ned K a+ned K b)
 | .pw a k=>if .pw a k∈K then 0 else 1
theorem ztY {K:List Tm} {t:Tm} (h:t∈K):ned K t=0:=by
 cases t with
 | nil=>rfl
 | lt l=>rw [ned,if_pos h]
 | pr a b=>rw [ned,if_pos h]
 | pw a k=>rw [ned,if_pos h]
theorem zwK {K:List Tm} {t:Tm} (h:t∉K) (h0:1<=t.len):1<=ned K t:=by
 cases t with
 | nil=>simp [Tm.len,Tm.txt] at h0
 | lt l=>rw [ned,if_neg h];exact Nat.le_refl _
 | pr a b=>rw [ned,if_neg h];split<;>omega
 | pw a k=>rw [ned,if_neg h];exact Nat.le_refl _
theorem zm9 {K:List Tm} {t:Tm} (h:t.len<=256):ned K t<=1:=by
 cases t with
 | nil=>exact Nat.zero_le _
 | lt l=>rw [ned];split<;>omega
 | pr a b=>rw [ned,if_pos h];split<;>omega
 | pw a k=>rw [ned];split<;>omega
theorem zeq {K K':List Tm} (h:∀ t∈K,t∈K'):∀ t:Tm,ned K' t<=ned K t
 | .nil=>Nat.le_refl _
 | .lt l => by
   rw [ned,ned]
   by_cases h1:Tm.lt l∈K
   ·rw [if_pos (h _ h1),if_pos h1];exact Nat.le_refl _
   ·rw [if_neg h1];split<;>omega
 | .pr a b => by
   have i1:=zeq h a
   have i2:=zeq h b
   rw [ned,ned]
   by_cases h1:Tm.pr a b∈K
   ·rw [if_pos (h _ h1),if_pos h1];exact Nat.le_refl _
   ·rw [if_neg h1]
    by_cases h2:(Tm.pr a b).len<=256
    ·rw [if_pos h2,if_pos h2];split<;>omega
    ·rw [if_neg h2,if_neg h2];split<;>omega
 | .pw a k => by
   rw [ned,ned]
   by_cases h1:Tm.pw a k∈K
   ·rw [if_pos (h _ h1),if_pos h1];exact Nat.le_refl _
   ·rw [if_neg h1];split<;>omega
theorem zmr {K:List Tm}:∀ {t:Tm},t.evn=true->t.len<=511->ned K t<=2*t.dep+1
 | .nil,_,_=>Nat.zero_le _
 | .lt l,_,_=>by rw [ned];split<;>omega
 | .pw a k,h,_=>by simp [Tm.evn] at h
 | .pr a b,h,hl => by
   have h':=h
   rw [xr] at h'
   rw [len_pr] at hl
   have i1:=zmr (K:=K) h'.1 (by omega)
   have i2:=zmr (K:=K) h'.2.1 (by omega)
   rw [ned,ye]
   split
   ·omega
   ·split
    ·omega
    ·rcases (show a.len<=256∨b.len<=256 by omega) with hs|hs
     ·have:=zm9 (K:=K) hs
      omega
     ·have:=zm9 (K:=K) hs
      omega
def Chn (K:List Tm):Tm->List Tm->Prop
 | _,[]=>True
 | t,u::r=>t∉K/\256<t.len/\(∃ a b,t=.pr a b/\(u=a∨u=b))/\Chn K u r
def lst:Tm->List Tm->Tm
 | t,[]=>t
 | _,u::r=>lst u r
theorem zms {K:List Tm}:∀ {r:List Tm} {t:Tm},Chn K t r->r.length+(lst t r).dep<=t.dep
 | [],t,_=>by simp [lst]
 | u :: r,t,h => by
   obtain ⟨_,_,⟨a,b,rfl,hu⟩,h4⟩:=h
   have:=zms h4
   rw [lst,ye,List.length_cons]
   rcases hu with rfl|rfl<;>omega
theorem ziC {K:List Tm}:∀ {r:List Tm} {t:Tm},Chn K t r->lst t r∉K->1<=(lst t r).len->ned (lst t r::K) t+1<=ned K t
 | [],t,_,h1,h2 => by
   rw [lst] at *
   rw [ztY (g5q ..)]
   exact zwK h1 h2
 | u :: r,t,h,h1,h2 => by
   obtain ⟨k1,k2,⟨a,b,rfl,hu⟩,h4⟩:=h
   rw [lst] at *
   have ih:=ziC h4 h1 h2
   have m1:=zeq (K:=K) (K':=lst u r::K) (fun t ht=>g4q _ ht) a
   have m2:=zeq (K:=K) (K':=lst u r::K) (fun t ht=>g4q _ ht) b
   have k3:¬(Tm.pr a b).len<=256:=by omega
   rw [ned,ned,if_neg k1,if_neg k3,if_neg k3]
   split
   ·omega
   ·rcases hu with rfl|rfl<;>omega
theorem zpV:∀ (r:List Tm) (t u:Tm),lst t (r++[u])=u
 | [],t,u=>rfl
 | v::r,t,u=>by rw [List.cons_append,lst];exact zpV r v u
theorem zpW {K:List Tm}:∀ {r:List Tm} {t:Tm} (u:Tm),Chn K t r->lst t r∉K->256<(lst t r).len->(∃ a b,lst t r=.pr a b/\(u=a∨u=b))->Chn K t (r++[u])
 | [],t,u,_,h1,h2,h3=>⟨h1,h2,h3,trivial⟩
 | v::r,t,u,h,h1,h2,h3=>⟨h.1,h.2.1,h.2.2.1,zpW u h.2.2.2 h1 h2 h3⟩
theorem zrF {K:List Tm} {u:Tm}:∀ {r:List Tm} {t:Tm},Chn K t (r++[u])->Chn K t r/\lst t r∉K/\256<(lst t r).len
 | [],t,h=>⟨trivial,h.1,h.2.1⟩
 | v :: r,t,h => by
   have ih:=zrF (r:=r) (t:=v) h.2.2.2
   exact ⟨⟨h.1,h.2.1,h.2.2.1,ih.1⟩,ih.2⟩
theorem zpX {K K':List Tm} {u:Tm} (hK:∀ t,t∈K'->t∈K∨t=u):∀ {r:List Tm} {t:Tm},Chn K t r->lst t r=u->Chn K' t r
 | [],t,h,_=>trivial
 | v :: r,t,h,hu => by
   obtain ⟨k1,k2,⟨a,b,rfl,hv⟩,h4⟩:=h
   have hd:=zms h4
   rw [lst] at hu
   rw [hu] at hd
   refine ⟨fun hm=>?_,k2,⟨a,b,rfl,hv⟩,zpX hK h4 hu⟩
   rcases hK _ hm with h|h
   ·exact k1 h
   ·have:(Tm.pr a b).dep=u.dep:=by rw [h]
    rw [ye] at this
    rcases hv with rfl|rfl<;>omega
def kts (S:Sto) (M:List (Int × Int)):List Tm:=M.map fun p=>tm S.E p.1
def CaI (S:Sto) (M:List (Int × Int)):Prop:=∀ p∈M,(1<=p.1/\p.1<=S.E.length)/\SigI S p.2 (tm S.E p.1).txt
theorem CaI.nil (S:Sto):CaI S []:=fun p hp=>by simp at hp
theorem CaI.grow {S S':Sto} {M:List (Int × Int)} (h:CaI S M) (g:Grow S S'):CaI S' M:=fun p hp=>by
 obtain ⟨⟨h1,h2⟩,h3⟩:=h p hp
 have:=g.len
 exact ⟨⟨h1,by omega⟩,by rw [g.tm h2];exact h3.grow g⟩
theorem CaI.snoc {S:Sto} {M:List (Int × Int)} (h:CaI S M) {x z:Int} (hx:1<=x/\x<=S.E.length) (hz:SigI S z (tm S.E x).txt):CaI S (M++[(x,z)]):=fun p hp=>by
 rcases List.mem_append.1 hp with hp|hp
 ·exact h p hp
 ·rw [List.mem_singleton] at hp;subst hp;exact ⟨hx,hz⟩
theorem zvH {S S':Sto} {M:List (Int × Int)} (h:CaI S M) (g:Grow S S'):kts S' M=kts S M :=
 List.map_congr_left fun p hp=>g.tm (h p hp).1.2
theorem ziV {S:Sto} (hw:WF S) {M:List (Int × Int)} (h:CaI S M) {x:Int} (hx:1<=x/\x<=S.E.length):tm S.E x∈kts S M↔x∈M.map Prod.fst:=by
 constructor
 ·intro hm
  obtain ⟨p,hp,he⟩:=List.mem_map.1 hm
  have:=hw.inj p.1.toNat p.1 x (by have:=(h p hp).1;omega) (h p hp).1.1 (h p hp).1.2 hx.1 hx.2 he
  exact List.mem_map.2 ⟨p,hp,this⟩
 ·intro hm
  obtain ⟨p,hp,he⟩:=List.mem_map.1 hm
  exact List.mem_map.2 ⟨p,hp,by rw [he]⟩
structure TdI (S:Sto) (M:List (Int × Int)) (id:Int) (st:List Int):Prop where
 rng:∀ x∈st,1<=x/\x<=S.E.length
 evn:∀ x∈st,(tm S.E x).evn=true/\(tm S.E x).len<=511
 chn:st=[]/\id∈M.map Prod.fst∨∃ r,st=id::r/\Chn (kts S M) (tm S.E id) (r.map (tm S.E))
open Classical in
noncomputable def muC (S:Sto) (M:List (Int × Int)) (id:Int) (st:List Int):Nat :=
 ned (kts S M) (tm S.E id)*100+(if st=[] then 0 else if st.getLastD 0∈M.map Prod.fst then 50+st.length else (tm S.E (st.getLastD 0)).dep)
theorem zwL (S:Sto) (M:List (Int × Int)) (id:Int):muC S M id []=ned (kts S M) (tm S.E id)*100:=by simp [muC]
theorem zna {S:Sto} {M:List (Int × Int)} {id:Int} {rest:List Int} {x:Int} (h:x∈M.map Prod.fst):muC S M id (rest++[x])=ned (kts S M) (tm S.E id)*100+(51+rest.length):=by
 have e:(rest++[x]).getLastD 0=x:=by simp
 unfold muC
 rw [if_neg (by simp),e,if_pos h]
 simp;omega
theorem ziW {S:Sto} {M:List (Int × Int)} {id:Int} {rest:List Int} {x:Int} (h:x∉M.map Prod.fst):muC S M id (rest++[x])=ned (kts S M) (tm S.E id)*100+(tm S.E x).dep:=by
 have e:(rest++[x]).getLastD 0=x:=by simp
 unfold muC
 rw [if_neg (by simp),e,if_neg h]
theorem TdI.start {S:Sto} {M:List (Int × Int)} {id:Int} (h1:1<=id) (h2:id<=S.E.length) (he:(tm S.E id).evn=true) (hl:(tm S.E id).len<=511):TdI S M id [id] :=
 ⟨fun x hx=>by rw [List.mem_singleton] at hx;subst hx;exact ⟨h1,h2⟩,fun x hx=>by rw [List.mem_singleton] at hx;subst hx;exact ⟨he,hl⟩,.inr ⟨[],rfl,trivial⟩⟩
theorem TdI.dep {S:Sto} (hw:WF S) {M:List (Int × Int)} {id:Int} {st:List Int} (h:TdI S M id st) {x:Int} (hx:x∈st):(tm S.E x).dep<=17 :=
 za3 (hw.pos_ (h.rng x hx).1 (h.rng x hx).2) (h.evn x hx).1 (h.evn x hx).2
theorem TdI.top {S:Sto} {M:List (Int × Int)} {id:Int} {rest:List Int} {x:Int} (h:TdI S M id (rest++[x])):∃ r,rest++[x]=id::r/\Chn (kts S M) (tm S.E id) (r.map (tm S.E))/\lst (tm S.E id) (r.map (tm S.E))=tm S.E x:=by
 rcases h.chn with ⟨h,_⟩|⟨r,h1,h2⟩
 ·simp at h
 ·refine ⟨r,h1,h2,?_⟩
  cases rest with
  | nil =>
    simp only [List.nil_append,List.cons.injEq] at h1
    obtain ⟨rfl,rfl⟩:=h1
    rfl
  | cons y rest =>
    simp only [List.cons_append,List.cons.injEq] at h1
    obtain ⟨rfl,rfl⟩:=h1
    rw [List.map_append]
    exact zpV _ _ _
theorem TdI.len {S:Sto} (hw:WF S) {M:List (Int × Int)} {id:Int} {st:List Int} (h:TdI S M id st):st.length<=18:=by
 rcases h.chn with ⟨rfl,_⟩|⟨r,rfl,h2⟩
 ·exact Nat.zero_le _
 ·have:=zms h2
  have:=h.dep hw (g5q ..)
  rw [g8q] at *
  rw [List.length_cons];omega
theorem TdI.pop {S:Sto} (hw:WF S) {M:List (Int × Int)} (hM:CaI S M) {id:Int} {rest:List Int} {x:Int} (h:TdI S M id (rest++[x])) (hx:x∈M.map Prod.fst):TdI S M id rest/\muC S M id rest<muC S M id (rest++[x]):=by
 rw [zna hx]
 have hr1:=fun y (hy:y∈rest)=>h.rng y (List.mem_append_left _ hy)
 have hr2:=fun y (hy:y∈rest)=>h.evn y (List.mem_append_left _ hy)
 obtain ⟨r,e1,e2,e3⟩:=h.top
 rcases List.eq_nil_or_concat rest with rfl|⟨rest',y,rfl⟩
 ·simp only [List.nil_append,List.cons.injEq] at e1
  obtain ⟨rfl,_⟩:=e1
  exact ⟨⟨hr1,hr2,.inl ⟨rfl,hx⟩⟩,by rw [zwL];omega⟩
 ·rw [List.concat_eq_append] at *
  have hp:∃ r',r=r'++[x]/\rest'++[y]=id::r':=by
   cases rest' with
   | nil =>
     simp only [List.nil_append,List.cons_append,List.cons.injEq] at e1
     obtain ⟨rfl,rfl⟩:=e1
     exact ⟨[],rfl,rfl⟩
   | cons z rest' =>
     simp only [List.cons_append,List.cons.injEq] at e1
     obtain ⟨rfl,rfl⟩:=e1
     exact ⟨rest'++[y],rfl,rfl⟩
  obtain ⟨r',rfl,e4⟩:=hp
  rw [List.map_append] at e2
  obtain ⟨q1,q2,q3⟩:=zrF e2
  have hI:TdI S M id (rest'++[y]):=⟨hr1,hr2,.inr ⟨r',e4,q1⟩⟩
  refine ⟨hI,?_⟩
  have hy:y∈rest'++[y]:=by simp
  obtain ⟨r2,e5,e6,e7⟩:=hI.top
  rw [e4,List.cons.injEq] at e5
  obtain ⟨_,rfl⟩:=e5
  rw [e7] at q2
  rw [ziW (fun hm=>q2 ((ziV hw hM (hr1 y hy)).2 hm))]
  have:=hI.dep hw hy
  omega
theorem TdI.push {S:Sto} (hw:WF S) {M:List (Int × Int)} (hM:CaI S M) {id:Int} {rest:List Int} {x c:Int} (h:TdI S M id (rest++[x])) (hx:x∉M.map Prod.fst) (hl:256<(tm S.E x).len) (hc:1<=c/\c<=S.E.length) (hcn:c∉M.map Prod.fst) {a b:Tm} (hp:tm S.E x=.pr a b) (hch:tm S.E c=a∨tm S.E c=b):TdI S M id (rest++[x]++[c])/\muC S M id (rest++[x]++[c])<muC S M id (rest++[x]):=by
 have hxm:x∈rest++[x]:=by simp
 obtain ⟨r,e1,e2,e3⟩:=h.top
 have hev:=h.evn x hxm
 rw [hp,xr,len_pr] at hev
 constructor
 ·refine ⟨fun y hy=>?_,fun y hy=>?_,.inr ⟨r++[c],by rw [e1];rfl,?_⟩⟩
  ·rcases List.mem_append.1 hy with hy|hy
   ·exact h.rng y hy
   ·rw [List.mem_singleton] at hy;subst hy;exact hc
  ·rcases List.mem_append.1 hy with hy|hy
   ·exact h.evn y hy
   ·rw [List.mem_singleton] at hy;subst hy
    rcases hch with h|h
    ·rw [h];exact ⟨hev.1.1,by omega⟩
    ·rw [h];exact ⟨hev.1.2.1,by omega⟩
  ·rw [List.map_append]
   refine zpW _ e2 ?_ ?_ ?_
   ·rw [e3];exact fun hm=>hx ((ziV hw hM (h.rng x hxm)).1 hm)
   ·rw [e3];exact hl
   ·rw [e3];exact ⟨a,b,hp,hch⟩
 ·rw [ziW hcn,ziW hx]
  have:(tm S.E c).dep<(tm S.E x).dep:=by
   rw [hp,ye]
   rcases hch with h|h<;>rw [h]<;>omega
  omega
theorem TdI.learn {S S':Sto} (hw:WF S) {M:List (Int × Int)} (hM:CaI S M) {id:Int} {rest:List Int} {x z:Int} (h:TdI S M id (rest++[x])) (hx:x∉M.map Prod.fst) (hid:1<=id/\id<=S.E.length) (g:Grow S S') (hM':CaI S' (M++[(x,z)])) :
 TdI S' (M++[(x,z)]) id (rest++[x])/\muC S' (M++[(x,z)]) id (rest++[x])<muC S M id (rest++[x])/\ned (kts S' (M++[(x,z)])) (tm S'.E id)+1<=ned (kts S M) (tm S.E id):=by
 have hxm:x∈rest++[x]:=by simp
 have hxr:=h.rng x hxm
 have hgl:=g.len
 have hk:kts S' (M++[(x,z)])=kts S M++[tm S.E x]:=by
  have:=zvH hM g
  unfold kts at this ⊢
  rw [List.map_append,this]
  simp [g.tm hxr.2]
 obtain ⟨r,e1,e2,e3⟩:=h.top
 have hnk:tm S.E x∉kts S M:=fun hm=>hx ((ziV hw hM hxr).1 hm)
 have hn:ned (kts S' (M++[(x,z)])) (tm S'.E id)+1<=ned (kts S M) (tm S.E id):=by
  rw [hk,g.tm hid.2]
  have h1:=ziC e2 (by rw [e3];exact hnk) (by rw [e3];exact hw.pos1 hxr.1 hxr.2)
  have h2:=zeq (K:=tm S.E x::kts S M) (K':=kts S M++[tm S.E x]) (fun t ht=>by simpa [or_comm] using ht) (tm S.E id)
  rw [e3] at h1
  omega
 have hI:TdI S' (M++[(x,z)]) id (rest++[x]):=by
  refine ⟨fun y hy=>?_,fun y hy=>?_,.inr ⟨r,e1,?_⟩⟩
  ·have:=h.rng y hy;omega
  ·rw [g.tm (h.rng y hy).2];exact h.evn y hy
  ·have hr:r.map (tm S'.E)=r.map (tm S.E):=List.map_congr_left fun y hy=>g.tm (h.rng y (by rw [e1];exact g4q _ hy)).2
   rw [hr,g.tm hid.2,hk]
   exact zpX (u:=tm S.E x) (fun t ht=>by simpa using ht) e2 e3
 refine ⟨hI,?_,hn⟩
 rw [zna (by simp),ziW hx]
 have:=h.len hw
 rw [g6q,List.length_singleton] at this
 omega
end
section
open Go.EG
theorem ziD {t:List Nat} {k q:Nat} (h:q<=k):(rep k t).drop (q*t.length)=rep (k - q) t:=by
 obtain ⟨j,rfl⟩:∃ j,k=q+j:=⟨k - q,by omega⟩
 rw [zf2,List.drop_append_of_le_length (by rw [qL];exact Nat.le_refl _),List.drop_eq_nil_of_le (by rw [qL];exact Nat.le_refl _),List.nil_append]
 congr 1;omega
theorem zpY {t:List Nat} {k q:Nat} (h:q<=k):(rep k t).take (q*t.length)=rep q t:=by
 obtain ⟨j,rfl⟩:∃ j,k=q+j:=⟨k - q,by omega⟩
 rw [zf2,List.take_append_of_le_length (by rw [qL];exact Nat.le_refl _),List.take_of_length_le (by rw [qL];exact Nat.le_refl _)]
def sub (t:List Nat) (i n:Nat):List Nat:=(t.drop i).take n
theorem zly {t:List Nat} {i n:Nat} (h:i+n<=t.length):(sub t i n).length=n:=by simp [sub];omega
theorem sub_zero (t:List Nat) (i:Nat):sub t i 0=[]:=by simp [sub]
theorem zmt (t:List Nat):sub t 0 t.length=t:=by simp [sub]
theorem zmu (t:List Nat) (i m n:Nat):sub t i (m+n)=sub t i m++sub t (i+m) n:=by
 unfold sub
 rw [List.take_add,List.drop_drop]
theorem jz {s t:List Nat} {i n:Nat} (h:i+n<=s.length):sub (s++t) i n=sub s i n:=by
 unfold sub
 rw [List.drop_append_of_le_length (by omega),List.take_append_of_le_length (by simp;omega)]
theorem zaS {s t:List Nat} {i n:Nat} (h:s.length<=i):sub (s++t) i n=sub t (i - s.length) n:=by
 unfold sub
 rw [List.drop_append,List.drop_eq_nil_of_le h,List.nil_append]
theorem zvI {s t:List Nat} {i n:Nat} (h:i+n<=s.length+t.length):sub (s++t) i n=sub s (min i s.length) (min (s.length - i) n)++sub t (i - s.length) (n - min (s.length - i) n):=by
 by_cases h1:s.length<=i
 ·rw [zaS h1,show s.length - i=0 by omega,Nat.zero_min,sub_zero,List.nil_append,Nat.sub_zero]
 ·by_cases h2:i+n<=s.length
  ·rw [jz h2,show min i s.length=i by omega,show min (s.length - i) n=n by omega,Nat.sub_self,sub_zero,List.append_nil]
  ·rw [show min i s.length=i by omega,show min (s.length - i) n=s.length - i by omega,show i - s.length=0 by omega]
   conv=>lhs;rw [show n=(s.length - i)+(n - (s.length - i)) by omega,zmu]
   rw [jz (by omega),show i+(s.length - i)=s.length by omega,zaS (Nat.le_refl _),Nat.sub_self]
theorem zfH {t:List Nat} {k i n:Nat} (ht:0<t.length) (h:i+n<=k*t.length):sub (rep k t) i n=sub (rep (k - i/t.length) t) (i%t.length) n:=by
 have hd:=Nat.div_add_mod i t.length
 have hq:i/t.length<=k:=by
  apply Nat.div_le_of_le_mul
  rw [Nat.mul_comm];omega
 unfold sub
 rw [←ziD hq,List.drop_drop]
 congr 2
 rw [Nat.mul_comm] at hd
 omega
theorem zsJ {t:List Nat} {k i n:Nat} (ht:0<t.length) (h:i+n<=k*t.length) (h1:i%t.length+n<=t.length) (hn:0<n):sub (rep k t) i n=sub t (i%t.length) n:=by
 rw [zfH ht h]
 have hk:0<k - i/t.length:=by
  have:i/t.length<k:=by
   rw [Nat.div_lt_iff_lt_mul ht];omega
  omega
 obtain ⟨j,hj⟩:∃ j,k - i/t.length=j+1:=⟨k - i/t.length - 1,by omega⟩
 rw [hj,vN,jz h1]
theorem zqT {t:List Nat} {k i n:Nat} (ht:0<t.length) (h:i+n<=k*t.length) (h1:t.length<i%t.length+n) :
 sub (rep k t) i n=sub t (i%t.length) ((t.length - i%t.length)%t.length)++rep ((n - (t.length - i%t.length)%t.length)/t.length) t++sub t 0 ((n - (t.length - i%t.length)%t.length)%t.length):=by
 have hm:=Nat.mod_lt i ht
 have whole:∀ {k n:Nat},n<=k*t.length->sub (rep k t) 0 n=rep (n/t.length) t++sub t 0 (n%t.length):=by
  intro k n hkn
  have hd:=Nat.div_add_mod n t.length
  have hq:n/t.length<=k:=by
   apply Nat.div_le_of_le_mul
   rw [Nat.mul_comm];exact hkn
  conv=>lhs;rw [←hd,Nat.mul_comm,zmu,Nat.zero_add]
  congr 1
  ·unfold sub;rw [List.drop_zero,zpY hq]
  ·unfold sub
   rw [ziD hq,List.drop_zero]
   by_cases h0:n%t.length=0
   ·rw [h0];simp
   ·have:n/t.length<k:=by
     rw [Nat.mul_comm] at hd
     rcases Nat.lt_or_ge (n/t.length) k with h|h
     ·exact h
     ·have:k*t.length<=n/t.length*t.length:=Nat.mul_le_mul_right _ h
      omega
    obtain ⟨j,hj⟩:∃ j,k - n/t.length=j+1:=⟨k - n/t.length - 1,by omega⟩
    rw [hj,vN,List.take_append_of_le_length (Nat.le_of_lt (Nat.mod_lt _ ht))]
 by_cases h0:i%t.length=0
 ·rw [zfH ht h,h0,Nat.sub_zero,Nat.mod_self,sub_zero,List.nil_append,Nat.sub_zero]
  refine whole ?_
  have hd:=Nat.div_add_mod i t.length
  rw [h0,Nat.add_zero,Nat.mul_comm] at hd
  rw [Nat.sub_mul,hd];omega
 ·have e1:(t.length - i%t.length)%t.length=t.length - i%t.length:=Nat.mod_eq_of_lt (by omega)
  rw [e1,zfH ht h]
  have hd:=Nat.div_add_mod i t.length
  have hq:i/t.length<k:=by
   rw [Nat.div_lt_iff_lt_mul ht];omega
  obtain ⟨j,hj⟩:∃ j,k - i/t.length=j+1:=⟨k - i/t.length - 1,by omega⟩
  rw [hj,vN]
  conv=>lhs;rw [show n=(t.length - i%t.length)+(n - (t.length - i%t.length)) by omega,zmu]
  rw [jz (by omega),show i%t.length+(t.length - i%t.length)=t.length by omega,zaS (Nat.le_refl _),Nat.sub_self,whole,List.append_assoc]
  have hk:k=j+1+i/t.length:=by omega
  rw [hk,Nat.add_mul,Nat.add_mul,Nat.one_mul] at h
  rw [Nat.mul_comm] at hd
  omega
theorem WF.below {S:Sto} (hw:WF S) {n:Int} (h1:1<=n) (h2:n<=S.E.length) :
 ((atE S.E n).r.k=1/\tm S.E n=.lt (atE S.E n).r.l.toNat) ∨
 ((atE S.E n).r.k=2/\tm S.E n=.pr (tm S.E (atE S.E n).r.a) (tm S.E (atE S.E n).r.b)/\1<=(atE S.E n).r.a/\(atE S.E n).r.a<n/\1<=(atE S.E n).r.b/\(atE S.E n).r.b<n) ∨
 ((atE S.E n).r.k=3/\tm S.E n=.pw (tm S.E (atE S.E n).r.a) (atE S.E n).r.t.toNat/\1<=(atE S.E n).r.a/\(atE S.E n).r.a<n/\2<=(atE S.E n).r.t):=by
 obtain ⟨hr,_,ht,_,_⟩:=hw.at_ h1 h2
 rcases hr with hr|⟨e1,e2,e3,e4,e5,e6,e7⟩|⟨e1,e2,e3,e4,e5,e6⟩
 ·exact .inl ⟨hr.1,by rw [ht,mkT,if_pos hr.1]⟩
 ·exact .inr (.inl ⟨e1,by rw [ht,mkT,if_neg (by omega),if_pos e1],e4,e5,e6,e7⟩)
 ·exact .inr (.inr ⟨e1,by rw [ht,mkT,if_neg (by omega),if_neg (by omega)],e5,e6,e4⟩)
section
variable {S:Sto} (hw:WF S) {n:Int} {i:Nat}
theorem Tm.len_pr (a b:Tm):(Tm.pr a b).len=a.len+b.len:=by unfold Tm.len;rw [Tm.txt,g6q]
theorem Tm.len_pw (a:Tm) (k:Nat):(Tm.pw a k).len=k*a.len:=by unfold Tm.len;rw [Tm.txt,qL]
end
structure Spn where
 id:Int
 fr:Nat
 n:Nat
 times:Nat
def zxK:Spn:=⟨0,0,0,0⟩
def zbB (E:List Entr) (s:Spn):List Nat:=rep s.times (sub (tm E s.id).txt s.fr s.n)
def zcc (E:List Entr):List Spn->List Nat
 | []=>[]
 | s::st=>zcc E st++zbB E s
theorem uA (E:List Entr):∀ (st:List Spn) (x:Spn),zcc E (st++[x])=zbB E x++zcc E st
 | [],x=>by simp [zcc]
 | s :: st,x => by
   rw [List.cons_append,zcc,uA E st x,zcc,List.append_assoc]
structure okSp (S:Sto) (d0 p:Nat) (s:Spn):Prop where
 known:known S s.id
 fit:s.fr+s.n<=(tm S.E s.id).len
 tim:s.times=1∨(s.fr=0/\s.n=(tm S.E s.id).len)
 big:s.times<=1152921504606846976
 pos:p+2*(tm S.E s.id).dep<=2*d0
def okSt (S:Sto) (d0:Nat) (st:List Spn):Prop:=∀ p,p<st.length->okSp S d0 p (st.getD p zxK)
theorem okSt.nil (S:Sto) (d0:Nat):okSt S d0 []:=fun p h=>absurd h (Nat.not_lt_zero p)
theorem okSt.snoc {S:Sto} {d0:Nat} {st:List Spn} {x:Spn} (h:okSt S d0 st) (hx:okSp S d0 st.length x):okSt S d0 (st++[x]):=fun p hp=>by
 rw [g6q] at hp
 simp only [List.length_cons,List.length_nil] at hp
 by_cases hl:p<st.length
 ·rw [qY hl];exact h p hl
 ·have:p=st.length:=by omega
  subst this
  rw [jH rfl];exact hx
theorem okSt.init {S:Sto} {d0:Nat} {st:List Spn} {x:Spn} (h:okSt S d0 (st++[x])):okSt S d0 st:=fun p hp=>by
 have:=h p (by simp;omega)
 rwa [qY hp] at this
theorem okSt.last {S:Sto} {d0:Nat} {st:List Spn} {x:Spn} (h:okSt S d0 (st++[x])):okSp S d0 st.length x:=by
 have:=h st.length (by simp)
 rwa [jH rfl] at this
theorem okSt.len {S:Sto} {d0:Nat} {st:List Spn} (h:okSt S d0 st):st.length<=2*d0+1:=by
 by_cases h0:st.length=0
 ·omega
 ·have:=(h (st.length - 1) (by omega)).pos
  omega
def zpZ (E:List Entr) (s:Spn):Nat:=4 ^ (tm E s.id).dep
def js (E:List Entr):List Spn->Nat
 | []=>0
 | s::st=>zpZ E s+js E st
theorem kX (E:List Entr):∀ (s t:List Spn),js E (s++t)=js E s+js E t
 | [],t=>by simp [js]
 | x::s,t=>by rw [List.cons_append,js,kX E s t,js];omega
theorem zvJ (E:List Entr) (s:Spn):0<zpZ E s:=Nat.pow_pos (by decide)
theorem zsK {d d':Nat} (h:d<d'):4*4 ^ d<=4 ^ d':=by
 rw [←Nat.pow_succ']
 exact Nat.pow_le_pow_right (by decide) h
def jf (r:Rul) (left:Nat) (x:Spn):List Spn :=
 [⟨r.b,x.fr - left,x.n - min (left - x.fr) x.n,1⟩,⟨r.a,min x.fr left,min (left - x.fr) x.n,1⟩]
def xy (r:Rul) (left:Nat) (x:Spn):List Spn :=
 if x.fr%left+x.n<=left then [⟨r.a,x.fr%left,x.n,1⟩]
 else [⟨r.a,0,(x.n - (left - x.fr%left)%left)%left,1⟩,⟨r.a,0,left,(x.n - (left - x.fr%left)%left)/left⟩,⟨r.a,x.fr%left,(left - x.fr%left)%left,1⟩]
theorem zvK {S:Sto} (hw:WF S) {d0:Nat} {st:List Spn} {x:Spn} (h:okSt S d0 (st++[x])) (h1:x.times=1) (hid:1<=x.id) (hk:(atE S.E x.id).r.k=2) :
 okSt S d0 (st++jf (atE S.E x.id).r (tm S.E (atE S.E x.id).r.a).len x)/\zcc S.E (st++jf (atE S.E x.id).r (tm S.E (atE S.E x.id).r.a).len x)=zbB S.E x++zcc S.E st /\
 js S.E (st++jf (atE S.E x.id).r (tm S.E (atE S.E x.id).r.a).len x)<js S.E (st++[x]):=by
 have hx:=h.last
 have hi:=h.init
 obtain ⟨k1,k2⟩:=hx.known
 have hfit:=hx.fit
 have hpos:=hx.pos
 rcases hw.below hid k2 with ⟨hk',_⟩|⟨_,ht,a1,a2,b1,b2⟩|⟨hk',_⟩
 ·omega
 ·generalize (atE S.E x.id).r=r at *
  rw [ht,Tm.len_pr] at hfit
  have hd:(tm S.E x.id).dep=1+max (tm S.E r.a).dep (tm S.E r.b).dep:=by rw [ht];rfl
  have e:st++jf r (tm S.E r.a).len x=(st++[⟨r.b,x.fr - (tm S.E r.a).len,x.n - min ((tm S.E r.a).len - x.fr) x.n,1⟩])++[⟨r.a,min x.fr (tm S.E r.a).len,min ((tm S.E r.a).len - x.fr) x.n,1⟩]:=by simp [jf]
  refine ⟨?_,?_,?_⟩
  ·rw [e]
   refine (hi.snoc ⟨⟨by dsimp only;omega,by dsimp only;omega⟩,by dsimp only;omega,.inl rfl,by dsimp only;omega,by dsimp only;omega⟩).snoc ⟨⟨by dsimp only;omega,by dsimp only;omega⟩,by dsimp only;omega,.inl rfl,by dsimp only;omega,?_⟩
   rw [g6q]
   simp only [List.length_cons,List.length_nil]
   omega
  ·rw [e,uA,uA,←List.append_assoc]
   congr 1
   unfold zbB
   rw [h1,ht,Tm.txt]
   simp only [xM]
   unfold Tm.len at hfit
   rw [zvI (by unfold Tm.len at *;exact hfit)]
   rfl
  ·rw [kX,kX]
   simp only [jf,js,zpZ,hd]
   have q1:=zsK (d:=(tm S.E r.a).dep) (d':=1+max (tm S.E r.a).dep (tm S.E r.b).dep) (by omega)
   have q2:=zsK (d:=(tm S.E r.b).dep) (d':=1+max (tm S.E r.a).dep (tm S.E r.b).dep) (by omega)
   have q3:0<4 ^ (tm S.E r.a).dep:=Nat.pow_pos (by decide)
   omega
 ·omega
theorem ztZ {S:Sto} (hw:WF S) {d0:Nat} {st:List Spn} {x:Spn} (h:okSt S d0 (st++[x])) (h1:x.times=1) (hn:0<x.n) (hid:1<=x.id) (hk:(atE S.E x.id).r.k=3) :
 okSt S d0 (st++xy (atE S.E x.id).r (tm S.E (atE S.E x.id).r.a).len x)/\zcc S.E (st++xy (atE S.E x.id).r (tm S.E (atE S.E x.id).r.a).len x)=zbB S.E x++zcc S.E st /\
 js S.E (st++xy (atE S.E x.id).r (tm S.E (atE S.E x.id).r.a).len x)<js S.E (st++[x]):=by
 have hx:=h.last
 have hi:=h.init
 obtain ⟨k1,k2⟩:=hx.known
 have hfit:=hx.fit
 have hpos:=hx.pos
 have hlen:=hw.le k2
 rcases hw.below hid k2 with ⟨hk',_⟩|⟨hk',_⟩|⟨_,ht,a1,a2,t2⟩
 ·omega
 ·omega
 ·have hp:=hw.pos1 a1 (by omega)
  generalize (atE S.E x.id).r=r at *
  rw [ht,Tm.len_pw] at hfit
  have hl2:r.t.toNat*(tm S.E r.a).len<=LM:=by rw [ht,Tm.len_pw] at hlen;exact hlen
  have hd:(tm S.E x.id).dep=1+(tm S.E r.a).dep:=by rw [ht];rfl
  have hmod:=Nat.mod_lt x.fr (show 0<(tm S.E r.a).len by omega)
  unfold xy
  generalize hL:(tm S.E r.a).len=L at *
  have hxn:x.n<=1152921504606846976:=by unfold LM at hl2;omega
  have htx:zbB S.E x=sub (rep r.t.toNat (tm S.E r.a).txt) x.fr x.n:=by
   unfold zbB
   rw [h1,xM,ht,Tm.txt]
  have hLt:(tm S.E r.a).txt.length=L:=hL
  have q3:0<4 ^ (tm S.E r.a).dep:=Nat.pow_pos (by decide)
  have q1:=zsK (d:=(tm S.E r.a).dep) (d':=1+(tm S.E r.a).dep) (by omega)
  split
  ·rename_i hin
   refine ⟨?_,?_,?_⟩
   ·exact hi.snoc ⟨⟨by dsimp only;omega,by dsimp only;omega⟩,by dsimp only;rw [hL];exact hin,.inl rfl,by dsimp only;omega,by dsimp only;omega⟩
   ·rw [uA,htx]
    congr 1
    unfold zbB
    rw [xM,zsJ (by rw [hLt];omega) (by rw [hLt];exact hfit) (by rw [hLt];exact hin) hn,hLt]
   ·rw [kX,kX]
    simp only [js,zpZ,hd]
    omega
  ·rename_i hout
   have m1:=Nat.mod_lt (x.n - (L - x.fr%L)%L) (show 0<L by omega)
   have m2:=Nat.mod_lt (L - x.fr%L) (show 0<L by omega)
   have m3:(x.n - (L - x.fr%L)%L)/L<=x.n - (L - x.fr%L)%L:=Nat.div_le_self _ _
   have m4:x.fr%L+(L - x.fr%L)%L<=L:=by
    by_cases h0:x.fr%L=0
    ·rw [h0,Nat.zero_add,Nat.sub_zero,Nat.mod_self];exact Nat.zero_le _
    ·rw [Nat.mod_eq_of_lt (show L - x.fr%L<L by omega)];omega
   generalize hA:(x.n - (L - x.fr%L)%L)%L=A at *
   generalize hB:(x.n - (L - x.fr%L)%L)/L=B at *
   generalize hC:(L - x.fr%L)%L=C at *
   have e:st++[(⟨r.a,0,A,1⟩:Spn),⟨r.a,0,L,B⟩,⟨r.a,x.fr%L,C,1⟩]=((st++[(⟨r.a,0,A,1⟩:Spn)])++[⟨r.a,0,L,B⟩])++[⟨r.a,x.fr%L,C,1⟩]:=by simp
   refine ⟨?_,?_,?_⟩
   ·rw [e]
    refine ((hi.snoc ⟨⟨by dsimp only;omega,by dsimp only;omega⟩,by dsimp only;omega,.inl rfl,by dsimp only;omega,by dsimp only;omega⟩).snoc ⟨⟨by dsimp only;omega,by dsimp only;omega⟩,by dsimp only;omega,.inr ⟨rfl,hL.symm⟩,by dsimp only;omega,?_⟩).snoc ⟨⟨by dsimp only;omega,by dsimp only;omega⟩,by dsimp only;omega,.inl rfl,by dsimp only;omega,?_⟩
    ·simp only [g6q,List.length_cons,List.length_nil];omega
    ·simp only [g6q,List.length_cons,List.length_nil];omega
   ·rw [e,uA,uA,uA,htx]
    unfold zbB
    simp only [xM]
    rw [zqT (by rw [hLt];omega) (by rw [hLt];exact hfit) (by rw [hLt];omega),hLt,hC,hA,hB]
    have:sub (tm S.E r.a).txt 0 L=(tm S.E r.a).txt:=by rw [←hLt,zmt]
    rw [this]
    simp only [List.append_assoc]
   ·rw [kX,kX]
    simp only [js,zpZ,hd]
    omega
end
section
open Go.EG
attribute [local irreducible] z8 yN Go.Calls
set_option maxRecDepth 20000
set_option maxHeartbeats 2000000
abbrev zmv (x:Spn):List Value:=[.int .i64 x.id,.int .i64 x.fr,.int .i64 x.n,.int .i64 x.times]
def xH (l:List Spn):List Value:=l.flatMap zmv
theorem zer:∀ g:List Spn,(xH g).length=g.length*4
 | []=>rfl
 | x :: g => by
   have:=zer g
   simp only [xH,List.flatMap_cons,g6q,List.length_cons,List.length_nil] at this ⊢
   omega
theorem zbC (g h:List Spn):xH g++xH h=xH (g++h):=by simp [xH]
theorem zsL (g:List Spn) (x:Spn):((xH (g++[x])).drop (g.length*4)).take 4=zmv x:=by
 rw [←zbC,←zer,List.drop_left];rfl
theorem zsM (g:List Spn) (x:Spn):(xH (g++[x])).take (g.length*4)=xH g:=by
 rw [←zbC,←zer,List.take_left]
theorem zqU (r:Rul) (left:Nat) (x:Spn) (hl:left<=LM) (hf:x.fr<=LM) (hn:x.n<=LM) (st:List Spn) (hst:st.length<=4194304) (a:Option Addr) (c:Nat) (fp:List Nat) (w:World)
 (hR:R w fp [.own 500 a st.length c z7 4 (xH st)] w) :
 Calls Tryz.prog zbw #[.slice a st.length c,ruV r,.int .i64 left,.agg (zmv x).toArray] w fun e w'=>∃ a' c',e=.returned (.slice a' (st.length+2) c')/\R w fp [.own 500 a' (st.length+2) c' z7 4 (xH (st++jf r left x))] w':=by
 refine (jF [.sl 500 a st.length c,.v (ruV r),.v (.int .i64 left),.v (.agg (zmv x).toArray)] zlm (by simp) hR (K:=fun v L'=>∃ a' c',v=.slice a' (st.length+2) c'/\Ref w fp L' [.own 500 a' (st.length+2) c' z7 4 (xH (st++jf r left x))]) ?_).mono fun e w' ⟨v,L',he,hR2,a',c',hv,href⟩=>⟨a',c',by rw [he,hv],href w' hR2⟩
 unfold LM at hl hf hn
 have c1:=zjl ((left:Int) - x.fr) 0 x.n
 have q1:(if (left:Int) - x.fr<0 then 0 else if (left:Int) - x.fr>x.n then (x.n:Int) else (left:Int) - x.fr)=((min (left - x.fr) x.n:Nat):Int):=by
  split
  ·omega
  ·split<;>omega
 rw [q1] at c1
 have q2:max ((x.fr:Int) - left) 0=((x.fr - left:Nat):Int):=by omega
 have q3:(x.n:Int) - ((min (left - x.fr) x.n:Nat):Int)=((x.n - min (left - x.fr) x.n:Nat):Int):=by omega
 have q4:min (x.fr:Int) left=((min x.fr left:Nat):Int):=by omega
 have hsn:xH st++[.int .i64 r.b,.int .i64 (x.fr - left:Nat),.int .i64 (x.n - min (left - x.fr) x.n:Nat),.int .i64 1,.int .i64 r.a,.int .i64 (min x.fr left:Nat),.int .i64 (min (left - x.fr) x.n:Nat),.int .i64 1]=xH (st++jf r left x):=by
  rw [←zbC];rfl
 (repeat' ((conv=>whnf);first|(first|refine puK c1 ?_|refine quK c1 ?_)|rw [q2]|rw [q3]|rw [q4]|rw [hsn]|((first|apply zb|apply za|apply zc)<;>intro h<;>try (exfalso;omega))|refine pay ?_|refine And.intro (by first|exact ⟨by unfold maxLen;omega,by omega⟩) ?_|intro _));(all_goals (conv=>whnf))
 rename_i a' c'
 exact ⟨a',c',rfl,Thin.ref (by first|exact .skip (.skip (.skip (.own rfl rfl (.nil _))))|exact .skip (.skip (.own rfl rfl (.nil _))))⟩
theorem zp0 (r:Rul) (left:Nat) (x:Spn) (h0:0<left) (hl:left<=LM) (hf:x.fr<=LM) (hn:x.n<=LM) (st:List Spn) (hst:st.length<=4194304) (a:Option Addr) (c:Nat) (fp:List Nat) (w:World)
 (hR:R w fp [.own 500 a st.length c z7 4 (xH st)] w) :
 Calls Tryz.prog zaQ #[.slice a st.length c,ruV r,.int .i64 left,.agg (zmv x).toArray] w fun e w'=>∃ a' c',e=.returned (.slice a' (st.length+(xy r left x).length) c')/\R w fp [.own 500 a' (st.length+(xy r left x).length) c' z7 4 (xH (st++xy r left x))] w':=by
 refine (jF [.sl 500 a st.length c,.v (ruV r),.v (.int .i64 left),.v (.agg (zmv x).toArray)] zke (by simp) hR (K:=fun v L'=>∃ a' c',v=.slice a' (st.length+(xy r left x).length) c'/\Ref w fp L' [.own 500 a' (st.length+(xy r left x).length) c' z7 4 (xH (st++xy r left x))]) ?_).mono fun e w' ⟨v,L',he,hR2,a',c',hv,href⟩=>⟨a',c',by rw [he,hv],href w' hR2⟩
 unfold LM at hl hf hn
 have q1:(x.fr:Int)%(left:Int)=((x.fr%left:Nat):Int):=by omega
 have hm:=Nat.mod_lt x.fr h0
 have hs:=zbC st (xy r left x)
 by_cases hin:x.fr%left+x.n<=left
 ·have hd:xy r left x=[⟨r.a,x.fr%left,x.n,1⟩]:=if_pos hin
  rw [hd] at hs ⊢
  have hsn:xH st++[.int .i64 r.a,.int .i64 (x.fr%left:Nat),.int .i64 x.n,.int .i64 1]=xH (st++[⟨r.a,x.fr%left,x.n,1⟩]):=hs
  (repeat' ((conv=>whnf);first|rw [q1]|rw [hsn]|((first|apply zb|apply za|apply zc)<;>intro h<;>try (exfalso;omega))|refine pay ?_|refine And.intro (by first|exact ⟨by omega,by omega,by omega⟩|exact ⟨by unfold maxLen;omega,by omega⟩) ?_|intro _));(all_goals (conv=>whnf))
  rename_i a' c'
  exact ⟨a',c',rfl,Thin.ref (.skip (.skip (.skip (.own rfl rfl (.nil _)))))⟩
 ·have hd:xy r left x=[⟨r.a,0,(x.n - (left - x.fr%left)%left)%left,1⟩,⟨r.a,0,left,(x.n - (left - x.fr%left)%left)/left⟩,⟨r.a,x.fr%left,(left - x.fr%left)%left,1⟩]:=if_neg hin
  rw [hd] at hs ⊢
  have hm2:=Nat.mod_lt (left - x.fr%left) h0
  have hm3:(left - x.fr%left)%left<=x.n:=by
   have:=Nat.mod_le (left - x.fr%left) left
   omega
  have q2:((left:Int) - ((x.fr%left:Nat):Int))%(left:Int)=(((left - x.fr%left)%left:Nat):Int):=by
   rw [←Int.ofNat_sub (by omega)];exact (Int.natCast_emod _ _).symm
  generalize (left - x.fr%left)%left=hd' at *
  have q3:(x.n:Int) - (hd':Int)=((x.n - hd':Nat):Int):=by omega
  have q4:((x.n - hd':Nat):Int)%(left:Int)=(((x.n - hd')%left:Nat):Int):=(Int.natCast_emod _ _).symm
  have q5:((x.n - hd':Nat):Int)/(left:Int)=(((x.n - hd')/left:Nat):Int):=(Int.natCast_ediv _ _).symm
  have hsn:xH st++[.int .i64 r.a,.int .i64 0,.int .i64 ((x.n - hd')%left:Nat),.int .i64 1,.int .i64 r.a,.int .i64 0,.int .i64 left,.int .i64 ((x.n - hd')/left:Nat),.int .i64 r.a,.int .i64 (x.fr%left:Nat),.int .i64 hd',.int .i64 1]=xH (st++[⟨r.a,0,(x.n - hd')%left,1⟩,⟨r.a,0,left,(x.n - hd')/left⟩,⟨r.a,x.fr%left,hd',1⟩]):=hs
  (repeat' ((conv=>whnf);first|rw [q1]|rw [q2]|rw [q3]|rw [q4]|rw [q5]|rw [hsn]|((first|apply zb|apply za|apply zc)<;>intro h<;>try (exfalso;omega))|refine pay ?_|refine And.intro (by first|exact ⟨by omega,by omega,by omega⟩|exact ⟨by unfold maxLen;omega,by omega⟩) ?_|intro _));(all_goals (conv=>whnf))
  rename_i a' c'
  exact ⟨a',c',rfl,Thin.ref (.skip (.skip (.skip (.own rfl rfl (.nil _)))))⟩
def zv6 (S:Sto) (b:Nat) (N:Nat) (vf:Nat) (cap:List Value) {β:Type} (fV:List Nat->β->List Ent):Prop :=
 ∀ (acc : List Nat) (x : Int) (k : Nat),1 <= x -> x <= S.E.length -> 1 <= k -> (acc ++ rep k (tm S.E x).txt).length <= N ->
   ∀ (fp1 fp2 : List Nat) (w : World),R w (fp1 ++ fp2) [packE 90 fp1 (fV acc),packE 77 fp2 (fS b S)] w ->
     Calls Tryz.prog vf ([Value.int .i64 x,.int .i64 k]++cap).toArray w fun e w'=>∃ v L1,e=.returned v/\R w (fp1++fp2) L1 w'/\v=.nilIface/\∃ fp1' fp2',L1=[packE 90 fp1' (fV (acc++rep k (tm S.E x).txt)),packE 77 fp2' (fS b S)]
structure ParG where
 st:List Spn
 acc:List Nat
 a:Option Addr
 c:Nat
 fp1:List Nat
 fp2:List Nat
theorem zqV (b:Nat) (S:Sto) (hw:WF S) (n:Int) (i m:Nat) (hk:known S n) (hfit:i+m<=(tm S.E n).len) (vf:Nat) (cap:List Value) {β:Type} (fV:List Nat->β->List Ent) (N:Nat) (hN:m<=N) (hok:zjz Tryz.prog vf=true) (hv:zv6 S b N vf cap fV)
 (fp1 fp2:List Nat) (w:World) (hR:R w (fp1++fp2) [packE 90 fp1 (fV []),packE 77 fp2 (fS b S)] w) :
 Calls Tryz.prog zbu #[pS b,.int .i64 n,.int .i64 i,.int .i64 m,.func (.func vf) #[] cap.toArray] w fun e w'=>∃ v L1,e=.returned v/\R w (fp1++fp2) L1 w'/\v=.nilIface/\∃ fp1' fp2',L1=[packE 90 fp1' (fV (sub (tm S.E n).txt i m)),packE 77 fp2' (fS b S)]:=by
 refine zf [.v (pS b),.v (.int .i64 n),.v (.int .i64 i),.v (.int .i64 m),.v (.func (.func vf) #[] cap.toArray)] zlo (by simp) hR ?_
 have hsm:=hw.small
 have hlen:=hw.le hk.2
 have hdep:=hw.dep hk.2
 generalize hT:sub (tm S.E n).txt i m=T at *
 have hTl:T.length=m:=by rw [←hT];exact zly hfit
 (repeat' ((conv=>whnf);first|((first|apply zb|apply za|apply zc)<;>intro h<;>try (exfalso;omega))|refine pay ?_|intro _));(all_goals (conv=>whnf))
 rename_i b22
 refine zP ParG (fun x=>[(0,.v (pS b)),(4,.v (.func (.func vf) #[] cap.toArray)),(11,.sl 500 x.a x.st.length x.c)]) (fun x=>[.own 500 x.a x.st.length x.c z7 4 (xH x.st),packE 90 x.fp1 (fV x.acc),packE 77 x.fp2 (fS b S)])
  (fun x=>okSt S (tm S.E n).dep x.st/\x.acc++zcc S.E x.st=T) (fun x=>js S.E x.st) ⟨[⟨n,i,m,1⟩],[],some ⟨b22,0,none⟩,1,fp1,fp2⟩ ⟨?_,?_⟩ (by (repeat ((conv=>whnf);refine vS ?_));exact trivial) (Thin.ref (.own rfl rfl (.refl _))) ?_
 ·exact (okSt.nil S _).snoc (st:=[]) ⟨hk,hfit,.inl rfl,by dsimp only;omega,by dsimp only [List.length_nil];omega⟩
 ·simp only [zcc,zbB,List.nil_append]
  rw [xM];exact hT
 rintro ⟨st,acc,a,c,fp1,fp2⟩ ⟨h1,h2⟩
 dsimp only at h1 h2 ⊢
 rcases List.eq_nil_or_concat st with rfl|⟨s,x,rfl⟩
 ·rw [zcc,List.append_nil] at h2
  subst h2
  (repeat' ((conv=>whnf);first|((first|apply zb|apply za|apply zc)<;>intro h<;>try (exfalso;omega))|refine pay ?_|intro _));(all_goals (conv=>whnf))
  exact ⟨⟨[packE 90 fp1 (fV acc),packE 77 fp2 (fS b S)],Thin.ref (.skip (.refl _)),rfl,fp1,fp2,rfl⟩⟩
 rw [List.concat_eq_append] at h1 h2 ⊢
 have hx:=h1.last
 have hi:=h1.init
 have hsl:=h1.len
 have hle:(s++[x]).length=s.length+1:=by simp
 have hidx:(((s++[x]).length:Int) - 1).toNat=s.length:=by omega
 have hlast:=zsL s x
 have htk:=zsM s x
 rw [uA] at h2
 have hwk:js S.E s<js S.E (s++[x]):=by
  rw [kX]
  have:=zvJ S.E x
  simp only [js];omega
 have hkx:=hx.known
 have hfx:=hx.fit
 have hlx:=hw.le hkx.2
 by_cases hz:x.n=0∨x.times=0
 ·have he:zbB S.E x=[]:=by
   unfold zbB
   rcases hz with h|h
   ·rw [h,sub_zero];simp [rep]
   ·rw [h];rfl
  rw [he,List.nil_append] at h2
  (repeat' ((conv=>whnf);first|rw [hidx]|rw [htk]|refine ue hlast ?_|((first|apply zb|apply za|apply zc)<;>intro h<;>try (exfalso;omega))|refine pay ?_|intro _));(all_goals (conv=>whnf))
  all_goals first|(exfalso;omega)|exact zm ⟨s,acc,a,c,fp1,fp2⟩ ⟨hi,h2⟩ hwk (by (repeat ((conv=>whnf);refine vS ?_));exact trivial) (Thin.ref (.skip (.own rfl rfl (.refl _))))
 have c1:=yd b S x.id hsm
 rw [vj hkx] at c1
 have hid:1<=x.id:=by
  have:=hkx.1
  by_cases h0:x.id=0
  ·rw [h0,zri] at hfx;simp [Tm.len,Tm.txt] at hfx;omega
  ·omega
 by_cases hall:x.n=(tm S.E x.id).len
 ·have he:zbB S.E x=rep x.times (tm S.E x.id).txt:=by
   unfold zbB
   rw [show x.fr=0 by omega,hall,Tm.len,zmt]
  rw [he,←List.append_assoc] at h2
  have hN2:(acc++rep x.times (tm S.E x.id).txt).length<=N:=by
   have:=congrArg List.length h2
   rw [g6q,hTl] at this
   omega
  have c2:=hv acc x.id x.times hid hkx.2 (by omega) hN2
  have hall':(x.n:Int)=((tm S.E x.id).txt.length:Nat):=by rw [hall];rfl
  (repeat' ((conv=>whnf);first|rw [hidx]|rw [htk]|refine ue hlast ?_|refine SC.go 77 c1 rfl fun fp'=>?_|refine And.intro hok ?_|(refine zZ (key1:=90) (key2:=77) rfl rfl (fun w hR h0=>c2 _ _ _ h0) ?_;rintro _ _ ⟨rfl,fp1',fp2',rfl⟩;refine ⟨.v _,rfl,?_⟩)|((first|apply zb|apply za|apply zc)<;>intro h<;>try (exfalso;omega))|refine pay ?_|intro _));(all_goals (conv=>whnf))
  exact zm ⟨s,acc++rep x.times (tm S.E x.id).txt,a,c,fp1',fp2'⟩ ⟨hi,h2⟩ hwk (by (repeat ((conv=>whnf);refine vS ?_));exact trivial) ((Thin.ref (.keep rfl (fun _ h=>h) (.keep rfl (fun _ h=>h) (.skip (.skip (.own rfl rfl (.nil _)))))):Ref _ _ _ [packE 90 _ _,packE 77 _ _,.own 500 _ _ _ _ _ _]).trans (Ref.perm (.trans (.cons _ (.swap _ _ _)) (.swap _ _ _))))
 ·have ht1:x.times=1:=by
   rcases hx.tim with h|⟨_,h⟩
   ·exact h
   ·exact absurd h hall
  have hnot:¬(x.n:Int)=((tm S.E x.id).txt.length:Nat):=fun h=>hall (by unfold Tm.len;omega)
  have c2:=qZ b S x.id hsm
  rw [yy hid hkx.2] at c2
  have hnl:s.length<=4194304:=by omega
  rcases hw.below hid hkx.2 with ⟨hk1,ht⟩|⟨hk1,ht,a1,a2,b1,b2⟩|⟨hk1,ht,a1,a2,t2⟩
  ·rw [ht] at hall hfx
   simp only [Tm.len,Tm.txt,List.length_cons,List.length_nil] at hall hfx
   omega
  ·obtain ⟨o1,o2,o3⟩:=zvK hw h1 ht1 hid hk1
   have c3:=yd b S (atE S.E x.id).r.a hsm
   rw [vj ⟨by have:=hkx.1;omega,by have:=hkx.2;omega⟩] at c3
   have hla:=hw.le (n:=(atE S.E x.id).r.a) (by have:=hkx.2;omega)
   have c4:=fun a c fp w h=>zqU (atE S.E x.id).r (tm S.E (atE S.E x.id).r.a).len x hla (by omega) (by omega) s hnl a c fp w h
   rw [←o2] at h2
   have hlh:(s++jf (atE S.E x.id).r (tm S.E (atE S.E x.id).r.a).len x).length=s.length+2:=by simp [jf]
   generalize jf (atE S.E x.id).r (tm S.E (atE S.E x.id).r.a).len x=hl at *
   unfold Tm.len at c4
   (repeat' ((conv=>whnf);first|rw [hidx]|rw [htk]|refine ue hlast ?_|refine SC.go 77 c1 rfl fun fp'=>?_|refine SC.go 77 c2 rfl fun fp'=>?_|refine SC.go 77 c3 rfl fun fp'=>?_|refine zmI (key:=500) rfl (fun w hR h0=>c4 _ _ _ _ h0) ?_|((first|apply zb|apply za|apply zc)<;>intro h<;>try (exfalso;omega))|refine pay ?_|intro _));(all_goals (conv=>whnf))
   rename_i a' c'
   exact zm ⟨s++hl,acc,a',c',fp1,fp'⟩ ⟨o1,h2⟩ o3 (by (repeat ((conv=>whnf);refine vS ?_));exact trivial) ((Thin.ref (.skip (.keep rfl (fun _ h=>h) (.skip (.skip (.skip (.own (by rw [g6q] at hlh;simp;try omega) rfl (.keep rfl (fun _ h=>h) (.nil _)))))))):Ref _ _ _ [packE 77 fp' _,.own 500 a' _ c' _ _ _,packE 90 fp1 _]).trans (Ref.perm (.trans (.swap _ _ _) (.cons _ (.swap _ _ _)))))
  ·obtain ⟨o1,o2,o3⟩:=ztZ hw h1 ht1 (by omega) hid hk1
   have hp:=hw.pos1 a1 (by have:=hkx.2;omega)
   have c3:=yd b S (atE S.E x.id).r.a hsm
   rw [vj ⟨by have:=hkx.1;omega,by have:=hkx.2;omega⟩] at c3
   have hla:=hw.le (n:=(atE S.E x.id).r.a) (by have:=hkx.2;omega)
   have c4:=fun a c fp w h=>zp0 (atE S.E x.id).r (tm S.E (atE S.E x.id).r.a).len x hp hla (by omega) (by omega) s hnl a c fp w h
   rw [←o2] at h2
   have hlh:(s++xy (atE S.E x.id).r (tm S.E (atE S.E x.id).r.a).len x).length=s.length+(xy (atE S.E x.id).r (tm S.E (atE S.E x.id).r.a).len x).length:=by simp
   generalize xy (atE S.E x.id).r (tm S.E (atE S.E x.id).r.a).len x=hl at *
   unfold Tm.len at c4
   (repeat' ((conv=>whnf);first|rw [hidx]|rw [htk]|refine ue hlast ?_|refine SC.go 77 c1 rfl fun fp'=>?_|refine SC.go 77 c2 rfl fun fp'=>?_|refine SC.go 77 c3 rfl fun fp'=>?_|refine zmI (key:=500) rfl (fun w hR h0=>c4 _ _ _ _ h0) ?_|((first|apply zb|apply za|apply zc)<;>intro h<;>try (exfalso;omega))|refine pay ?_|intro _));(all_goals (conv=>whnf))
   rename_i a' c'
   exact zm ⟨s++hl,acc,a',c',fp1,fp'⟩ ⟨o1,h2⟩ o3 (by (repeat ((conv=>whnf);refine vS ?_));exact trivial) ((Thin.ref (.skip (.keep rfl (fun _ h=>h) (.skip (.skip (.skip (.own (by rw [g6q] at hlh;simp;try omega) rfl (.keep rfl (fun _ h=>h) (.nil _)))))))):Ref _ _ _ [packE 77 fp' _,.own 500 a' _ c' _ _ _,packE 90 fp1 _]).trans (Ref.perm (.trans (.swap _ _ _) (.cons _ (.swap _ _ _)))))
set_option maxHeartbeats 4000000
theorem za4 {w0:World} {fp0:List Nat} {L Lr:List Ent} {e:Ent} (key:Nat) (h:zax key L=some (e,Lr)):Ref w0 fp0 L (e::Lr):=Ref.perm (j5 h)
def byC (t:List Nat):List Value:=t.map fun x:Nat=>Value.int .u8 (x:Int)
theorem zhr (t:List Nat):(byC t).length=t.length:=by simp [byC]
theorem zdD (s t:List Nat):byC s++byC t=byC (s++t):=by simp [byC]
theorem zt0 (t:List Nat):yq (byC t):=by
 induction t with
 | nil=>exact trivial
 | cons x t ih=>exact ⟨trivial,ih⟩
abbrev cpC (x:Int × Nat):List Value:=[.int .i64 x.1,.int .i64 x.2]
def kF (l:List (Int × Nat)):List Value:=l.flatMap cpC
theorem jm:∀ g:List (Int × Nat),(kF g).length=g.length*2
 | []=>rfl
 | x :: g => by
   have:=jm g
   simp only [kF,List.flatMap_cons,g6q,List.length_cons,List.length_nil] at this ⊢
   omega
theorem vZ (g h:List (Int × Nat)):kF g++kF h=kF (g++h):=by simp [kF]
theorem zt1 (g:List (Int × Nat)) (x:Int × Nat):(kF (g++[x])).take (g.length*2)=kF g:=by
 rw [←vZ,←jm,List.take_left]
theorem zvL (g:List (Int × Nat)) (x:Int × Nat):(kF (g++[x]))[g.length*2]?=some (.int .i64 x.1):=by
 rw [←vZ,←jm,List.getElem?_append_right (Nat.le_refl _),Nat.sub_self];rfl
theorem zp1 (g:List (Int × Nat)) (x:Int × Nat):(kF (g++[x]))[g.length*2+1]?=some (.int .i64 x.2):=by
 rw [←vZ,←jm,List.getElem?_append_right (by omega),show (kF g).length+1 - (kF g).length=1 by omega];rfl
theorem zvM (g:List (Int × Nat)) (x:Int × Nat) (n:Nat):zD (kF (g++[x])) (g.length*2+1) [.int .i64 n]=kF (g++[(x.1,n)]):=by
 rw [←vZ,←vZ,←jm]
 unfold zD
 rw [List.take_append,List.take_of_length_le (by omega),show (kF g).length+1 - (kF g).length=1 by omega,List.drop_append,List.drop_eq_nil_of_le (by simp;omega)]
 rw [show (kF g).length+1+[Value.int .i64 (n:Int)].length - (kF g).length=2 by simp;omega]
 simp [kF]
def xE (E:List Entr):List (Int × Nat)->List Nat
 | []=>[]
 | x::st=>xE E st++rep x.2 (tm E x.1).txt
theorem uc (E:List Entr):∀ (s t:List (Int × Nat)),xE E (s++t)=xE E t++xE E s
 | [],t=>by simp [xE]
 | x::s,t=>by rw [List.cons_append,xE,uc E s t,xE,List.append_assoc]
def wkT:Tm->Nat
 | .nil=>0
 | .lt _=>1
 | .pr a b=>1+wkT a+wkT b
 | .pw a k=>1+k*wkT a
def wkC (E:List Entr):List (Int × Nat)->Nat
 | []=>0
 | x::st=>x.2*wkT (tm E x.1)+wkC E st
theorem zal (E:List Entr):∀ (s t:List (Int × Nat)),wkC E (s++t)=wkC E s+wkC E t
 | [],t=>by simp [wkC]
 | x::s,t=>by rw [List.cons_append,wkC,zal E s t,wkC];omega
def okCp (S:Sto) (st:List (Int × Nat)):Prop:=∀ x∈st,1<=x.1/\x.1<=S.E.length/\1<=x.2
theorem okCp.snoc {S:Sto} {st:List (Int × Nat)} {x:Int × Nat} (h:okCp S st) (hx:1<=x.1/\x.1<=S.E.length/\1<=x.2):okCp S (st++[x]):=fun y hy=>by
 rcases List.mem_append.1 hy with hy|hy
 ·exact h y hy
 ·have:y=x:=by simpa using hy
  rw [this];exact hx
theorem okCp.init {S:Sto} {st:List (Int × Nat)} {x:Int × Nat} (h:okCp S (st++[x])):okCp S st:=fun y hy=>h y (List.mem_append_left _ hy)
theorem okCp.last {S:Sto} {st:List (Int × Nat)} {x:Int × Nat} (h:okCp S (st++[x])):1<=x.1/\x.1<=S.E.length/\1<=x.2:=h x (by simp)
theorem okCp.len {S:Sto} (hw:WF S):∀ {st:List (Int × Nat)},okCp S st->st.length<=(xE S.E st).length
 | [],_=>Nat.zero_le _
 | x :: st,h => by
   have ih:=okCp.len hw (st:=st) fun y hy=>h y (g4q _ hy)
   obtain ⟨h1,h2,h3⟩:=h x g5q
   have hp:=hw.pos1 h1 h2
   unfold Tm.len at hp
   rw [xE,g6q,qL,List.length_cons]
   have:1*1<=x.2*(tm S.E x.1).txt.length:=Nat.mul_le_mul h3 hp
   omega
theorem zxL {w0:World} {fp0:List Nat} {L:List Ent} (key bk:Nat) {n c T i m:Nat} {xs ys:List Value} (h:zL key L=some ⟨some ⟨bk,0,none⟩,n,c,T,1,xs⟩) (hi:i<c) (hy:(xs.drop i).take m=ys) (hm:m=ys.length):RdS w0 fp0 L (xc (some ⟨bk,0,none⟩) c i 1) (m*1) ys:=by
 refine ⟨by rw [Nat.mul_one,hm],?_⟩
 by_cases h0:ys=[]
 ·exact .inl h0
 ·refine .inr fun w hR=>⟨bk,i,?_,fun j v hv=>?_⟩
  ·unfold xc
   rw [if_neg (by omega),Nat.mul_one]
   simp [Addr.add]
   try omega
  ·have hx:xs[i+j]?=some v:=by
    rw [←hy,List.getElem?_take] at hv
    split at hv
    ·simpa using hv
    ·cases hv
   obtain ⟨g,ha,hc⟩:=kz hR h hx
   simp only [g3q,Addr.mk.injEq,and_true] at ha
   subst ha
   exact hc
structure XpG where
 acc:List Nat
 st:List (Int × Nat)
 a:Option Addr
 c:Nat
 fp:List Nat
theorem zqW (b:Nat) (S:Sto) (hw:WF S) (x:Int) (h1:1<=x) (h2:x<=S.E.length) (bt bk c:Nat) (hc:c<=65536) (acc:List Nat) (hfit:(acc++(tm S.E x).txt).length<=c) (fp fps:List Nat) (w:World)
 (hR:R w fp [packE 77 fps (fS b S),.box 13 bt [.slice (some ⟨bk,0,none⟩) acc.length c] xX,.own 35 (some ⟨bk,0,none⟩) acc.length c kE 1 (byC acc)] w) :
 Calls Tryz.prog zbv #[pS b,.int .i64 x,.pointer (some ⟨bt,0,none⟩)] w fun e w'=>∃ v L1,e=.returned v/\R w fp L1 w'/\v=.nilIface/\∃ fp',L1=[packE 77 fp' (fS b S),.box 13 bt [.slice (some ⟨bk,0,none⟩) (acc++(tm S.E x).txt).length c] xX,.own 35 (some ⟨bk,0,none⟩) (acc++(tm S.E x).txt).length c kE 1 (byC (acc++(tm S.E x).txt))]:=by
 refine zf [.v (pS b),.v (.int .i64 x),.ptr 13 bt 0] zlr (by simp) hR ?_
 have hsm:=hw.small
 generalize hT:acc++(tm S.E x).txt=T at *
 (repeat' ((conv=>whnf);first|((first|apply zb|apply za|apply zc)<;>intro h<;>try (exfalso;omega))|refine pay ?_|intro _));(all_goals (conv=>whnf))
 rename_i b14
 refine zP XpG (fun y=>[(0,.v (pS b)),(2,.ptr 13 bt 0),(7,.sl 500 y.a y.st.length y.c)]) (fun y=>[packE 77 y.fp (fS b S),.own 500 y.a y.st.length y.c xT 2 (kF y.st),.box 13 bt [.slice (some ⟨bk,0,none⟩) y.acc.length c] xX,.own 35 (some ⟨bk,0,none⟩) y.acc.length c kE 1 (byC y.acc)])
  (fun y=>okCp S y.st/\y.acc++xE S.E y.st=T) (fun y=>wkC S.E y.st) ⟨acc,[(x,1)],some ⟨b14,0,none⟩,1,fps⟩ ⟨?_,?_⟩ (by (repeat ((conv=>whnf);refine vS ?_));exact trivial) ((za4 77 rfl).trans (Thin.ref (.keep rfl (fun _ h=>h) (.own rfl rfl (.refl _))))) ?_
 ·intro y hy
  have:y=(x,1):=by simpa using hy
  rw [this];exact ⟨h1,h2,Nat.le_refl _⟩
 ·simp only [xE,List.nil_append]
  rw [xM];exact hT
 rintro ⟨acc,st,a,cc,fpx⟩ ⟨k1,k2⟩
 dsimp only at k1 k2 ⊢
 have hlen:acc.length+(xE S.E st).length=T.length:=by rw [←k2,g6q]
 have hsl:=k1.len hw
 rcases List.eq_nil_or_concat st with rfl|⟨s,y,rfl⟩
 ·rw [xE,List.append_nil] at k2
  subst k2
  (repeat' ((conv=>whnf);first|((first|apply zb|apply za|apply zc)<;>intro h<;>try (exfalso;omega))|refine pay ?_|intro _));(all_goals (conv=>whnf))
  exact ⟨⟨_,Thin.ref (.keep rfl (fun _ h=>h) (.skip (.refl _))),rfl,fpx,rfl⟩⟩
 rw [List.concat_eq_append] at k1 k2 hlen hsl ⊢
 have hsb:(s++[y]).length<=65536:=by omega
 obtain ⟨m,t⟩:=y
 obtain ⟨m1,m2,m3⟩:=k1.last
 have hs:=k1.init
 dsimp only at m1 m2 m3
 obtain ⟨t,rfl⟩:∃ t',t=t'+1:=⟨t - 1,by omega⟩
 have hle:(s++[(m,t+1)]).length=s.length+1:=by simp
 have hidx:(((s++[(m,t+1)]).length:Int) - 1).toNat=s.length:=by omega
 have r1:=zvL s (m,t+1)
 have r2:=zp1 s (m,t+1)
 have r3:=zvM s (m,t+1) t
 have r4:=zp1 s (m,t)
 have r5:=zt1 s (m,t)
 dsimp only at r1 r2 r3 r4 r5
 have e1:((t+1:Nat):Int) - 1=(t:Nat):=by omega
 have hll:s.length*2+1+1<=(kF (s++[(m,t+1)])).length:=by rw [jm,hle];omega
 have c1:=qZ b S m hsm
 rw [yy m1 m2] at c1
 have hpt:xE S.E (s++[(m,t+1)])=(tm S.E m).txt++xE S.E (s++[(m,t)]):=by
  rw [uc,uc]
  simp only [xE,List.nil_append]
  rw [vN,List.append_assoc]
 have hwk:wkC S.E (s++[(m,t+1)])=wkT (tm S.E m)+wkC S.E (s++[(m,t)]):=by
  rw [zal,zal]
  simp only [wkC,Nat.add_mul,Nat.one_mul];omega
 have hpos0:=hw.pos1 m1 m2
 have htb:t<=65536:=by
  have h1:(xE S.E (s++[(m,t+1)])).length=(t+1)*(tm S.E m).len+(xE S.E s).length:=by
   rw [uc,g6q]
   simp only [xE,List.nil_append]
   rw [qL];rfl
  have h2:(t+1)*1<=(t+1)*(tm S.E m).len:=Nat.mul_le_mul_left _ hpos0
  omega
 rw [hpt] at k2 hlen hsl
 rw [g6q] at hlen hsl
 have hpop:t=0->xE S.E (s++[(m,t)])=xE S.E s/\wkC S.E (s++[(m,t)])=wkC S.E s:=fun h=>by
  subst h
  refine ⟨?_,?_⟩
  ·rw [uc];simp [xE,rep]
  ·rw [zal];simp [wkC]
 have hkeep:t≠0->okCp S (s++[(m,t)]):=fun h=>hs.snoc ⟨m1,m2,by show 1<=t;omega⟩
 have hpos:=hw.pos1 m1 m2
 unfold Tm.len at hpos
 obtain ⟨s',hs'1,hs'2,hs'3,hs'4⟩:∃ s',s'=(if t=0 then s else s++[(m,t)])/\okCp S s'/\xE S.E s'=xE S.E (s++[(m,t)])/\wkC S.E s'=wkC S.E (s++[(m,t)]):=by
  by_cases h:t=0
  ·exact ⟨s,by rw [if_pos h],hs,(hpop h).1.symm,(hpop h).2.symm⟩
  ·exact ⟨s++[(m,t)],by rw [if_neg h],hkeep h,rfl,rfl⟩
 rw [←hs'3] at k2 hlen hsl
 rw [←hs'4] at hwk
 have hl2:((s++[(m,t)]).length)=s.length+1:=by simp
 rcases hw.below m1 m2 with ⟨q1,ht⟩|⟨q1,ht,a1,a2,b1,b2⟩|⟨q1,ht,a1,a2,t2⟩
 ·obtain ⟨l,hl⟩:∃ l:Nat,(atE S.E m).r.l=l:=⟨(atE S.E m).r.l.toNat,by have:=(hw.at_ m1 m2).2.1;omega⟩
  rw [hl,g7q] at ht
  rw [ht] at k2 hlen hsl hwk
  simp only [Tm.txt,List.length_cons,List.length_nil] at k2 hlen hsl
  simp only [wkT] at hwk
  have hby:byC acc++[.int .u8 l]=byC (acc++[l]):=zdD acc [l]
  have hal:(acc++[l]).length=acc.length+1:=by simp
  by_cases h:t=0
  ·rw [if_pos h] at hs'1
   subst h hs'1
   (repeat' ((conv=>whnf);first|rw [hidx]|rw [e1]|rw [r3]|rw [r5]|rw [hl]|rw [hby]|refine SC.go 77 c1 rfl fun fp'=>?_|refine zB r1 ?_|refine zB r2 ?_|refine zB r4 ?_|refine ⟨.sl 35 _ _ _,⟨rfl,rfl,rfl,rfl⟩,?_⟩|((first|apply zb|apply za|apply zc)<;>intro h<;>try (exfalso;omega))|refine pay ?_|refine And.intro (by first|exact ⟨rfl,hll⟩|exact ⟨rfl,rfl,rfl,rfl,rfl,by omega,by omega⟩|exact fun _=>Thin.ref (by (repeat (first|exact Thin.nil _|exact Thin.refl _|refine Thin.keep rfl (fun _ h=>h) ?_|refine Thin.skip ?_)))) ?_|intro _));(all_goals (conv=>whnf))
   all_goals try (exfalso;omega)
   all_goals (refine zm ⟨acc++[l],_,a,cc,fp'⟩ ⟨hs'2,by simpa using k2⟩ (by ((try dsimp only);omega)) (by (repeat ((conv=>whnf);refine vS ?_));exact trivial) ((za4 77 rfl).trans (Thin.ref ?_)))
   all_goals (repeat (first|exact Thin.nil _|exact Thin.refl _|refine Thin.keep rfl (fun _ h=>h) ?_|refine Thin.own (by first|rfl|(simp;done)|omega) rfl ?_|refine Thin.box (by first|rfl|(simp;done)) ?_|refine Thin.skip ?_))
  ·rw [if_neg h] at hs'1
   subst hs'1
   (repeat' ((conv=>whnf);first|rw [hidx]|rw [e1]|rw [r3]|refine SC.go 77 c1 rfl fun fp'=>?_|refine zB r1 ?_|refine zB r2 ?_|refine zB r4 ?_|rw [hl]|rw [hby]|refine ⟨.sl 35 _ _ _,⟨rfl,rfl,rfl,rfl⟩,?_⟩|((first|apply zb|apply za|apply zc)<;>intro h<;>try (exfalso;omega))|refine pay ?_|refine And.intro (by first|exact ⟨rfl,hll⟩|exact ⟨rfl,rfl,rfl,rfl,rfl,by omega,by omega⟩|exact fun _=>Thin.ref (by (repeat (first|exact Thin.nil _|exact Thin.refl _|refine Thin.keep rfl (fun _ h=>h) ?_|refine Thin.skip ?_)))) ?_|intro _));(all_goals (conv=>whnf))
   all_goals try (exfalso;omega)
   all_goals (refine zm ⟨acc++[l],_,a,cc,fp'⟩ ⟨hs'2,by simpa using k2⟩ (by ((try dsimp only);omega)) (by (repeat ((conv=>whnf);refine vS ?_));exact trivial) ((za4 77 rfl).trans (Thin.ref ?_)))
   all_goals (repeat (first|exact Thin.nil _|exact Thin.refl _|refine Thin.keep rfl (fun _ h=>h) ?_|refine Thin.own (by first|rfl|(simp;done)|omega) rfl ?_|refine Thin.box (by first|rfl|(simp;done)) ?_|refine Thin.skip ?_))
 ·rw [ht] at k2 hwk
  simp only [Tm.txt,wkT] at k2 hwk
  have hsn:∀ u:List (Int × Nat),kF u++[.int .i64 (atE S.E m).r.b,.int .i64 1,.int .i64 (atE S.E m).r.a,.int .i64 1]=kF (u++[((atE S.E m).r.b,1),((atE S.E m).r.a,1)]):=fun u=>vZ u [((atE S.E m).r.b,1),((atE S.E m).r.a,1)]
  have hok:okCp S (s'++[((atE S.E m).r.b,1),((atE S.E m).r.a,1)]):=by
   have:=(hs'2.snoc (x:=((atE S.E m).r.b,1)) ⟨b1,by dsimp only;omega,Nat.le_refl _⟩).snoc (x:=((atE S.E m).r.a,1)) ⟨a1,by dsimp only;omega,Nat.le_refl _⟩
   simpa using this
  have htx:acc++xE S.E (s'++[((atE S.E m).r.b,1),((atE S.E m).r.a,1)])=T:=by
   rw [uc]
   simp only [xE,xM,List.nil_append,List.append_assoc] at k2 ⊢
   exact k2
  have hmu:wkC S.E (s'++[((atE S.E m).r.b,1),((atE S.E m).r.a,1)])<wkC S.E (s++[(m,t+1)]):=by
   rw [zal,hwk]
   simp only [wkC,Nat.one_mul];omega
  have hul:∀ u:List (Int × Nat),(u++[((atE S.E m).r.b,1),((atE S.E m).r.a,1)]).length=u.length+2:=fun u=>by simp
  by_cases h:t=0
  ·rw [if_pos h] at hs'1
   subst h hs'1
   (repeat' ((conv=>whnf);first|rw [hidx]|rw [e1]|rw [r3]|rw [r5]|refine SC.go 77 c1 rfl fun fp'=>?_|refine zB r1 ?_|refine zB r2 ?_|refine zB r4 ?_|rw [hsn]|((first|apply zb|apply za|apply zc)<;>intro h<;>try (exfalso;omega))|refine pay ?_|refine And.intro (by first|exact ⟨rfl,hll⟩|exact ⟨by unfold maxLen;omega,by omega⟩) ?_|intro _));(all_goals (conv=>whnf))
   all_goals try (exfalso;omega)
   all_goals rename_i a' c'
   all_goals (refine zm ⟨acc,_,a',c',fp'⟩ ⟨hok,htx⟩ hmu (by (repeat ((conv=>whnf);refine vS ?_));exact trivial) ((za4 77 rfl).trans (Thin.ref ?_)))
   all_goals (repeat (first|exact Thin.nil _|exact Thin.refl _|refine Thin.keep rfl (fun _ h=>h) ?_|refine Thin.own (by first|rfl|(simp;done)|omega) rfl ?_|refine Thin.box (by first|rfl|(simp;done)) ?_|refine Thin.skip ?_))
  ·rw [if_neg h] at hs'1
   have hsn':=hsn
   subst hs'1
   (repeat' ((conv=>whnf);first|rw [hidx]|rw [e1]|rw [r3]|refine SC.go 77 c1 rfl fun fp'=>?_|refine zB r1 ?_|refine zB r2 ?_|refine zB r4 ?_|rw [hsn]|((first|apply zb|apply za|apply zc)<;>intro h<;>try (exfalso;omega))|refine pay ?_|refine And.intro (by first|exact ⟨rfl,hll⟩|exact ⟨by unfold maxLen;omega,by omega⟩) ?_|intro _));(all_goals (conv=>whnf))
   all_goals try (exfalso;omega)
   all_goals rename_i a' c'
   all_goals (refine zm ⟨acc,_,a',c',fp'⟩ ⟨hok,htx⟩ hmu (by (repeat ((conv=>whnf);refine vS ?_));exact trivial) ((za4 77 rfl).trans (Thin.ref ?_)))
   all_goals (repeat (first|exact Thin.nil _|exact Thin.refl _|refine Thin.keep rfl (fun _ h=>h) ?_|refine Thin.own (by first|rfl|(simp;done)|omega) rfl ?_|refine Thin.box (by first|rfl|(simp;done)) ?_|refine Thin.skip ?_))
 ·rw [ht] at k2 hwk
  obtain ⟨q,hq⟩:∃ q:Nat,(atE S.E m).r.t=q:=⟨(atE S.E m).r.t.toNat,by omega⟩
  rw [hq,g7q] at k2 hwk
  simp only [Tm.txt,wkT] at k2 hwk
  have hsn:∀ u:List (Int × Nat),kF u++[.int .i64 (atE S.E m).r.a,.int .i64 q]=kF (u++[((atE S.E m).r.a,q)]):=fun u=>vZ u [((atE S.E m).r.a,q)]
  have hok:okCp S (s'++[((atE S.E m).r.a,q)]):=hs'2.snoc (x:=((atE S.E m).r.a,q)) ⟨a1,by dsimp only;omega,by show 1<=q;omega⟩
  have htx:acc++xE S.E (s'++[((atE S.E m).r.a,q)])=T:=by
   rw [uc]
   simp only [xE,List.nil_append] at k2 ⊢
   exact k2
  have hmu:wkC S.E (s'++[((atE S.E m).r.a,q)])<wkC S.E (s++[(m,t+1)]):=by
   rw [zal,hwk]
   simp only [wkC];omega
  have hul:∀ u:List (Int × Nat),(u++[((atE S.E m).r.a,q)]).length=u.length+1:=fun u=>by simp
  by_cases h:t=0
  ·rw [if_pos h] at hs'1
   subst h hs'1
   (repeat' ((conv=>whnf);first|rw [hidx]|rw [e1]|rw [r3]|rw [r5]|refine SC.go 77 c1 rfl fun fp'=>?_|refine zB r1 ?_|refine zB r2 ?_|refine zB r4 ?_|rw [hq]|rw [hsn]|((first|apply zb|apply za|apply zc)<;>intro h<;>try (exfalso;omega))|refine pay ?_|refine And.intro (by first|exact ⟨rfl,hll⟩|exact ⟨by unfold maxLen;omega,by omega⟩) ?_|intro _));(all_goals (conv=>whnf))
   all_goals try (exfalso;omega)
   all_goals rename_i a' c'
   all_goals (refine zm ⟨acc,_,a',c',fp'⟩ ⟨hok,htx⟩ hmu (by (repeat ((conv=>whnf);refine vS ?_));exact trivial) ((za4 77 rfl).trans (Thin.ref ?_)))
   all_goals (repeat (first|exact Thin.nil _|exact Thin.refl _|refine Thin.keep rfl (fun _ h=>h) ?_|refine Thin.own (by first|rfl|(simp;done)|omega) rfl ?_|refine Thin.box (by first|rfl|(simp;done)) ?_|refine Thin.skip ?_))
  ·rw [if_neg h] at hs'1
   have hsn':=hsn
   subst hs'1
   (repeat' ((conv=>whnf);first|rw [hidx]|rw [e1]|rw [r3]|refine SC.go 77 c1 rfl fun fp'=>?_|refine zB r1 ?_|refine zB r2 ?_|refine zB r4 ?_|rw [hq]|rw [hsn]|((first|apply zb|apply za|apply zc)<;>intro h<;>try (exfalso;omega))|refine pay ?_|refine And.intro (by first|exact ⟨rfl,hll⟩|exact ⟨by unfold maxLen;omega,by omega⟩) ?_|intro _));(all_goals (conv=>whnf))
   all_goals try (exfalso;omega)
   all_goals rename_i a' c'
   all_goals (refine zm ⟨acc,_,a',c',fp'⟩ ⟨hok,htx⟩ hmu (by (repeat ((conv=>whnf);refine vS ?_));exact trivial) ((za4 77 rfl).trans (Thin.ref ?_)))
   all_goals (repeat (first|exact Thin.nil _|exact Thin.refl _|refine Thin.keep rfl (fun _ h=>h) ?_|refine Thin.own (by first|rfl|(simp;done)|omega) rfl ?_|refine Thin.box (by first|rfl|(simp;done)) ?_|refine Thin.skip ?_))
theorem _root_.Go.EG.Ref.unpackU' {w0:World} {fp0:List Nat} {L:List Ent} {key:Nat} {fp:List Nat} {f:Unit->List Ent}:Ref w0 fp0 (packE key fp f::L) (f ()++L):=fun w hR=>by
 obtain ⟨x,_,h⟩:=hR.unpack
 exact h
def fX (b b4 bt bk N:Nat) (acc:List Nat):Unit->List Ent:=fun _=>[.box 4 b4 [pS b] xx,.box 13 bt [.slice (some ⟨bk,0,none⟩) acc.length N] xX,.own 35 (some ⟨bk,0,none⟩) acc.length N kE 1 (byC acc)]
structure VxG where
 i:Nat
 fp:List Nat
theorem zxM (b:Nat) (S:Sto) (hw:WF S) (b4 bt bk N:Nat) (hN:N<=65536):zv6 S b N jq [.pointer (some ⟨bt,0,none⟩),.pointer (some ⟨b4,0,none⟩)] (fX b b4 bt bk N):=by
 intro acc x k h1 h2 h3 h4 fp1 fp2 w hR
 replace hR:=(Ref.unpackU' w hR:R _ _ ([.box 4 b4 [pS b] xx,.box 13 bt [.slice (some ⟨bk,0,none⟩) acc.length N] xX,.own 35 (some ⟨bk,0,none⟩) acc.length N kE 1 (byC acc)]++_) w)
 refine zf [.v (.int .i64 x),.v (.int .i64 k),.ptr 13 bt 0,.ptr 4 b4 0] zhK (by simp) hR ?_
 generalize hT:(tm S.E x).txt=T at *
 have hpos:=hw.pos1 h1 h2
 unfold Tm.len at hpos
 rw [hT] at hpos
 have hA:∀ j,j<=k->(acc++rep j T).length<=N:=fun j hj=>by
  rw [g6q,qL] at h4 ⊢
  have:=Nat.mul_le_mul_right T.length hj
  omega
 have h1N:=hA 1 h3
 rw [xM] at h1N
 have hk:k<=65536:=by
  rw [g6q,qL] at h4
  have:=Nat.mul_le_mul_left k hpos
  omega
 have c1:=fun fp w fps h=>zqW b S hw x h1 h2 bt bk N hN acc (by rw [hT];exact h1N) fp fps w h
 rw [hT] at c1
 have e1:acc++T=acc++rep 1 T:=by rw [xM]
 rw [e1] at c1
 have l1:(acc++rep 1 T).length=acc.length+T.length:=by rw [g6q,qL,Nat.one_mul]
 have hA1:=hA 1 h3
 (repeat' ((conv=>whnf);first|refine ⟨.sl 35 _ _ _,⟨rfl,rfl,rfl,rfl⟩,?_⟩|refine ⟨.v _,⟨rfl,trivial⟩,?_⟩|rw [g7q]|(refine zbe (L0:=[packE 77 fp2 (fS b S),.box 13 bt [.slice (some ⟨bk,0,none⟩) acc.length N] xX,.own 35 (some ⟨bk,0,none⟩) acc.length N kE 1 (byC acc)]) (Lr:=[.box 4 b4 [pS b] xx]) ((List.perm_append_comm (l₁:=[_]) (l₂:=[_,_,_])).trans (List.Perm.append_right _ (List.perm_append_comm (l₁:=[_,_]) (l₂:=[_])))) (fun w hR hR0=>c1 _ _ _ hR0) ?_;rintro _ _ ⟨rfl,fp',rfl⟩;refine ⟨.v _,rfl,?_⟩)|((first|apply zb|apply za|apply zc)<;>intro h<;>try (exfalso;omega))|refine pay ?_|intro _));(all_goals (conv=>whnf))
 refine zP VxG (fun y=>[(1,.v (.int .i64 k)),(2,.ptr 13 bt 0),(9,.v (.slice (xc (some ⟨bk,0,none⟩) N acc.length 1) ((acc++rep 1 T).length - acc.length) (N - acc.length))),(22,.v (.int .i64 ((k:Int) - 1))),(23,.v (.int .i64 y.i))])
  (fun y=>[packE 77 y.fp (fS b S),.box 13 bt [.slice (some ⟨bk,0,none⟩) (acc++rep (y.i+1) T).length N] xX,.own 35 (some ⟨bk,0,none⟩) (acc++rep (y.i+1) T).length N kE 1 (byC (acc++rep (y.i+1) T)),.box 4 b4 [pS b] xx])
  (fun y=>y.i+1<=k) (fun y=>k - y.i) ⟨0,fp'⟩ h3 (by (repeat ((conv=>whnf);refine vS ?_));exact trivial) (Thin.ref (.refl _)) ?_
 rintro ⟨i,fpx⟩ hi
 dsimp only at hi ⊢
 have l2:(acc++rep (i+1) T).length+T.length=(acc++rep (i+1+1) T).length:=by
  rw [g6q,g6q,qL,qL,Nat.succ_mul (i+1)];omega
 have hd:((byC (acc++rep (i+1) T)).drop acc.length).take ((acc++rep 1 T).length - acc.length)=byC T:=by
  rw [l1,Nat.add_sub_cancel_left,←zdD,vN,←zdD,show acc.length=(byC acc).length by rw [zhr],List.drop_left,show T.length=(byC T).length by rw [zhr],List.take_left]
 have happ:byC (acc++rep (i+1) T)++byC T=byC (acc++rep (i+1+1) T):=by
  rw [zdD,List.append_assoc,show rep (i+1) T++T=rep (i+1+1) T from by rw [zf2 (i+1) 1,xM]]
 have hml:(acc++rep 1 T).length - acc.length=(byC T).length:=by rw [l1,zhr];omega
 by_cases hlt:i+1<k
 ·have hA2:=hA (i+1+1) hlt
  (repeat' ((conv=>whnf);first|rw [happ]|refine ⟨.sl 35 _ _ _,⟨rfl,rfl,rfl,rfl⟩,?_⟩|refine ⟨byC T,zxL 35 bk rfl (by omega) hd hml,?_⟩|((first|apply zb|apply za|apply zc)<;>intro h<;>try (exfalso;omega))|refine pay ?_|refine And.intro (by first|exact zt0 T|exact ⟨rfl,rfl,rfl,rfl,rfl,by omega,by omega⟩) ?_|intro _));(all_goals (conv=>whnf))
  refine zm ⟨i+1,fpx⟩ hlt (by ((try dsimp only);omega)) (by (repeat ((conv=>whnf);refine vS ?_));exact trivial) (Thin.ref ?_)
  refine .keep rfl (fun _ h=>h) (.box ?_ (.own ?_ rfl (.keep rfl (fun _ h=>h) (.nil _))))
  ·rw [show (acc++rep (i+1) T).length+((acc++rep 1 T).length - acc.length)=(acc++rep (i+1+1) T).length from by omega]
  ·show _=(acc++rep (i+1+1) T).length
   omega
 ·have hik:i+1=k:=by omega
  rw [hik]
  (repeat' ((conv=>whnf);first|((first|apply zb|apply za|apply zc)<;>intro h<;>try (exfalso;omega))|refine pay ?_|intro _));(all_goals (conv=>whnf))
  refine ⟨⟨[packE 90 (fps (fX b b4 bt bk N (acc++rep k T) ())) (fX b b4 bt bk N (acc++rep k T)),packE 77 fpx (fS b S)],?_,rfl,_,_,rfl⟩⟩
  exact (Ref.perm ((List.perm_append_comm (l₁:=[_,_,_]) (l₂:=[_])).trans (.cons _ (List.perm_append_comm (l₁:=[_]) (l₂:=[_,_]))))).trans (Ref.packs (f:=fX b b4 bt bk N (acc++rep k T)) () (.refl _))
section
attribute [local semireducible] z8
theorem zrG {P:Program} {w0:World} {fp0:List Nat} {L L':List Ent} {f:FuncId} {args:List Value} {k:SV->List Ent->Prop} (href:Ref w0 fp0 L L') (h:z8 P w0 fp0 f args L' k):z8 P w0 fp0 f args L k:=fun w hR=>h w (href w hR)
end
def zxN (key b:Nat) (S:Sto) (T:List Nat) (v:Value) (L1:List Ent):Prop :=
 ∃ a c fp',v=.tuple #[.slice a T.length c,.nilIface]/\L1=[packE key fp' (fS b S),.own 806 a T.length c kE 1 (byC T)]
theorem znK (b:Nat) (S:Sto) (hw:WF S) (n:Int) (i m:Nat) (hk:known S n) (hi:i+m<=(tm S.E n).len) (hm:m<=65536) (key:Nat) (fp:List Nat) (w:World) (hR:StR w key fp b S) :
 Calls Tryz.prog zap #[pS b,.int .i64 n,.int .i64 i,.int .i64 m] w fun e w'=>∃ v L1,e=.returned v/\R w fp L1 w'/\zxN key b S (sub (tm S.E n).txt i m) v L1:=by
 refine zf [.v (pS b),.v (.int .i64 n),.v (.int .i64 i),.v (.int .i64 m)] zi9 (by simp) (hR.key 77) ?_
 have hsm:=hw.small
 have hlen:=hw.le hk.2
 have c0:=yd b S n hsm
 rw [vj hk] at c0
 have c1:=zig i m (tm S.E n).txt.length hlen
 unfold zha at c1
 unfold Tm.len at hi
 rw [if_pos ⟨by omega,by omega,by omega,by omega⟩] at c1
 have hsl:(sub (tm S.E n).txt i m).length=m:=zly hi
 have c3:=fun b4 bt bk=>zqV b S hw n i m hk hi jq [.pointer (some ⟨bt,0,none⟩),.pointer (some ⟨b4,0,none⟩)] (fX b b4 bt bk m) m (Nat.le_refl m) rfl (zxM b S hw b4 bt bk m hm)
 generalize hT:sub (tm S.E n).txt i m=T at *
 (repeat' ((conv=>whnf);first|refine ⟨.v _,⟨rfl,trivial⟩,?_⟩|refine SC.go 77 c0 rfl fun fp'=>?_|(first|refine puK c1 ?_|refine quK c1 ?_)|((first|apply zb|apply za|apply zc)<;>intro h<;>try (exfalso;omega))|refine pay ?_|refine And.intro (by first|exact ⟨by omega,by omega,by omega,by unfold maxLen;omega⟩) ?_|intro _));(all_goals (conv=>whnf))
 refine zrG ((Thin.ref (.keep rfl (fun _ h=>h) (.keep rfl (fun _ h=>h) (.skip (.keep rfl (fun _ h=>h) (.keep rfl (fun _ h=>h) (.nil _)))))):Ref _ _ _ [.box 13 _ [.slice (some ⟨_,0,none⟩) 0 m] xX,.own 35 (some ⟨_,0,none⟩) 0 m kE 1 [],packE 77 fp' (fS b S),.box 4 _ [pS b] xx]).trans (Ref.perm (List.perm_append_comm (l₁:=[_,_,_]) (l₂:=[_])))) ?_
 refine zrG (Ref.packs (key:=90) (f:=fX b _ _ _ m []) () (.refl _)) ?_
 refine zr2 ?_
 refine zZ (key1:=90) (key2:=77) rfl rfl (fun w hR h0=>c3 _ _ _ _ _ _ h0) ?_
 rintro _ _ ⟨rfl,fp1',fp2',rfl⟩
 refine ⟨.v _,rfl,_,Ref.unpackU',?_⟩
 (repeat' ((conv=>whnf);first|refine ⟨.v _,⟨rfl,trivial⟩,?_⟩|((first|apply zb|apply za|apply zc)<;>intro h<;>try (exfalso;omega))|refine pay ?_|intro _));(all_goals (conv=>whnf))
 exact ⟨⟨_,(za4 77 rfl).trans (Thin.ref (Thin.packE (.skip (.skip (.own rfl rfl (.nil _)))))),_,m,fp2',rfl,rfl⟩⟩
theorem WF.bts {S:Sto} (hw:WF S):∀ (f:Nat) (n:Int),n.toNat<=f->n<=S.E.length->∀ x∈(tm S.E n).txt,x<256
 | 0,n,h,h2,x,hx => by
   rw [show tm S.E n=.nil by unfold tm atE;rw [if_pos (by omega)];rfl] at hx
   simp [Tm.txt] at hx
 | f + 1,n,h,h2,x,hx => by
   by_cases h0:n<=0
   ·rw [show tm S.E n=.nil by unfold tm atE;rw [if_pos h0];rfl] at hx
    simp [Tm.txt] at hx
   obtain ⟨ho,hl,ht,_⟩:=hw.at_ (by omega) h2
   rw [ht] at hx
   unfold mkT at hx
   rcases ho with ho|⟨k2,k3,k4,k5,k6,_⟩|⟨k2,k3,k4,_⟩
   ·rw [if_pos ho.1] at hx
    simp only [Tm.txt,List.mem_singleton] at hx
    omega
   ·rw [if_neg (by omega),if_pos k2] at hx
    simp only [Tm.txt,List.mem_append] at hx
    rcases hx with hx|hx
    ·exact WF.bts hw f _ (by omega) (by omega) x hx
    ·exact WF.bts hw f _ (by omega) (by omega) x hx
   ·rw [if_neg (by omega),if_neg (by omega)] at hx
    simp only [Tm.txt] at hx
    have:∀ k,x∈rep k (tm S.E (atE S.E n).r.a).txt->x∈(tm S.E (atE S.E n).r.a).txt:=fun k=>by
     induction k with
     | zero=>intro h;simp [rep] at h
     | succ k ih =>
       intro h;rw [vN] at h
       rcases List.mem_append.1 h with h|h
       ·exact h
       ·exact ih h
    exact WF.bts hw f _ (by omega) (by omega) x (this _ hx)
theorem znb (bp bt bs:Nat) (S0:Sto) (hw:WF S0) (t:List Nat) (hb:∀ x∈t,x<256) (hl:t.length<=1000) (hroom:S0.E.length+2*t.length<=S0.most) (at_:Option Addr) (ct:Nat) (f1 f2 fp:List Nat) (w:World)
 (hR:R w fp (fP bp bt bs S0 f1 f2) w) (hG:qq w fp) (hin:In w fp at_ (xd t)) :
 Calls Tryz.prog qu #[pS bp,.slice at_ t.length ct] w fun e w'=>∃ v L1,e=.returned v/\R w fp L1 w'/\∃ (S:Sto) (x:Int) (g1 g2:List Nat),WF S/\Grow S0 S/\SigI S x t/\S.E.length<=S0.E.length+2*t.length/\v=.tuple #[.int .i64 x,.nilIface]/\L1=fP bp bt bs S g1 g2:=by
 by_cases h0:t=[]
 ·subst h0
  exact (ztJ bp bt bs S0 at_ ct f1 f2 fp w hR).mono fun e w' ⟨v,L1,he,hR',hv,g1,g2,hL⟩=>⟨v,L1,he,hR',S0,0,g1,g2,hw,Grow.refl S0,.inl ⟨rfl,rfl⟩,by simp,hv,hL⟩
 ·exact (zpf bp bt bs S0 hw t hb (List.length_pos_iff.2 h0) hl hroom at_ ct f1 f2 fp w hR hG hin).mono fun e w' ⟨v,L1,he,hR',S,x,g1,g2,q1,q2,q3,q4,q5,_,q6,q7⟩=>⟨v,L1,he,hR',S,x,g1,g2,q1,q2,.inr ⟨q3.1,q3.2,q4⟩,by omega,q6,q7⟩
abbrev mmB (bx bp mb:Nat):Ent:=.box 3100 bx [pS bp,.map (some mb)] zdd
abbrev mmE (mb:Nat) (M:List (Int × Int)):Ent:=.mapE 3101 mb (.int .i64) (kvM M)
def fMk (k1 k2 bx bp bt bs mb:Nat) (S:Sto) (M:List (Int × Int)) (f1 f2:List Nat):List Ent:=[packE k1 f1 (fT bt bs S.E),packE k2 f2 (fS bs S),.box 3000 bp [pS bs,pS bt] yD,mmB bx bp mb,mmE mb M]
theorem zgq (bx bp mb:Nat) (M:List (Int × Int)) (x z:Int) (hx:x∉M.map Prod.fst) (fp:List Nat) (w:World) (hR:R w fp [mmB bx bp mb,mmE mb M] w) :
 Calls Tryz.prog qP #[pS bx,.int .i64 x,.int .i64 z,.nilIface] w fun e w'=>∃ v L1,e=.returned v/\R w fp L1 w'/\v=.nilIface/\L1=[mmB bx bp mb,mmE mb (M++[(x,z)])]:=by
 refine zf [.ptr 3100 bx 0,.v (.int .i64 x),.v (.int .i64 z),.v .nilIface] zb7 (by simp) hR ?_
 have hset:=ztW (v:=z) hx
 (repeat' ((conv=>whnf);first|rw [hset]|refine ⟨.mp 3101 _,⟨rfl,rfl⟩,?_⟩|refine zg ?_|((first|apply zb|apply za|apply zc)<;>intro h<;>try (exfalso;omega))|refine pay ?_|refine And.intro (by first|exact ⟨rfl,rfl,_,rfl⟩) ?_|intro _));(all_goals (conv=>whnf))
 all_goals exact ⟨⟨_,Ref.takes [3100,3101] rfl (.refl _),rfl,rfl⟩⟩
def zxd (k1 k2 bx bp bt bs mb:Nat) (S:Sto) (M:List (Int × Int)) (x:Int) (v:Value) (L1:List Ent):Prop :=
 (∃ c g1 g2 a b,v=.tuple #[.int .i64 c,.nilIface]/\(1<=c/\c<=S.E.length)/\c∉M.map Prod.fst/\256<(tm S.E x).len/\tm S.E x=.pr a b/\(tm S.E c=a∨tm S.E c=b)/\L1=fMk k1 k2 bx bp bt bs mb S M g1 g2) ∨
 (∃ S' z g1 g2,v=.tuple #[.int .i64 0,.nilIface]/\WF S'/\Grow S S'/\SigI S' z (tm S.E x).txt/\S'.E.length<=S.E.length+512/\L1=fMk k1 k2 bx bp bt bs mb S' (M++[(x,z)]) g1 g2)
theorem zqX (bx bp bt bs mb:Nat) (S:Sto) (hw:WF S) (M:List (Int × Int)) (hM:CaI S M) (x:Int) (hx:1<=x/\x<=S.E.length) (he:(tm S.E x).evn=true) (hl:(tm S.E x).len<=511) (hn:x∉M.map Prod.fst) (hroom:S.E.length+512<=S.most) (f1 f2 fp:List Nat) (w:World) (hR:R w fp (fMk 78 77 bx bp bt bs mb S M f1 f2) w) (hG:qq w fp) :
 Calls Tryz.prog y3 #[pS bx,.int .i64 x] w fun e w'=>∃ v L1,e=.returned v/\R w fp L1 w'/\zxd 78 77 bx bp bt bs mb S M x v L1:=by
 refine zf [.ptr 3100 bx 0,.v (.int .i64 x)] zdC (by simp) hR ?_
 have hsm:=hw.small
 have hmo:=hw.most
 have hk:known S x:=⟨by omega,hx.2⟩
 have c1:=yd bs S x hsm
 rw [vj hk] at c1
 unfold Tm.len at hl
 by_cases hs:(tm S.E x).txt.length<=256
 ·have c2:=fun key fp w hR=>znK bs S hw x 0 (tm S.E x).txt.length hk (by unfold Tm.len;omega) (by omega) key fp w hR
  rw [zmt] at c2
  have hb:=hw.bts x.toNat x (Nat.le_refl _) hx.2
  generalize hT:(tm S.E x).txt=T at *
  have c3:=fun a c f1 f2 fp w hR hG hin=>znb bp bt bs S hw T hb (by omega) (by omega) a c f1 f2 fp w hR hG hin
  have c4:=fun z fp w hR=>zgq bx bp mb M x z hn fp w hR
  (repeat' ((conv=>whnf);first|refine goS (bt:=bt) (bs:=bs) rfl ?_|refine SC.go 77 c1 rfl fun fp'=>?_|(refine qx (key:=77) rfl (fun w' hR' h0=>c2 _ _ w' h0) ?_;rintro _ _ ⟨a9,c9,f9,rfl,rfl⟩;refine ⟨.v _,rfl,?_⟩)|(refine zh [78,77,3000] rfl (fun w hR h=>c3 _ _ _ _ _ w h (hG.castL hR) (In.besideL (key:=806) hR rfl)) ?_;rintro _ _ ⟨S1,z,g1,g2,w1,gr,hz,hc,rfl,rfl⟩;refine ⟨.v _,rfl,?_⟩)|(refine zh [3100,3101] rfl (fun w hR h=>c4 _ _ w h) ?_;rintro _ _ ⟨rfl,rfl⟩;refine ⟨.v _,rfl,?_⟩)|refine ⟨.mp 3101 _,⟨rfl,rfl⟩,?_⟩|refine zg ?_|((first|apply zb|apply za|apply zc)<;>intro h<;>try (exfalso;omega))|refine pay ?_|refine And.intro (by first|exact ⟨rfl,rfl,_,rfl⟩) ?_|intro _));(all_goals (conv=>whnf))
  all_goals try (exfalso;omega)
  all_goals exact ⟨⟨_,Ref.takes [78,77,3000,3100,3101] rfl (.refl _),.inr ⟨S1,z,_,_,rfl,w1,gr,by rw [hT];exact hz,by omega,rfl⟩⟩⟩
 ·have c2:=qZ bs S x hsm
  rw [yy hx.1 hx.2] at c2
  obtain ⟨ho,_,ht,_⟩:=hw.at_ hx.1 hx.2
  have hk2:(atE S.E x).r.k=2:=by
   rcases ho with ho|ho|ho
   ·unfold mkT at ht
    rw [if_pos ho.1] at ht
    rw [ht] at hs
    simp [Tm.txt] at hs
   ·exact ho.1
   ·unfold mkT at ht
    rw [if_neg (by omega),if_neg (by omega)] at ht
    rw [ht] at he
    simp [Tm.evn] at he
  have hab:(1<=(atE S.E x).r.a/\(atE S.E x).r.a<=S.E.length)/\(1<=(atE S.E x).r.b/\(atE S.E x).r.b<=S.E.length):=by
   rcases ho with ho|⟨k2,k3,k4,k5,k6,_⟩|ho
   ·omega
   ·omega
   ·omega
  unfold mkT at ht
  rw [if_neg (by omega),if_pos hk2] at ht
  have hlx:256<(tm S.E x).len:=by unfold Tm.len;omega
  generalize ha:(atE S.E x).r.a=a at *
  generalize hb:(atE S.E x).r.b=b at *
  by_cases ha1:a∈M.map Prod.fst
  ·obtain ⟨va,ha2,ha3⟩:=zcb ha1
   by_cases hb1:b∈M.map Prod.fst
   ·obtain ⟨vb,hb2,hb3⟩:=zcb hb1
    have sa:=(hM _ ha2).2
    have sb:=(hM _ hb2).2
    have hlen:(tm S.E a).txt.length+(tm S.E b).txt.length=(tm S.E x).txt.length:=by rw [ht];simp [Tm.txt]
    have htx:(tm S.E x).txt=(tm S.E a).txt++(tm S.E b).txt:=by rw [ht];rfl
    have c3:=fun f1 f2 fp w hR hG=>zsH bp bt bs S hw va vb _ _ sa sb (by dsimp only;omega) hmo (by dsimp only;omega) f1 f2 fp w hR hG
    have c4:=fun z fp w hR=>zgq bx bp mb M x z hn fp w hR
    (repeat' ((conv=>whnf);first|refine goS (bt:=bt) (bs:=bs) rfl ?_|refine SC.go 77 c1 rfl fun fp'=>?_|refine SC.go 77 c2 rfl fun fp'=>?_|rw [hk2]|rw [ha]|rw [hb]|refine j6 ha3 ?_|refine j6 hb3 ?_|(refine zh [78,77,3000] rfl (fun w hR h=>c3 _ _ _ w h (hG.castL hR)) ?_;rintro _ _ ⟨S1,z,g1,g2,hJ,rfl,rfl⟩;refine ⟨.v _,rfl,?_⟩)|(refine zh [3100,3101] rfl (fun w hR h=>c4 _ _ w h) ?_;rintro _ _ ⟨rfl,rfl⟩;refine ⟨.v _,rfl,?_⟩)|refine ⟨.mp 3101 _,⟨rfl,rfl⟩,?_⟩|refine zg ?_|((first|apply zb|apply za|apply zc)<;>intro h<;>try (exfalso;omega))|refine pay ?_|refine And.intro (by first|exact ⟨rfl,rfl,_,rfl⟩) ?_|intro _));(all_goals (conv=>whnf))
    all_goals try (exfalso;omega)
    have hcnt:=hJ.cnt
    rw [g6q] at hcnt
    exact ⟨⟨_,Ref.takes [78,77,3000,3100,3101] rfl (.refl _),.inr ⟨S1,z,_,_,rfl,hJ.wf,hJ.grow,by rw [htx];exact hJ.sig,by dsimp only at hcnt;omega,rfl⟩⟩⟩
   ·have hb2:=zmq hb1
    (repeat' ((conv=>whnf);first|refine goS (bt:=bt) (bs:=bs) rfl ?_|refine SC.go 77 c1 rfl fun fp'=>?_|refine SC.go 77 c2 rfl fun fp'=>?_|rw [hk2]|rw [ha]|rw [hb]|refine j6 ha3 ?_|refine zfS hb2 ?_|refine ⟨.mp 3101 _,⟨rfl,rfl⟩,?_⟩|refine zg ?_|((first|apply zb|apply za|apply zc)<;>intro h<;>try (exfalso;omega))|refine pay ?_|refine And.intro (by first|exact ⟨rfl,rfl,_,rfl⟩) ?_|intro _));(all_goals (conv=>whnf))
    all_goals try (exfalso;omega)
    all_goals exact ⟨⟨_,Ref.takes [78,77,3000,3100,3101] rfl (.refl _),.inl ⟨b,f1,_,_,_,rfl,hab.2,hb1,hlx,ht,.inr rfl,rfl⟩⟩⟩
  ·have ha2:=zmq ha1
   (repeat' ((conv=>whnf);first|refine goS (bt:=bt) (bs:=bs) rfl ?_|refine SC.go 77 c1 rfl fun fp'=>?_|refine SC.go 77 c2 rfl fun fp'=>?_|rw [hk2]|rw [ha]|rw [hb]|refine zfS ha2 ?_|refine ⟨.mp 3101 _,⟨rfl,rfl⟩,?_⟩|refine zg ?_|((first|apply zb|apply za|apply zc)<;>intro h<;>try (exfalso;omega))|refine pay ?_|refine And.intro (by first|exact ⟨rfl,rfl,_,rfl⟩) ?_|intro _));(all_goals (conv=>whnf))
   all_goals try (exfalso;omega)
   all_goals exact ⟨⟨_,Ref.takes [78,77,3000,3100,3101] rfl (.refl _),.inl ⟨a,f1,_,_,_,rfl,hab.1,ha1,hlx,ht,.inl rfl,rfl⟩⟩⟩
theorem fMk_thin {k1 k2 j1 j2 bx bp bt bs mb:Nat} {S:Sto} {M:List (Int × Int)} {f1 f2:List Nat}:Thin (fMk k1 k2 bx bp bt bs mb S M f1 f2) (fMk j1 j2 bx bp bt bs mb S M f1 f2) :=
 .packE (.packE (.refl _))
theorem zp2 (bx bp bt bs mb:Nat) (S:Sto) (hw:WF S) (M:List (Int × Int)) (hM:CaI S M) (x:Int) (hx:1<=x/\x<=S.E.length) (he:(tm S.E x).evn=true) (hl:(tm S.E x).len<=511) (hn:x∉M.map Prod.fst) (hroom:S.E.length+512<=S.most) (f1 f2 fp:List Nat) (w:World) (hR:R w fp (fMk 2078 2077 bx bp bt bs mb S M f1 f2) w) (hG:qq w fp) :
 Calls Tryz.prog y3 #[pS bx,.int .i64 x] w fun e w'=>∃ v L1,e=.returned v/\R w fp L1 w'/\zxd 2078 2077 bx bp bt bs mb S M x v L1 :=
 (zqX bx bp bt bs mb S hw M hM x hx he hl hn hroom f1 f2 fp w (fMk_thin.ref w hR) hG).mono fun e w' ⟨v,L1,he,hR',hq⟩=>by
  rcases hq with ⟨c,g1,g2,a,b,q1,q2,q3,q4,q5,q6,rfl⟩|⟨S',z,g1,g2,q1,q2,q3,q4,q5,rfl⟩
  ·exact ⟨v,_,he,fMk_thin.ref w' hR',.inl ⟨c,g1,g2,a,b,q1,q2,q3,q4,q5,q6,rfl⟩⟩
  ·exact ⟨v,_,he,fMk_thin.ref w' hR',.inr ⟨S',z,g1,g2,q1,q2,q3,q4,q5,rfl⟩⟩
structure CfG where
 S:Sto
 M:List (Int × Int)
 st:List Int
 a:Option Addr
 c:Nat
 f1:List Nat
 f2:List Nat
structure MmQ (S0 S:Sto) (M0 M:List (Int × Int)) (n:Nat):Prop where
 wf:WF S
 grow:Grow S0 S
 mem:CaI S M
 cnt:S.E.length<=S0.E.length+n
structure CfI (S0 S:Sto) (M0 M:List (Int × Int)) (id:Int) (st:List Int):Prop where
 wf:WF S
 grow:Grow S0 S
 mem:CaI S M
 td:TdI S M id st
 cnt:S.E.length+512*ned (kts S M) (tm S.E id)<=S0.E.length+17920
theorem zqY (bx bp bt bs mb:Nat) (S0:Sto) (hw:WF S0) (M0:List (Int × Int)) (hM:CaI S0 M0) (id:Int) (t:List Nat) (hx:EvI S0 id t) (hl:t.length<=511) (hroom:S0.E.length+17920<=S0.most) (f1 f2 fp:List Nat) (w:World) (hR:R w fp (fMk 78 77 bx bp bt bs mb S0 M0 f1 f2) w) (hG:qq w fp) :
 Calls Tryz.prog vT #[pS bx,.int .i64 id] w fun e w'=>∃ v L1,e=.returned v/\R w fp L1 w'/\∃ S M z g1 g2,MmQ S0 S M0 M 17920/\SigI S z t/\v=.tuple #[.int .i64 z,.nilIface]/\L1=fMk 78 77 bx bp bt bs mb S M g1 g2:=by
 refine zf [.ptr 3100 bx 0,.v (.int .i64 id)] zfA (by simp) hR ?_
 have hk:=hx.known
 have c0:=zds bs S0
 by_cases h0:id=0
 ·have ht:t=[]:=by
   rcases hx with h|h
   ·exact h.2
   ·omega
  subst h0 ht
  (repeat' ((conv=>whnf);first|refine goS (bt:=bt) (bs:=bs) rfl ?_|refine SC.go 77 c0 rfl fun fp'=>?_|refine zg ?_|((first|apply zb|apply za|apply zc)<;>intro h<;>try (exfalso;omega))|refine pay ?_|intro _));(all_goals (conv=>whnf))
  all_goals try (exfalso;omega)
  all_goals exact ⟨⟨_,Ref.takes [78,77,3000,3100,3101] rfl (.refl _),S0,M0,0,_,_,⟨hw,Grow.refl S0,hM,by omega⟩,.inl ⟨rfl,rfl⟩,rfl,rfl⟩⟩
 ·have hid:1<=id/\id<=S0.E.length:=by
   have:=hk.1
   have:=hk.2
   omega
  (repeat' ((conv=>whnf);first|refine goS (bt:=bt) (bs:=bs) rfl ?_|refine SC.go 77 c0 rfl fun fp'=>?_|refine zg ?_|((first|apply zb|apply za|apply zc)<;>intro h<;>try (exfalso;omega))|refine pay ?_|intro _));(all_goals (conv=>whnf))
  all_goals try (exfalso;omega)
  rename_i b39
  obtain ⟨ht,hev⟩:=hx.txt
  have hln:(tm S0.E id).len<=511:=by unfold Tm.len;rw [ht];exact hl
  have hd:=za3 (hw.pos_ hid.1 hid.2) hev hln
  have hned:=zmr (K:=kts S0 M0) hev hln
  have hI0:CfI S0 S0 M0 M0 id [id]:=⟨hw,Grow.refl S0,hM,TdI.start hid.1 hid.2 hev hln,by omega⟩
  refine zP CfG (fun y=>[(0,.ptr 3100 bx 0),(1,.v (.int .i64 id)),(6,.sl 39 y.a y.st.length y.c)]) (fun y=>fMk 2078 2077 bx bp bt bs mb y.S y.M y.f1 y.f2++[.own 39 y.a y.st.length y.c zr 1 (zt .i64 y.st)])
   (fun y=>CfI S0 y.S M0 y.M id y.st) (fun y=>muC y.S y.M id y.st) ⟨S0,M0,[id],_,1,f1,_⟩ hI0 (by (repeat ((conv=>whnf);refine vS ?_));exact trivial) ((Ref.takes (L1:=fMk 78 77 bx bp bt bs mb S0 M0 f1 _++[.own 39 _ 1 1 zr 1 [.int .i64 id]]) [78,77,3000,3100,3101,39] rfl (.refl _)).trans (Thin.ref (.packE (.packE (.refl _))))) ?_
  clear hR hI0 hned
  rintro ⟨S,M,st,a,c,g1,g2⟩ hI
  dsimp only at hI ⊢
  obtain ⟨w1,gr,hm,htd,hc⟩:=hI
  have hsl:=htd.len w1
  have hgl:=gr.len
  have hgm:=gr.most
  rcases List.eq_nil_or_concat st with rfl|⟨rest,x,rfl⟩
  ·have hkx:id∈M.map Prod.fst:=by
    rcases htd.chn with ⟨_,h⟩|⟨r,h,_⟩
    ·exact h
    ·cases h
   obtain ⟨z,hz1,hz2⟩:=zcb hkx
   have hz:=(hm _ hz1).2
   rw [show (tm S.E id).txt=t by rw [gr.tm hid.2];exact ht] at hz
   (repeat' ((conv=>whnf);first|refine j6 hz2 ?_|refine ⟨.mp 3101 mb,⟨rfl,rfl⟩,?_⟩|refine zg ?_|((first|apply zb|apply za|apply zc)<;>intro h<;>try (exfalso;omega))|refine pay ?_|refine And.intro (by first|exact ⟨rfl,rfl,_,rfl⟩) ?_|intro _));(all_goals (conv=>whnf))
   all_goals try (exfalso;omega)
   exact ⟨⟨_,(Ref.takes (L1:=fMk 2078 2077 bx bp bt bs mb S M g1 g2) [2078,2077,3000,3100,3101] rfl (.refl _)).trans fMk_thin.ref,S,M,z,_,_,⟨w1,gr,hm,by omega⟩,hz,rfl,rfl⟩⟩
  ·rw [List.concat_eq_append] at htd hsl ⊢
   have hxm:x∈rest++[x]:=by simp
   have hxr:=htd.rng x hxm
   have hxe:=htd.evn x hxm
   have hi:((((rest++[x]).length:Nat):Int) - 1).toNat=rest.length:=by simp
   have hr1:(zt .i64 (rest++[x]))[rest.length]?=some (.int .i64 x):=by simp [zt]
   have hlr:(rest++[x]).length=rest.length+1:=by simp
   have hct:(zt .i64 (rest++[x])).take rest.length=zt .i64 rest:=by simp [zt]
   by_cases hxk:x∈M.map Prod.fst
   ·obtain ⟨z,hz1,hz2⟩:=zcb hxk
    obtain ⟨q1,q2⟩:=htd.pop w1 hm hxk
    have hIn:CfI S0 S M0 M id rest:=⟨w1,gr,hm,q1,hc⟩
    (repeat' ((conv=>whnf);first|rw [hi]|refine zB hr1 ?_|refine j6 hz2 ?_|refine ⟨.mp 3101 mb,⟨rfl,rfl⟩,?_⟩|refine ⟨.sl 39 _ _ _,⟨rfl,rfl,rfl,rfl⟩,?_⟩|refine zg ?_|((first|apply zb|apply za|apply zc)<;>intro h<;>try (exfalso;omega))|refine pay ?_|refine And.intro (by first|exact ⟨rfl,rfl,_,rfl⟩) ?_|intro _));(all_goals (conv=>whnf))
    all_goals try (exfalso;omega)
    exact zm ⟨S,M,rest,a,c,g1,g2⟩ hIn q2 (by (repeat ((conv=>whnf);refine vS ?_));exact trivial) (Ref.takes [2078,2077,3000,3100,3101,39] rfl (.keep rfl (fun _ h=>h) (.keep rfl (fun _ h=>h) (.keep rfl (fun _ h=>h) (.keep rfl (fun _ h=>h) (.keep rfl (fun _ h=>h) (.own rfl (by rw [Nat.mul_one];exact hct) (.nil _))))))))
   ·have hz2:=zmq hxk
    have hNed:1<=ned (kts S M) (tm S.E id):=by
     obtain ⟨r,e1,e2,e3⟩:=htd.top
     have:=ziC e2 (by rw [e3];exact fun h=>hxk ((ziV w1 hm hxr).1 h)) (by rw [e3];exact w1.pos1 hxr.1 hxr.2)
     omega
    have hsn:=fun z=>Go.EG.ints_snoc (k:=.i64) (zs:=rest++[x]) (z:=z)
    have hll:=fun z:Int=>show (rest++[x]++[z]).length=(rest++[x]).length+1 by simp
    have c1:=fun f1 f2 fp w hR hG=>zp2 bx bp bt bs mb S w1 M hm x hxr hxe.1 hxe.2 hxk (by have:=hNed;omega) f1 f2 fp w hR hG
    (repeat' ((conv=>whnf);first|rw [hi]|refine zB hr1 ?_|refine zfS hz2 ?_|(refine zh [2078,2077,3000,3100,3101] rfl (fun w hR h=>c1 _ _ _ w h (hG.castL hR)) ?_;rintro _ _ (⟨y,k1,k2,a',b',rfl,q2,q3,q4,q5,q6,rfl⟩|⟨S2,z,k1,k2,rfl,q2,q3,q4,q5,rfl⟩)<;>refine ⟨.v _,rfl,?_⟩)|refine ⟨.mp 3101 mb,⟨rfl,rfl⟩,?_⟩|refine ⟨.sl 39 _ _ _,⟨rfl,rfl,rfl,rfl⟩,?_⟩|refine zg ?_|((first|apply zb|apply za|apply zc)<;>intro h<;>try (exfalso;omega))|refine pay ?_|refine And.intro (by first|exact ⟨rfl,rfl,_,rfl⟩|exact ⟨by unfold maxLen;omega,by omega⟩) ?_|intro _));(all_goals (conv=>whnf))
    all_goals try (exfalso;omega)
    ·obtain ⟨p1,p2⟩:=htd.push w1 hm hxk q4 q2 q3 q5 q6
     refine zm ⟨S,M,rest++[x]++[y],_,_,k1,k2⟩ ⟨w1,gr,hm,p1,hc⟩ p2 (by (repeat ((conv=>whnf);refine vS ?_));exact trivial) (Ref.takes [2078,2077,3000,3100,3101,39] rfl (.keep rfl (fun _ h=>h) (.keep rfl (fun _ h=>h) (.keep rfl (fun _ h=>h) (.keep rfl (fun _ h=>h) (.keep rfl (fun _ h=>h) (.own (hll y).symm (hsn y) (.nil _))))))))
    ·have hm2:CaI S2 (M++[(x,z)]):=(hm.grow q3).snoc ⟨hxr.1,by have:=q3.len;omega⟩ (by rw [q3.tm hxr.2];exact q4)
     obtain ⟨p1,p2,p3⟩:=htd.learn w1 hm hxk ⟨hid.1,by omega⟩ q3 hm2
     exact zm ⟨S2,M++[(x,z)],rest++[x],a,c,k1,k2⟩ ⟨q2,gr.trans q3,hm2,p1,by dsimp only;omega⟩ p2 (by (repeat ((conv=>whnf);refine vS ?_));exact trivial) (Ref.takes [2078,2077,3000,3100,3101,39] rfl (.refl _))
theorem zp3 (bp:Nat) (w:World):Calls Tryz.prog zaL #[pS bp] w fun e w'=>∃ v L1,e=.returned v/\R w [] L1 w'/\∃ bx mb,v=pS bx/\L1=[mmB bx bp mb,mmE mb []]:=by
 refine zbO [.v (pS bp)] zj7 (by simp) ?_
 (repeat' ((conv=>whnf);first|((first|apply zb|apply za|apply zc)<;>intro h<;>try (exfalso;omega))|refine pay ?_|intro _));(all_goals (conv=>whnf))
 rename_i mb bx
 exact ⟨⟨[mmB bx bp mb,mmE mb []],Ref.takes [8,6] rfl (.keep rfl (fun _ h=>h) (.keep rfl (fun _ h=>h) (.nil _))),bx,mb,rfl,rfl⟩⟩
theorem zxv {a b c i K:Nat} (h1:a<=b+K) (h2:b<=c+K*i):a<=c+K*(i+1):=by rw [Nat.mul_succ];omega
structure CaG where
 i:Nat
 S:Sto
 M:List (Int × Int)
 out:List Int
 a:Option Addr
 c:Nat
 f1:List Nat
 f2:List Nat
structure CaJ (S0:Sto) (M0:List (Int × Int)) (ids:List Int) (ts:List (List Nat)) (x:CaG):Prop where
 i:x.i<=ids.length
 mm:MmQ S0 x.S M0 x.M (17920*x.i)
 len:x.out.length=x.i
 sig:∀ j,j<x.i->SigI x.S (x.out.getD j 0) (ts.getD j [])
def zxe (bx bp bt bs mb:Nat) (S0:Sto) (M0:List (Int × Int)) (ids:List Int) (ts:List (List Nat)) (v:Value) (L1:List Ent):Prop :=
 ∃ S M out a c g1 g2,MmQ S0 S M0 M (17920*ids.length)/\(out:List Int).length=ids.length/\(∀ j,j<ids.length->SigI S (out.getD j 0) (ts.getD j []))/\v=.tuple #[.slice a ids.length c,.nilIface]/\L1=fMk 78 77 bx bp bt bs mb S M g1 g2++[.own 813 a ids.length c zr 1 (zt .i64 out)]
theorem zp4 (bx bp bt bs mb:Nat) (S0:Sto) (hw:WF S0) (M0:List (Int × Int)) (hM:CaI S0 M0) (ids:List Int) (ts:List (List Nat)) (hts:∀ j,j<ids.length->EvI S0 (ids.getD j 0) (ts.getD j [])/\(ts.getD j []).length<=511) (hn:ids.length<=30) (hroom:S0.E.length+17920*ids.length<=S0.most) (ai:Option Addr) (ci:Nat) (f1 f2 fp:List Nat) (w:World) (hR:R w fp (fMk 78 77 bx bp bt bs mb S0 M0 f1 f2) w) (hG:qq w fp) (hin:In w fp ai (zt .i64 ids)) :
 Calls Tryz.prog xF #[pS bx,.slice ai ids.length ci] w fun e w'=>∃ v L1,e=.returned v/\R w fp L1 w'/\zxe bx bp bt bs mb S0 M0 ids ts v L1:=by
 refine zf [.ptr 3100 bx 0,.v (.slice ai ids.length ci)] zeD (by simp) hR ?_
 (repeat' ((conv=>whnf);first|((first|apply zb|apply za|apply zc)<;>intro h<;>try (exfalso;omega))|refine pay ?_|refine And.intro (by first|exact ⟨by omega,by omega,by omega,by unfold maxLen;omega⟩) ?_|intro _));(all_goals (conv=>whnf))
 rename_i b13
 refine zP CaG (fun y=>[(0,.ptr 3100 bx 0),(6,.sl 13 y.a y.out.length y.c),(14,.v (.slice ai ids.length ci)),(15,.v (.int .i64 ids.length)),(16,.v (.int .i64 y.i))])
  (fun y=>fMk 78 77 bx bp bt bs mb y.S y.M y.f1 y.f2++[.own 13 y.a y.out.length y.c zr 1 (zt .i64 y.out)]) (CaJ S0 M0 ids ts) (fun y=>ids.length - y.i)
  ⟨0,S0,M0,[],_,_,f1,f2⟩ ⟨Nat.zero_le _,⟨hw,Grow.refl S0,hM,by dsimp only;omega⟩,rfl,fun j hj=>absurd hj (Nat.not_lt_zero j)⟩ (by (repeat ((conv=>whnf);refine vS ?_));exact trivial) (Ref.takes [78,77,3000,3100,3101,13] rfl (.refl _)) ?_
 clear hR
 rintro ⟨i,S,M,out,a,c,g1,g2⟩ ⟨hi,⟨w1,gr,hm,hc⟩,hol,hsig⟩
 dsimp only at hi w1 gr hm hc hol hsig ⊢
 have hgm:=gr.most
 by_cases hlt:i<ids.length
 ·have rd:=fun {L:List Ent}=>rdI (L:=L) hin (i:=i) hlt
  have nr:ai≠none:=hin.ne' (k:=i) (by rw [y7];exact hlt)
  have q0:((i:Nat):Int).toNat=i:=by omega
  obtain ⟨hev,hl⟩:=hts i hlt
  generalize hx:ids.getD i 0=x at *
  have hmul:17920*(i+1)<=17920*ids.length:=Nat.mul_le_mul_left _ hlt
  have c1:=fun f1 f2 fp w hR hG=>zqY bx bp bt bs mb S w1 M hm x _ (hev.grow gr) hl (by omega) f1 f2 fp w hR hG
  have hsn:=fun z=>Go.EG.ints_snoc (k:=.i64) (zs:=out) (z:=z)
  have hll:=fun z:Int=>show (out++[z]).length=out.length+1 by simp
  (repeat' ((conv=>whnf);first|rw [q0]|refine ⟨_,rd,?_⟩|(refine zh [78,77,3000,3100,3101] rfl (fun w hR h=>c1 _ _ _ w h (hG.castL hR)) ?_;rintro _ _ ⟨S2,M2,z,k1,k2,hQ,hz,rfl,rfl⟩;refine ⟨.v _,rfl,?_⟩)|refine ⟨.sl 13 _ _ _,⟨rfl,rfl,rfl,rfl⟩,?_⟩|refine zg ?_|((first|apply zb|apply za|apply zc)<;>intro h<;>try (exfalso;omega))|refine pay ?_|refine And.intro (by first|exact ⟨by unfold maxLen;omega,by omega⟩) ?_|intro _));(all_goals (conv=>whnf))
  all_goals try (exfalso;omega)
  have hcn:=hQ.cnt
  have hl2:(out++[z]).length=i+1:=by rw [hll z,hol]
  have hc2:S2.E.length<=S0.E.length+17920*(i+1):=zxv hcn hc
  refine zm ⟨i+1,S2,M2,out++[z],_,_,k1,k2⟩ ⟨hlt,⟨hQ.wf,gr.trans hQ.grow,hQ.mem,hc2⟩,hl2,fun j hj=>?_⟩ (by ((try dsimp only);omega)) (by (repeat ((conv=>whnf);refine vS ?_));exact trivial) (Ref.takes [78,77,3000,3100,3101,13] rfl (.keep rfl (fun _ h=>h) (.keep rfl (fun _ h=>h) (.keep rfl (fun _ h=>h) (.keep rfl (fun _ h=>h) (.keep rfl (fun _ h=>h) (.own (hll z).symm (hsn z) (.nil _))))))))
  dsimp only at hj ⊢
  by_cases hji:j<i
  ·rw [qY (by omega)]
   exact (hsig j hji).grow hQ.grow
  ·obtain rfl:j=i:=by omega
   rw [g1q,List.getElem?_append_right (by omega),hol,Nat.sub_self]
   exact hz
 ·obtain rfl:i=ids.length:=by omega
  (repeat' ((conv=>whnf);first|refine ⟨.sl 13 _ _ _,⟨rfl,rfl,rfl,rfl⟩,?_⟩|refine zg ?_|((first|apply zb|apply za|apply zc)<;>intro h<;>try (exfalso;omega))|refine pay ?_|intro _));(all_goals (conv=>whnf))
  all_goals try (exfalso;omega)
  rw [hol]
  exact ⟨⟨_,Ref.takes [78,77,3000,3100,3101,13] rfl (.keep rfl (fun _ h=>h) (.keep rfl (fun _ h=>h) (.keep rfl (fun _ h=>h) (.keep rfl (fun _ h=>h) (.keep rfl (fun _ h=>h) (.own (k':=813) rfl rfl (.nil _))))))),S,M,out,_,_,_,_,⟨w1,gr,hm,hc⟩,hol,hsig,rfl,rfl⟩⟩
end
section
open Go.EG
def bl (b:ByteArray):List Nat:=b.data.toList.map UInt8.toNat
theorem jg (b:ByteArray):(bl b).length=b.size:=by
 unfold bl;rw [g8q];rfl
theorem ziE (a b:ByteArray):bl (a++b)=bl a++bl b:=by
 unfold bl;rw [ByteArray.data_append,Array.toList_append,List.map_append]
theorem zhs (b:ByteArray) (i j:Nat):bl (b.extract i j)=((bl b).drop i).take (j - i):=by
 unfold bl
 rw [ByteArray.data_extract,Array.toList_extract,List.extract_eq_take_drop,List.map_take,List.map_drop]
theorem zv7 (b:ByteArray):∀ x∈bl b,x<256:=fun x hx=>by
 obtain ⟨u,_,rfl⟩:=List.mem_map.1 hx
 exact u.toNat_lt
theorem zxf {a b:ByteArray} (h:bl a=bl b):a=b:=by
 unfold bl at h
 have:=(List.map_inj_right (f:=UInt8.toNat) (fun x y h=>UInt8.toNat_inj.1 h)).1 h
 exact ByteArray.ext (Array.toList_inj.1 this)
structure Mk where
 k:Int
 a:Int
 b:Int
 n:Int
 m:Int
 t:ByteArray
def ziX (x:Int):Prop:=-9223372036854775808<=x/\x<=9223372036854775807
structure MkOk (m:Mk):Prop where
 hk:ziX m.k
 ha:ziX m.a
 hb:ziX m.b
 hn:ziX m.n
 hm:ziX m.m
 ht:m.t.size<=9223372036854775807
def mk0:Mk:=⟨0,0,0,0,0,⟨#[]⟩⟩
def mkC (m:Mk):List Value:=[.int .i64 m.k,.int .i64 m.a,.int .i64 m.b,.int .i64 m.n,.int .i64 m.m,.string m.t]
def zbD (g:List Mk):List Value:=g.flatMap mkC
theorem zp5:∀ g:List Mk,(zbD g).length=g.length*6
 | []=>rfl
 | x :: g => by
   have:=zp5 g
   simp only [zbD,List.flatMap_cons,g6q,List.length_cons,mkC,List.length_nil] at this ⊢
   omega
theorem zrH:∀ {g:List Mk} {i:Nat},i<g.length->((zbD g).drop (i*6)).take 6=mkC (g.getD i mk0)
 | [],i,h=>by simp at h
 | x::g,0,h=>by simp [zbD,mkC]
 | x :: g,i + 1,h => by
   have ih:=zrH (g:=g) (i:=i) (by simpa using h)
   have e1:zbD (x::g)=mkC x++zbD g:=by simp [zbD]
   rw [e1,show (i+1)*6=(mkC x).length+i*6 by simp [mkC];omega,←List.drop_drop,List.drop_left]
   simpa using ih
def tws (T:List ByteArray):List Value:=T.map .string
theorem zrI (T:List ByteArray):(tws T).length=T.length:=by simp [tws]
theorem zvN (T:List ByteArray) (x:ByteArray):tws T++[.string x]=tws (T++[x]):=by simp [tws]
def by0:ByteArray:=⟨#[]⟩
theorem zgr {T:List ByteArray} {i:Nat} (h:i<T.length):(tws T)[i]?=some (.string (T.getD i by0)):=by
 simp [tws,h]
theorem zxg (k n:Int):(k.tmod n+n)%n=k%n:=by
 rw [Int.tmod_def,Int.add_emod_right,Int.sub_eq_add_neg,←Int.mul_neg,Int.add_mul_emod_self_left]
def kG (a:ByteArray):Nat->ByteArray->ByteArray
 | 0,out=>out
 | n+1,out=>if out.size<=400 then kG a n (out++a) else out
theorem znc {a out:ByteArray} (h:400<out.size):∀ n,kG a n out=out
 | 0=>rfl
 | n+1=>by rw [kG,if_neg (by omega)]
theorem zmw {a:ByteArray}:∀ {n:Nat} {out:ByteArray},(kG a n out).size<=400->bl (kG a n out)=bl out++cps n (bl a)
 | 0,out,h=>by simp [kG,cps]
 | n + 1,out,h => by
   rw [kG] at h ⊢
   by_cases h1:out.size<=400
   ·rw [if_pos h1] at h ⊢
    rw [zmw h,ziE,List.append_assoc]
    congr 1
   ·rw [if_neg h1] at h
    omega
def plF (T:List ByteArray) (m:Mk):ByteArray × Bool :=
 if m.k%6=0∨T.length=0 then (m.t,decide (m.t.size<=60))
 else
  let a:=T.getD (m.a%T.length).toNat by0
  let b:=T.getD (m.b%T.length).toNat by0
  if m.k%6=1 then (a++b,decide (a.size+b.size<=400))
  else if m.k%6=2∨m.k%6=5 then (kG a (m.n%7).toNat by0,decide ((kG a (m.n%7).toNat by0).size<=400))
  else
   let f:=(m.n%(a.size+1:Nat)).toNat
   if m.k%6=3 then (a.extract f (f+(m.m%(a.size - f+1:Nat)).toNat),true)
   else (a.extract f a.size++a.extract 0 f,true)
theorem zvO {T:List ByteArray} (hT:∀ x∈T,x.size<=400) {m:Mk} (h:(plF T m).2=true):(plF T m).1.size<=400:=by
 unfold plF at h ⊢
 by_cases h1:m.k%6=0∨T.length=0
 ·rw [if_pos h1] at h ⊢
  have:=of_decide_eq_true h
  exact Nat.le_trans this (by decide)
 ·rw [if_neg h1] at h ⊢
  have hpos:0<T.length:=by omega
  have hg:∀ x:Int,(T.getD (x%T.length).toNat by0).size<=400:=fun x=>by
   have h2:(x%(T.length:Int)).toNat<T.length:=by
    have:=Int.emod_lt_of_pos x (show (0:Int)<T.length by omega)
    have:=Int.emod_nonneg x (show (T.length:Int)≠0 by omega)
    omega
   rw [g1q,g2q h2]
   exact hT _ (List.getElem_mem _)
  have ha:=hg m.a
  have hb:=hg m.b
  dsimp only at h ⊢
  generalize T.getD (m.a%T.length).toNat by0=a at *
  generalize T.getD (m.b%T.length).toNat by0=b at *
  split at h
  ·rename_i h2;rw [if_pos h2]
   have:=of_decide_eq_true h
   show (a++b).size<=400
   rw [ByteArray.size_append];exact this
  ·rename_i h2;rw [if_neg h2]
   split at h
   ·rename_i h3;rw [if_pos h3]
    exact of_decide_eq_true h
   ·rename_i h3;rw [if_neg h3]
    have hf:(m.n%(a.size+1:Nat)).toNat<=a.size:=by
     have:=Int.emod_lt_of_pos m.n (show (0:Int)<((a.size+1:Nat):Int) by omega)
     have:=Int.emod_nonneg m.n (show ((a.size+1:Nat):Int)≠0 by omega)
     omega
    generalize (m.n%(a.size+1:Nat)).toNat=f at *
    split at h
    ·rename_i h4;rw [if_pos h4]
     dsimp only
     rw [ByteArray.size_extract];omega
    ·rename_i h4;rw [if_neg h4]
     dsimp only
     rw [ByteArray.size_append,ByteArray.size_extract,ByteArray.size_extract];omega
end
section
open Go.EG
attribute [local irreducible] z8 yN Go.Calls
set_option maxRecDepth 20000
set_option maxHeartbeats 4000000
theorem yB (k n:Int) (hk:ziX k) (hn:1<=n/\n<=4611686018427387904) (w:World):Calls Tryz.prog zR #[.int .i64 k,.int .i64 n] w fun e w'=>e=.returned (.int .i64 (k%n))/\Ext w w':=by
 refine zN [.v (.int .i64 k),.v (.int .i64 n)] w ziu (by simp) ?_
 rw [←zxg k n]
 have h1:=Int.tmod_lt_of_pos k (show 0<n by omega)
 have h2:-n<k.tmod n:=by
  have:=Int.lt_tmod_of_pos k (show 0<n by omega)
  omega
 obtain ⟨k1,k2⟩:=hk
 (repeat' ((conv=>whnf);first|((first|apply zb|apply za|apply zc)<;>intro h<;>try (exfalso;omega))|refine pay ?_|refine And.intro (by first|(refine ⟨?_,?_⟩<;>(dsimp only;omega))) ?_|intro _));(all_goals (conv=>whnf))
 all_goals try (exfalso;omega)
 all_goals exact ⟨rfl⟩
theorem xv (x:Int) (n:Nat) (hn:0<n):∃ j:Nat,x%(n:Int)=j/\j<n:=by
 have h1:=Int.emod_lt_of_pos x (show (0:Int)<n by omega)
 have h2:=Int.emod_nonneg x (show (n:Int)≠0 by omega)
 exact ⟨(x%n).toNat,by omega,by omega⟩
theorem zcU {T:List ByteArray} {i:Nat} (h:i<T.length):T.getD i by0∈T:=by
 rw [g1q,g2q h]
 exact List.getElem_mem _
theorem zqZ (T:List ByteArray) (hT:∀ x∈T,x.size<=400) (hTl:T.length<=30) (m:Mk) (hm:MkOk m) (a:Option Addr) (c:Nat) (w:World) (hin:In w [] a (tws T)) :
 Calls Tryz.prog uv #[.slice a T.length c,.agg (mkC m).toArray] w fun e w'=>e=.returned (.tuple #[.string (plF T m).1,.bool (plF T m).2])/\Ext w w':=by
 refine zN [.v (.slice a T.length c),.v (.agg (mkC m).toArray)] w zgh (by simp) ?_
 have c6:=fun w=>yB m.k 6 hm.hk ⟨by omega,by omega⟩ w
 have c7:=fun w=>yB m.n 7 hm.hn ⟨by omega,by omega⟩ w
 obtain ⟨kd,hkd,hkl⟩:=xv m.k 6 (by omega)
 obtain ⟨nn,hnn,hnl⟩:=xv m.n 7 (by omega)
 have hkd:m.k%6=kd:=hkd
 have hnn:m.n%7=nn:=hnn
 unfold plF
 rw [hkd] at c6 ⊢
 rw [hnn] at c7 ⊢
 have hts:=hm.ht
 have e60:decide ((m.t.size:Int)<=60)=decide (m.t.size<=60):=by rw [decide_eq_decide];omega
 by_cases h1:(kd:Int)=0∨T.length=0
 ·rw [if_pos h1]
  by_cases h0:(kd:Int)=0
  ·(repeat' ((conv=>whnf);first|(first|refine puK c6 ?_|refine quK c6 ?_)|refine zg ?_|((first|apply zb|apply za|apply zc)<;>intro h<;>try (exfalso;omega))|refine pay ?_|intro _));(all_goals (conv=>whnf))
   all_goals try (exfalso;omega)
   all_goals exact ⟨by rw [e60]⟩
  ·(repeat' ((conv=>whnf);first|(first|refine puK c6 ?_|refine quK c6 ?_)|refine zg ?_|((first|apply zb|apply za|apply zc)<;>intro h<;>try (exfalso;omega))|refine pay ?_|intro _));(all_goals (conv=>whnf))
   all_goals try (exfalso;omega)
   all_goals exact ⟨by rw [e60]⟩
 ·rw [if_neg h1]
  have hpos:0<T.length:=by omega
  have ca:=fun w=>yB m.a T.length hm.ha ⟨by omega,by omega⟩ w
  have cb:=fun w=>yB m.b T.length hm.hb ⟨by omega,by omega⟩ w
  obtain ⟨ja,hja,hal⟩:=xv m.a T.length hpos
  obtain ⟨jb,hjb,hbl⟩:=xv m.b T.length hpos
  rw [hja] at ca ⊢
  rw [hjb] at cb ⊢
  dsimp only
  rw [g7q,g7q,g7q]
  have nr:a≠none:=hin.ne' (k:=ja) (by rw [zrI];exact hal)
  have ra:=fun {L:List Ent}=>hin.rd (L:=L) (zgr hal)
  have rb:=fun {L:List Ent}=>hin.rd (L:=L) (zgr hbl)
  have hx:=hT _ (zcU hal)
  have hy:=hT _ (zcU hbl)
  have qa:((ja:Nat):Int).toNat=ja:=by omega
  have qb:((jb:Nat):Int).toNat=jb:=by omega
  generalize T.getD ja by0=x at *
  generalize T.getD jb by0=y at *
  have hk:kd=1∨(kd=2∨kd=5)∨kd=3∨kd=4:=by omega
  rcases hk with rfl|hk|rfl|rfl
  ·have e400:decide ((x.size:Int)+(y.size:Int)<=400)=decide (x.size+y.size<=400):=by rw [decide_eq_decide];omega
   rw [if_pos (by rfl)]
   (repeat' ((conv=>whnf);first|(first|refine puK c6 ?_|refine quK c6 ?_)|(first|refine puK c7 ?_|refine quK c7 ?_)|(first|refine puK ca ?_|refine quK ca ?_)|(first|refine puK cb ?_|refine quK cb ?_)|rw [qa]|rw [qb]|refine ⟨_,ra,?_⟩|refine ⟨_,rb,?_⟩|refine zg ?_|((first|apply zb|apply za|apply zc)<;>intro h<;>try (exfalso;omega))|refine pay ?_|intro _));(all_goals (conv=>whnf))
   all_goals try (exfalso;omega)
   all_goals exact ⟨by rw [e400]⟩
  ·rw [if_neg (show ¬((kd:Nat):Int)=1 by omega),if_pos (show ((kd:Nat):Int)=2∨((kd:Nat):Int)=5 by omega)]
   by_cases h2:kd=2
   ·subst h2
    (repeat' ((conv=>whnf);first|(first|refine puK c6 ?_|refine quK c6 ?_)|(first|refine puK c7 ?_|refine quK c7 ?_)|(first|refine puK ca ?_|refine quK ca ?_)|(first|refine puK cb ?_|refine quK cb ?_)|rw [qa]|rw [qb]|refine ⟨_,ra,?_⟩|refine ⟨_,rb,?_⟩|refine zg ?_|((first|apply zb|apply za|apply zc)<;>intro h<;>try (exfalso;omega))|refine pay ?_|intro _));(all_goals (conv=>whnf))
    all_goals try (exfalso;omega)
    refine zP (Nat × ByteArray) (fun z=>[(7,.v (.string x)),(9,.v (.int .i64 nn)),(10,.v (.string z.2)),(11,.v (.int .i64 z.1))]) (fun _=>[]) (fun z=>z.1<=nn/\kG x (nn - z.1) z.2=kG x nn by0/\z.2.size<=800) (fun z=>nn - z.1) (0,by0) ⟨Nat.zero_le _,rfl,Nat.zero_le _⟩ (by (repeat ((conv=>whnf);refine vS ?_));exact trivial) (Thin.ref (by (repeat (first|exact Thin.nil _|exact Thin.refl _|refine Thin.keep rfl (fun _ h=>h) ?_|refine Thin.skip ?_)))) ?_
    rintro ⟨i,out⟩ ⟨hi,ho,hs⟩
    dsimp only at hi ho hs ⊢
    have e4:decide ((out.size:Int)<=400)=decide (out.size<=400):=by rw [decide_eq_decide];omega
    by_cases h4:out.size<=400
    ·by_cases hlt:i<nn
     ·have hn:kG x (nn - (i+1)) (out++x)=kG x nn by0:=by
       rw [←ho,show nn - i=(nn - (i+1))+1 by omega,kG,if_pos h4]
      have hz:(out++x).size=out.size+x.size:=ByteArray.size_append
      (repeat' ((conv=>whnf);first|((first|apply zb|apply za|apply zc)<;>intro h<;>try (exfalso;omega))|refine pay ?_|intro _));(all_goals (conv=>whnf))
      all_goals try (exfalso;omega)
      exact zm (i+1,out++x) ⟨hlt,hn,by dsimp only;omega⟩ (by ((try dsimp only);omega)) (by (repeat ((conv=>whnf);refine vS ?_));exact trivial) (Ref.refl _)
     ·have:out=kG x nn by0:=by rw [←ho,show nn - i=0 by omega];rfl
      rw [←this]
      (repeat' ((conv=>whnf);first|((first|apply zb|apply za|apply zc)<;>intro h<;>try (exfalso;omega))|refine pay ?_|intro _));(all_goals (conv=>whnf))
      all_goals try (exfalso;omega)
      all_goals exact ⟨by rw [e4]⟩
    ·have:out=kG x nn by0:=by rw [←ho,znc (by omega)]
     rw [←this]
     (repeat' ((conv=>whnf);first|((first|apply zb|apply za|apply zc)<;>intro h<;>try (exfalso;omega))|refine pay ?_|intro _));(all_goals (conv=>whnf))
     all_goals try (exfalso;omega)
     all_goals exact ⟨by rw [e4]⟩
   ·obtain rfl:kd=5:=by omega
    (repeat' ((conv=>whnf);first|(first|refine puK c6 ?_|refine quK c6 ?_)|(first|refine puK c7 ?_|refine quK c7 ?_)|(first|refine puK ca ?_|refine quK ca ?_)|(first|refine puK cb ?_|refine quK cb ?_)|rw [qa]|rw [qb]|refine ⟨_,ra,?_⟩|refine ⟨_,rb,?_⟩|refine zg ?_|((first|apply zb|apply za|apply zc)<;>intro h<;>try (exfalso;omega))|refine pay ?_|intro _));(all_goals (conv=>whnf))
    all_goals try (exfalso;omega)
    refine zP (Nat × ByteArray) (fun z=>[(7,.v (.string x)),(9,.v (.int .i64 nn)),(10,.v (.string z.2)),(11,.v (.int .i64 z.1))]) (fun _=>[]) (fun z=>z.1<=nn/\kG x (nn - z.1) z.2=kG x nn by0/\z.2.size<=800) (fun z=>nn - z.1) (0,by0) ⟨Nat.zero_le _,rfl,Nat.zero_le _⟩ (by (repeat ((conv=>whnf);refine vS ?_));exact trivial) (Thin.ref (by (repeat (first|exact Thin.nil _|exact Thin.refl _|refine Thin.keep rfl (fun _ h=>h) ?_|refine Thin.skip ?_)))) ?_
    rintro ⟨i,out⟩ ⟨hi,ho,hs⟩
    dsimp only at hi ho hs ⊢
    have e4:decide ((out.size:Int)<=400)=decide (out.size<=400):=by rw [decide_eq_decide];omega
    by_cases h4:out.size<=400
    ·by_cases hlt:i<nn
     ·have hn:kG x (nn - (i+1)) (out++x)=kG x nn by0:=by
       rw [←ho,show nn - i=(nn - (i+1))+1 by omega,kG,if_pos h4]
      have hz:(out++x).size=out.size+x.size:=ByteArray.size_append
      (repeat' ((conv=>whnf);first|((first|apply zb|apply za|apply zc)<;>intro h<;>try (exfalso;omega))|refine pay ?_|intro _));(all_goals (conv=>whnf))
      all_goals try (exfalso;omega)
      exact zm (i+1,out++x) ⟨hlt,hn,by dsimp only;omega⟩ (by ((try dsimp only);omega)) (by (repeat ((conv=>whnf);refine vS ?_));exact trivial) (Ref.refl _)
     ·have:out=kG x nn by0:=by rw [←ho,show nn - i=0 by omega];rfl
      rw [←this]
      (repeat' ((conv=>whnf);first|((first|apply zb|apply za|apply zc)<;>intro h<;>try (exfalso;omega))|refine pay ?_|intro _));(all_goals (conv=>whnf))
      all_goals try (exfalso;omega)
      all_goals exact ⟨by rw [e4]⟩
    ·have:out=kG x nn by0:=by rw [←ho,znc (by omega)]
     rw [←this]
     (repeat' ((conv=>whnf);first|((first|apply zb|apply za|apply zc)<;>intro h<;>try (exfalso;omega))|refine pay ?_|intro _));(all_goals (conv=>whnf))
     all_goals try (exfalso;omega)
     all_goals exact ⟨by rw [e4]⟩
  ·have q1:((x.size:Int)+1)=((x.size+1:Nat):Int):=by omega
   have cf:=fun w=>yB m.n (x.size+1:Nat) hm.hn ⟨by omega,by omega⟩ w
   obtain ⟨f,hf,hfl⟩:=xv m.n (x.size+1) (by omega)
   rw [hf] at cf
   have cg:=fun w=>yB m.m (x.size - f+1:Nat) hm.hm ⟨by omega,by omega⟩ w
   obtain ⟨g,hg,hgl⟩:=xv m.m (x.size - f+1) (by omega)
   rw [hg] at cg
   have q2:((x.size:Int) - (f:Int)+1)=((x.size - f+1:Nat):Int):=by omega
   rw [if_neg (by decide),if_neg (by decide),if_pos (by rfl),hf,g7q,hg,g7q]
   have q3:((f:Nat):Int).toNat=f:=by omega
   have q4:((f:Int)+(g:Int)).toNat=f+g:=by omega
   (repeat' ((conv=>whnf);first|(first|refine puK c6 ?_|refine quK c6 ?_)|(first|refine puK c7 ?_|refine quK c7 ?_)|(first|refine puK ca ?_|refine quK ca ?_)|(first|refine puK cb ?_|refine quK cb ?_)|(first|refine puK cf ?_|refine quK cf ?_)|(first|refine puK cg ?_|refine quK cg ?_)|rw [qa]|rw [qb]|rw [q1]|rw [q2]|rw [q3]|rw [q4]|refine ⟨_,ra,?_⟩|refine ⟨_,rb,?_⟩|refine zg ?_|((first|apply zb|apply za|apply zc)<;>intro h<;>try (exfalso;omega))|refine pay ?_|intro _));(all_goals (conv=>whnf))
   all_goals try (exfalso;omega)
   exact ⟨rfl⟩
  ·have q1:((x.size:Int)+1)=((x.size+1:Nat):Int):=by omega
   have cf:=fun w=>yB m.n (x.size+1:Nat) hm.hn ⟨by omega,by omega⟩ w
   obtain ⟨f,hf,hfl⟩:=xv m.n (x.size+1) (by omega)
   rw [hf] at cf
   rw [if_neg (by decide),if_neg (by decide),if_neg (by decide),hf,g7q]
   have q3:((f:Nat):Int).toNat=f:=by omega
   have q4:((x.size:Nat):Int).toNat=x.size:=by omega
   have q5:Int.toNat 0=0:=rfl
   have s1:(x.extract f x.size).size=x.size - f:=by rw [ByteArray.size_extract];omega
   have s2:(x.extract 0 f).size=f:=by rw [ByteArray.size_extract];omega
   (repeat' ((conv=>whnf);first|(first|refine puK c6 ?_|refine quK c6 ?_)|(first|refine puK c7 ?_|refine quK c7 ?_)|(first|refine puK ca ?_|refine quK ca ?_)|(first|refine puK cb ?_|refine quK cb ?_)|(first|refine puK cf ?_|refine quK cf ?_)|rw [qa]|rw [qb]|rw [q1]|rw [q3]|rw [q4]|rw [q5]|refine ⟨_,ra,?_⟩|refine ⟨_,rb,?_⟩|refine zg ?_|((first|apply zb|apply za|apply zc)<;>intro h<;>try (exfalso;omega))|refine pay ?_|intro _));(all_goals (conv=>whnf))
   all_goals try (exfalso;omega)
   exact ⟨rfl⟩
end
end Go.Proofs.YtdcbghoalnlcmaaGreatDoor
namespace Go.EG
theorem In.besideBy {w0 w:World} {fp0:List Nat} {key b:Nat} {L0 Lr:List Ent} {bs:List Nat} (hR:R w0 fp0 (L0++Lr) w) (hm:Ent.abs key [b] (zfK b bs)∈Lr):In w (fps L0) (some ⟨b,0,none⟩) (xd bs):=by
 by_cases hx:xd bs=[]
 ·exact .inl hx
 ·have hro:zfK b bs w:=Ent.abs_ok (hR.ok _ (List.mem_append_right L0 hm))
  have hpos:0<(xd bs).length:=List.length_pos_iff.2 hx
  have hc:=hro 0 _ (g2q hpos)
  refine .inr ⟨b,0,rfl,?_,fun hg=>?_,fun j v hv=>?_⟩
  ·unfold World.cell? at hc
   rcases Nat.lt_or_ge b w.heap.size with h|h
   ·exact h
   ·rw [Array.getElem?_eq_none h] at hc
    simp at hc
  ·have hnd:=hR.nodup
   rw [yK] at hnd
   refine (List.nodup_append.1 hnd).2.2 b hg b ?_ rfl
   exact List.mem_flatMap.2 ⟨_,hm,by simp [Ent.fp]⟩
  ·rw [Nat.zero_add]
   exact hro j v hv
theorem In.byBeside {w0 w:World} {fp0:List Nat} {key1 key b:Nat} {fp:List Nat} {α:Type} {fA:α->List Ent} {Lr:List Ent} {bs:List Nat} (hR:R w0 fp0 (packE key1 fp fA::Lr) w) (hm:Ent.abs key [b] (zfK b bs)∈Lr):In w fp (some ⟨b,0,none⟩) (xd bs):=by
 have:=In.besideBy (L0:=[packE key1 fp fA]) hR hm
 simpa [packE,Ent.fp,fps] using this
end Go.EG
namespace Go.Proofs.YtdcbghoalnlcmaaGreatDoor
section
open Go.EG
attribute [local irreducible] z8 yN Go.Calls
set_option maxRecDepth 20000
set_option maxHeartbeats 4000000
theorem zp6 (b:Nat) (S:Sto) (a:Option Addr) (c:Nat):SC vI #[pS b,.slice a 0 c] b S S (.tuple #[.int .i64 0,.nilIface]):=by
 intro key fp w hR
 refine zf [.v (pS b),.v (.slice a 0 c)] zeY (by simp) (hR.key 77) ?_
 (repeat' ((conv=>whnf);first|refine zg ?_|((first|apply zb|apply za|apply zc)<;>intro h<;>try (exfalso;omega))|refine pay ?_|intro _));(all_goals (conv=>whnf))
 all_goals try (exfalso;omega)
 all_goals exact ⟨qe (by (repeat (first|exact Thin.nil _|exact Thin.refl _|refine Thin.keep rfl (fun _ h=>h) ?_|refine Thin.skip ?_))) rfl⟩
theorem zp7 (b:Nat) (t:List Nat) (hl:t.length<=60) (ht:∀ x∈t,x<256) (S:Sto) (hw:WF S) (hroom:S.E.length+120<=S.most) (a:Option Addr) (c:Nat) (hc:t.length<=c) (hc2:c<=9223372036854775807) (key:Nat) (fp:List Nat) (w:World) (hR:StR w key fp b S) (hin:In w fp a (xd t)) :
 Calls Tryz.prog vI #[pS b,.slice a t.length c] w fun e w'=>∃ v L1,e=.returned v/\R w fp L1 w'/\∃ S' z fp',v=.tuple #[.int .i64 z,.nilIface]/\EvJ S S' z t 4000/\L1=[packE key fp' (fS b S')]:=by
 by_cases h0:t=[]
 ·subst h0
  exact (zp6 b S a c key fp w hR).mono fun e w' ⟨v,L1,he,hR',hv,g,hL⟩=>⟨v,L1,he,hR',S,0,g,hv,⟨hw,Grow.refl S,.inl ⟨rfl,rfl⟩,by omega⟩,hL⟩
 ·have hb:byL t=xd t:=by simp [byL,zt,xd]
  exact (zqQ b t (List.length_pos_iff.2 h0) (by omega) ht S hw (by omega) a c hc hc2 key fp w hR (by rw [hb];exact hin)).mono fun e w' ⟨v,L1,he,hR',S1,x1,f1,hv,w1,g1,p1,k1,t1,v1,d1,l1,hL⟩=>⟨v,L1,he,hR',S1,x1,f1,hv,⟨w1,g1,.inr ⟨p1,k1,v1,t1⟩,by omega⟩,hL⟩
structure Md (S:Sto) (ids:List Int) (T:List ByteArray):Prop where
 len:ids.length=T.length
 ev:∀ j,j<T.length->EvI S (ids.getD j 0) (bl (T.getD j by0))
 size:∀ x∈T,x.size<=400
def mdQ (key b:Nat) (S:Sto) (t:List Nat) (v:Value) (L1:List Ent):Prop:=∃ S' z fp',v=.tuple #[.int .i64 z,.nilIface]/\EvJ S S' z t 4000/\L1=[packE key fp' (fS b S')]
theorem zq0 {S:Sto} (hw:WF S) {a:Int} {u:List Nat} (ha:EvI S a u) {n:Nat} (hl:(cps n u).length<=511) (hroom:S.E.length<S.most) :
 ∃ S' x,zbU S a n=(S',x,0)/\WF S'/\Grow S S'/\S'.E.length<=S.E.length+1/\(EvI S' x (cps n u)∨∃ a n' u',PwI S' x a n' u'/\cps n u=cps n' u'):=by
 have hk:=ha.known
 unfold zbU
 rw [if_neg (by rintro (hh|hh);exact hh hk;omega)]
 by_cases h0:(n:Int)=0∨a=0
 ·rw [if_pos h0]
  refine ⟨S,0,rfl,hw,Grow.refl S,by omega,.inl (.inl ⟨rfl,?_⟩)⟩
  rcases h0 with h0|h0
  ·obtain rfl:n=0:=by omega
   rfl
  ·rcases ha with ⟨_,rfl⟩|h
   ·exact List.eq_nil_of_length_eq_zero (by rw [zca];simp)
   ·omega
 ·rw [if_neg h0]
  by_cases h1:(n:Int)=1
  ·rw [if_pos h1]
   obtain rfl:n=1:=by omega
   exact ⟨S,a,rfl,hw,Grow.refl S,by omega,.inl (by simpa [cps] using ha)⟩
  ·rw [if_neg h1]
   have ha1:1<=a/\a<=S.E.length:=by
    have:=hk.1
    have:=hk.2
    omega
   have hLM:LM=1152921504606846976:=rfl
   have hlen:(tm S.E a).len*(n:Int).toNat<=LM:=by
    unfold Tm.len
    rw [ha.txt.1,g7q]
    rw [zca,Nat.mul_comm] at hl
    omega
   rw [if_neg (by omega)]
   obtain ⟨s1,s2,s3,s4,s5⟩:=zkY hw (zrj ha1.1 ha1.2 (show (2:Int)<=n by omega) hlen)
   have hz:(qo S (uL a n)).2.2=0:=by
    cases hh:(qo S (uL a n)).2.2 with
    | zero=>rfl
    | succ q=>have:=(s4 (by rw [hh];simp)).2.1;omega
   obtain ⟨t1,t2,t3,t4⟩:=s3 hz
   refine ⟨(qo S (uL a n)).1,(qo S (uL a n)).2.1,?_,s1,s2,s5,.inr ⟨a,n,u,?_,rfl⟩⟩
   ·rw [←hz]
   ·have hlt:a<(qo S (uL a n)).2.1:=by
     obtain ⟨ho,_⟩:=s1.at_ t1 t2.2
     rw [t4] at ho
     have k3:(uL a n).k=3:=rfl
     have k4:(uL a n).a=a:=rfl
     rcases ho with ho|ho|ho
     ·omega
     ·omega
     ·omega
    exact ⟨t1,t2.2,by rw [t4];rfl,by rw [t4];rfl,by rw [t4];rfl,by omega,ha1.1,hlt,ha.grow s2⟩
theorem zv8 {T:List ByteArray} {j:Nat} (hT:∀ x∈T,x.size<=400) (h:j<T.length):(bl (T.getD j by0)).length<=400:=by
 rw [jg];exact hT _ (zcU h)
theorem zsN (hs:zaw Tryz.prog zo) (hn:zbz Tryz.prog zo) (b:Nat) (S:Sto) (hw:WF S) (ids:List Int) (T:List ByteArray) (hM:Md S ids T) (hTl:T.length<=30) (m:Mk) (hm:MkOk m) (hp:(plF T m).2=true) (hroom:S.E.length+4000<=S.most)
 (ai at_:Option Addr) (ci ct key:Nat) (fp:List Nat) (w:World) (hR:StR w key fp b S) (hin1:In w fp ai (zt .i64 ids)) (hin2:In w fp at_ (tws T)) :
 Calls Tryz.prog uP #[pS b,.slice ai ids.length ci,.slice at_ T.length ct,.agg (mkC m).toArray] w fun e w'=>∃ v L1,e=.returned v/\R w fp L1 w'/\mdQ key b S (bl (plF T m).1) v L1:=by
 refine zf [.v (pS b),.v (.slice ai ids.length ci),.v (.slice at_ T.length ct),.v (.agg (mkC m).toArray)] zhl (by simp) (hR.key 77) ?_
 have hil:=hM.len
 have c6:=fun w=>yB m.k 6 hm.hk ⟨by omega,by omega⟩ w
 have c7:=fun w=>yB m.n 7 hm.hn ⟨by omega,by omega⟩ w
 obtain ⟨kd,hkd,hkl⟩:=xv m.k 6 (by omega)
 obtain ⟨nn,hnn,hnl⟩:=xv m.n 7 (by omega)
 have hkd:m.k%6=kd:=hkd
 have hnn:m.n%7=nn:=hnn
 unfold plF at hp ⊢
 rw [hkd] at c6 hp ⊢
 rw [hnn] at c7 hp ⊢
 by_cases h1:(kd:Int)=0∨T.length=0
 ·rw [if_pos h1] at hp ⊢
  have h60:m.t.size<=60:=of_decide_eq_true hp
  have hbl:=jg m.t
  dsimp only
  have c1:=fun a c hc hc2 key fp w hR hin=>zp7 b (bl m.t) (by omega) (zv7 m.t) S hw (by omega) a c hc hc2 key fp w hR hin
  rw [hbl] at c1
  by_cases h0:(kd:Int)=0
  ·(repeat' ((conv=>whnf);first|(first|refine puK c6 ?_|refine quK c6 ?_)|refine zg ?_|((first|apply zb|apply za|apply zc)<;>intro h<;>try (exfalso;omega))|refine pay ?_|intro _));(all_goals (conv=>whnf))
   all_goals try (exfalso;omega)
   rename_i bb cc hcc1 hcc2
   refine qx (key:=77) rfl (fun w' hR' h0=>c1 _ _ hcc1 (hcc2 (by unfold maxLen;omega)) _ _ w' h0 (In.byBeside (key:=34) hR' (.head _))) ?_
   rintro _ _ ⟨S1,z,f1,rfl,hJ,rfl⟩
   refine ⟨.v _,rfl,?_⟩
   (repeat' ((conv=>whnf);first|refine zg ?_|((first|apply zb|apply za|apply zc)<;>intro h<;>try (exfalso;omega))|refine pay ?_|intro _));(all_goals (conv=>whnf))
   exact ⟨⟨_,Thin.ref (.packE (.skip (.skip (.nil _)))),S1,z,_,rfl,hJ,rfl⟩⟩
  ·(repeat' ((conv=>whnf);first|(first|refine puK c6 ?_|refine quK c6 ?_)|refine zg ?_|((first|apply zb|apply za|apply zc)<;>intro h<;>try (exfalso;omega))|refine pay ?_|intro _));(all_goals (conv=>whnf))
   all_goals try (exfalso;omega)
   rename_i bb cc hcc1 hcc2
   refine qx (key:=77) rfl (fun w' hR' h0=>c1 _ _ hcc1 (hcc2 (by unfold maxLen;omega)) _ _ w' h0 (In.byBeside (key:=34) hR' (.head _))) ?_
   rintro _ _ ⟨S1,z,f1,rfl,hJ,rfl⟩
   refine ⟨.v _,rfl,?_⟩
   (repeat' ((conv=>whnf);first|refine zg ?_|((first|apply zb|apply za|apply zc)<;>intro h<;>try (exfalso;omega))|refine pay ?_|intro _));(all_goals (conv=>whnf))
   exact ⟨⟨_,Thin.ref (.packE (.skip (.skip (.nil _)))),S1,z,_,rfl,hJ,rfl⟩⟩
 ·rw [if_neg h1] at hp ⊢
  have hpos:0<T.length:=by omega
  have ca:=fun w=>yB m.a T.length hm.ha ⟨by omega,by omega⟩ w
  have cb:=fun w=>yB m.b T.length hm.hb ⟨by omega,by omega⟩ w
  obtain ⟨ja,hja,hal⟩:=xv m.a T.length hpos
  obtain ⟨jb,hjb,hbl⟩:=xv m.b T.length hpos
  rw [hja] at ca hp ⊢
  rw [hjb] at cb hp ⊢
  dsimp only at hp ⊢
  rw [g7q,g7q,g7q] at hp ⊢
  have nt:at_≠none:=hin2.ne' (k:=ja) (by rw [zrI];exact hal)
  have ni:ai≠none:=hin1.ne' (k:=ja) (by rw [y7];omega)
  have rt:=fun {L:List Ent}=>hin2.rd (L:=L) (zgr hal)
  have ra:=fun {L:List Ent}=>rdI (L:=L) hin1 (i:=ja) (by omega)
  have rb:=fun {L:List Ent}=>rdI (L:=L) hin1 (i:=jb) (by omega)
  have hx:=zv8 hM.size hal
  have hy:=zv8 hM.size hbl
  have ea:=hM.ev ja hal
  have eb:=hM.ev jb hbl
  have qa:((ja:Nat):Int).toNat=ja:=by omega
  have qb:((jb:Nat):Int).toNat=jb:=by omega
  have cT:=ca
  rw [←hil] at ca cb
  generalize T.getD ja by0=x at *
  generalize T.getD jb by0=y at *
  generalize ids.getD ja 0=xi at *
  generalize ids.getD jb 0=yi at *
  have hbx:=jg x
  have hby:=jg y
  have hk:kd=1∨kd=2∨kd=5∨kd=3∨kd=4:=by omega
  rcases hk with rfl|rfl|rfl|rfl|rfl
  ·rw [if_pos (by rfl)] at hp ⊢
   have h4:x.size+y.size<=400:=of_decide_eq_true hp
   dsimp only
   rw [ziE]
   obtain ⟨S1,z,cj,hJ⟩:=kW S hw xi yi (bl x) (bl y) ea eb (by omega) (by omega)
   have cj:=cj b
   (repeat' ((conv=>whnf);first|(first|refine puK c6 ?_|refine quK c6 ?_)|(first|refine puK c7 ?_|refine quK c7 ?_)|(first|refine puK ca ?_|refine quK ca ?_)|(first|refine puK cb ?_|refine quK cb ?_)|(first|refine puK cT ?_|refine quK cT ?_)|refine SC.go 77 cj rfl fun fp'=>?_|rw [qa]|rw [qb]|refine ⟨_,ra,?_⟩|refine ⟨_,rb,?_⟩|refine ⟨_,rt,?_⟩|refine zg ?_|((first|apply zb|apply za|apply zc)<;>intro h<;>try (exfalso;omega))|refine pay ?_|intro _));(all_goals (conv=>whnf))
   all_goals try (exfalso;omega)
   all_goals exact ⟨⟨_,(Ref.takes (L1:=[packE 77 _ (fS b S1)]) [77] rfl (.refl _)).trans (Thin.ref (.packE (.nil _))),S1,z,_,rfl,hJ.mono (by omega),rfl⟩⟩
  ·rw [if_neg (by decide),if_pos (by decide)] at hp ⊢
   have h4:(kG x nn by0).size<=400:=of_decide_eq_true hp
   have h5:=zmw h4
   rw [show bl by0=[] from rfl,List.nil_append] at h5
   dsimp only
   rw [h5]
   have h6:nn*(bl x).length<=400:=by rw [←zca,←h5,jg];exact h4
   have cR:=fun key fp w hR=>znJ b S hw xi (bl x) nn ea (by omega) (by omega) (by omega) (by omega) key fp w hR
   (repeat' ((conv=>whnf);first|(first|refine puK c6 ?_|refine quK c6 ?_)|(first|refine puK c7 ?_|refine quK c7 ?_)|(first|refine puK ca ?_|refine quK ca ?_)|(first|refine puK cb ?_|refine quK cb ?_)|(first|refine puK cT ?_|refine quK cT ?_)|(refine qx (key:=77) rfl (fun w' hR' h0=>cR _ _ w' h0) ?_;rintro _ _ ⟨S1,z,f1,rfl,hJ,rfl⟩;refine ⟨.v _,rfl,?_⟩)|rw [qa]|rw [qb]|refine ⟨_,ra,?_⟩|refine ⟨_,rb,?_⟩|refine ⟨_,rt,?_⟩|refine zg ?_|((first|apply zb|apply za|apply zc)<;>intro h<;>try (exfalso;omega))|refine pay ?_|intro _));(all_goals (conv=>whnf))
   all_goals try (exfalso;omega)
   all_goals exact ⟨⟨_,(Ref.takes (L1:=[packE 77 _ (fS b S1)]) [77] rfl (.refl _)).trans (Thin.ref (.packE (.nil _))),S1,z,_,rfl,hJ.mono (by omega),rfl⟩⟩
  ·rw [if_neg (by decide),if_pos (by decide)] at hp ⊢
   have h4:(kG x nn by0).size<=400:=of_decide_eq_true hp
   have h5:=zmw h4
   rw [show bl by0=[] from rfl,List.nil_append] at h5
   dsimp only
   rw [h5]
   have h6:(cps nn (bl x)).length<=400:=by rw [←h5,jg];exact h4
   obtain ⟨S1,p,hpw,w1,g1,l1,hcase⟩:=zq0 hw ea (n:=nn) (by omega) (by omega)
   have hgm:=g1.most
   have cP:=zfj b S hw xi nn (by omega)
   rw [hpw] at cP
   have cO:=fun key fp w hR=>ztX hs hn b S1 w1 p (cps nn (bl x)) hcase (by omega) (by omega) key fp w hR
   (repeat' ((conv=>whnf);first|(first|refine puK c6 ?_|refine quK c6 ?_)|(first|refine puK c7 ?_|refine quK c7 ?_)|(first|refine puK ca ?_|refine quK ca ?_)|(first|refine puK cb ?_|refine quK cb ?_)|(first|refine puK cT ?_|refine quK cT ?_)|refine SC.go 77 cP rfl fun fp'=>?_|(refine qx (key:=77) rfl (fun w' hR' h0=>cO _ _ w' h0) ?_;rintro _ _ ⟨S2,z,f2,rfl,hJ,rfl⟩;refine ⟨.v _,rfl,?_⟩)|rw [qa]|rw [qb]|refine ⟨_,ra,?_⟩|refine ⟨_,rb,?_⟩|refine ⟨_,rt,?_⟩|refine zg ?_|((first|apply zb|apply za|apply zc)<;>intro h<;>try (exfalso;omega))|refine pay ?_|intro _));(all_goals (conv=>whnf))
   all_goals try (exfalso;omega)
   all_goals exact ⟨⟨_,(Ref.takes (L1:=[packE 77 _ (fS b S2)]) [77] rfl (.refl _)).trans (Thin.ref (.packE (.nil _))),S2,z,_,rfl,⟨hJ.wf,g1.trans hJ.grow,hJ.ev,by have:=hJ.cnt;omega⟩,rfl⟩⟩
  ·have q1:((x.size:Int)+1)=((x.size+1:Nat):Int):=by omega
   have cf:=fun w=>yB m.n (x.size+1:Nat) hm.hn ⟨by omega,by omega⟩ w
   obtain ⟨f,hf,hfl⟩:=xv m.n (x.size+1) (by omega)
   rw [hf] at cf
   have cg:=fun w=>yB m.m (x.size - f+1:Nat) hm.hm ⟨by omega,by omega⟩ w
   obtain ⟨g,hg,hgl⟩:=xv m.m (x.size - f+1) (by omega)
   rw [hg] at cg
   have q2:((x.size:Int) - (f:Int)+1)=((x.size - f+1:Nat):Int):=by omega
   rw [if_neg (by decide),if_neg (by decide),if_pos (by rfl),hf,g7q,hg,g7q]
   dsimp only
   rw [zhs,show f+g - f=g by omega]
   have cS:=fun key fp w hR=>znI b S hw xi (bl x) ea (by omega) f g (by omega) (by omega) key fp w hR
   (repeat' ((conv=>whnf);first|(first|refine puK c6 ?_|refine quK c6 ?_)|(first|refine puK c7 ?_|refine quK c7 ?_)|(first|refine puK ca ?_|refine quK ca ?_)|(first|refine puK cb ?_|refine quK cb ?_)|(first|refine puK cT ?_|refine quK cT ?_)|(first|refine puK cf ?_|refine quK cf ?_)|(first|refine puK cg ?_|refine quK cg ?_)|rw [q1]|rw [q2]|(refine qx (key:=77) rfl (fun w' hR' h0=>cS _ _ w' h0) ?_;rintro _ _ ⟨S1,z,f1,rfl,hJ,rfl⟩;refine ⟨.v _,rfl,?_⟩)|rw [qa]|rw [qb]|refine ⟨_,ra,?_⟩|refine ⟨_,rb,?_⟩|refine ⟨_,rt,?_⟩|refine zg ?_|((first|apply zb|apply za|apply zc)<;>intro h<;>try (exfalso;omega))|refine pay ?_|intro _));(all_goals (conv=>whnf))
   all_goals try (exfalso;omega)
   all_goals exact ⟨⟨_,(Ref.takes (L1:=[packE 77 _ (fS b S1)]) [77] rfl (.refl _)).trans (Thin.ref (.packE (.nil _))),S1,z,_,rfl,hJ.mono (by omega),rfl⟩⟩
  ·have q1:((x.size:Int)+1)=((x.size+1:Nat):Int):=by omega
   have cf:=fun w=>yB m.n (x.size+1:Nat) hm.hn ⟨by omega,by omega⟩ w
   obtain ⟨f,hf,hfl⟩:=xv m.n (x.size+1) (by omega)
   rw [hf] at cf
   rw [if_neg (by decide),if_neg (by decide),if_neg (by decide),hf,g7q]
   dsimp only
   rw [ziE,zhs,zhs,←hbx,List.drop_zero,Nat.sub_zero,show ((bl x).drop f).take ((bl x).length - f)=(bl x).drop f from by rw [List.take_of_length_le (by rw [List.length_drop];exact Nat.le_refl _)]]
   obtain ⟨S1,p,q,cS,hJ,hq⟩:=zqS S hw xi (bl x) ea (by omega) f (by omega) (by omega)
   have cS:=cS b
   have hjc:=hJ.cnt
   have hgm:=hJ.grow.most
   obtain ⟨S2,z,cj,hK⟩:=kW S1 hJ.wf q p _ _ hq hJ.ev (by simp;omega) (by omega)
   have cj:=cj b
   (repeat' ((conv=>whnf);first|(first|refine puK c6 ?_|refine quK c6 ?_)|(first|refine puK c7 ?_|refine quK c7 ?_)|(first|refine puK ca ?_|refine quK ca ?_)|(first|refine puK cb ?_|refine quK cb ?_)|(first|refine puK cT ?_|refine quK cT ?_)|(first|refine puK cf ?_|refine quK cf ?_)|rw [q1]|refine SC.go 77 cS rfl fun fp'=>?_|refine SC.go 77 cj rfl fun fp'=>?_|rw [qa]|rw [qb]|refine ⟨_,ra,?_⟩|refine ⟨_,rb,?_⟩|refine ⟨_,rt,?_⟩|refine zg ?_|((first|apply zb|apply za|apply zc)<;>intro h<;>try (exfalso;omega))|refine pay ?_|intro _));(all_goals (conv=>whnf))
   all_goals try (exfalso;omega)
   all_goals exact ⟨⟨_,(Ref.takes (L1:=[packE 77 _ (fS b S2)]) [77] rfl (.refl _)).trans (Thin.ref (.packE (.nil _))),S2,z,_,rfl,⟨hK.wf,hJ.grow.trans hK.grow,hK.ev,by have:=hK.cnt;omega⟩,rfl⟩⟩
def stF (T:List ByteArray) (m:Mk):List ByteArray:=if (plF T m).2=true then T++[(plF T m).1] else T
def bdF (g:List Mk):Nat->List ByteArray
 | 0=>[]
 | i+1=>stF (bdF g i) (g.getD i mk0)
theorem zwM (T:List ByteArray) (m:Mk):T.length<=(stF T m).length/\(stF T m).length<=T.length+1:=by
 unfold stF;split<;>simp
theorem zmx (g:List Mk):∀ i,(bdF g i).length<=i
 | 0=>Nat.le_refl _
 | i + 1 => by
   have:=zmx g i
   have:=(zwM (bdF g i) (g.getD i mk0)).2
   rw [bdF];omega
theorem Md.nil (S:Sto):Md S [] []:=⟨rfl,fun j hj=>absurd hj (Nat.not_lt_zero j),fun x hx=>by simp at hx⟩
theorem Md.grow {S S':Sto} {ids:List Int} {T:List ByteArray} (h:Md S ids T) (g:Grow S S'):Md S' ids T:=⟨h.len,fun j hj=>(h.ev j hj).grow g,h.size⟩
theorem Md.snoc {S:Sto} {ids:List Int} {T:List ByteArray} (h:Md S ids T) {z:Int} {t:ByteArray} (hz:EvI S z (bl t)) (ht:t.size<=400):Md S (ids++[z]) (T++[t]):=by
 refine ⟨by simp [h.len],fun j hj=>?_,fun x hx=>?_⟩
 ·by_cases hjl:j<T.length
  ·rw [qY (by rw [h.len];exact hjl),qY hjl]
   exact h.ev j hjl
  ·obtain rfl:j=T.length:=by simp at hj;omega
   have e1:(ids++[z]).getD T.length 0=z:=by rw [←h.len];simp
   have e2:(T++[t]).getD T.length by0=t:=by simp
   rw [e1,e2];exact hz
 ·rcases List.mem_append.1 hx with hx|hx
  ·exact h.size x hx
  ·rw [List.mem_singleton] at hx;subst hx;exact ht
theorem zxh {S:Sto} (hw:WF S) {z:Int} {t:ByteArray} (h:EvI S z (bl t)):decide (0<z)=decide (0<(t.size:Int)):=by
 rw [decide_eq_decide]
 rcases h with ⟨rfl,h⟩|⟨h1,h2,_,h3⟩
 ·have:=jg t
  rw [h] at this
  simp at this
  omega
 ·have:=hw.pos1 h1 h2
  unfold Tm.len at this
  rw [h3,jg] at this
  omega
structure BlG where
 i:Nat
 S:Sto
 ids:List Int
 a:Option Addr
 c:Nat
 a':Option Addr
 c':Nat
 fp:List Nat
structure BlI (S0:Sto) (g:List Mk) (x:BlG):Prop where
 i:x.i<=g.length/\x.i<=30
 wf:WF x.S
 grow:Grow S0 x.S
 md:Md x.S x.ids (bdF g x.i)
 cnt:x.S.E.length<=S0.E.length+4000*x.i
def bdQ (key b:Nat) (S0:Sto) (g:List Mk) (v:Value) (L1:List Ent):Prop :=
 ∃ S ids a c a' c' fp',v = .tuple #[.slice a (ids : List Int).length c,.slice a' (bdF g (min g.length 30)).length c',.bool true] /\ WF S /\ Grow S0 S /\ Md S ids (bdF g (min g.length 30)) /\ S.E.length <= S0.E.length + 120000 /\
   L1=[packE key fp' (fS b S),.own 814 a ids.length c zr 1 (zt .i64 ids),.own 815 a' (bdF g (min g.length 30)).length c' xB 1 (tws (bdF g (min g.length 30)))]
theorem zq1 (hs:zaw Tryz.prog zo) (hn:zbz Tryz.prog zo) (b:Nat) (S0:Sto) (hw:WF S0) (hroom:S0.E.length+120000<=S0.most) (g:List Mk) (hg:∀ i,i<g.length->MkOk (g.getD i mk0)) (hgl:g.length<=9223372036854775807)
 (al:Option Addr) (cl key:Nat) (fp:List Nat) (w:World) (hR:StR w key fp b S0) (hin:In w fp al (zbD g)) :
 Calls Tryz.prog uu #[pS b,.slice al g.length cl] w fun e w'=>∃ v L1,e=.returned v/\R w fp L1 w'/\bdQ key b S0 g v L1:=by
 refine zf [.v (pS b),.v (.slice al g.length cl)] zgj (by simp) (hR.key 77) ?_
 (repeat' ((conv=>whnf);first|refine zg ?_|((first|apply zb|apply za|apply zc)<;>intro h<;>try (exfalso;omega))|refine pay ?_|intro _));(all_goals (conv=>whnf))
 refine zP BlG (fun y=>[(0,.v (pS b)),(1,.v (.slice al g.length cl)),(7,.sl 59 y.a y.ids.length y.c),(8,.sl 63 y.a' (bdF g y.i).length y.c'),(9,.v (.int .i64 y.i))])
  (fun y=>[packE 77 y.fp (fS b y.S),.own 59 y.a y.ids.length y.c zr 1 (zt .i64 y.ids),.own 63 y.a' (bdF g y.i).length y.c' xB 1 (tws (bdF g y.i))])
  (BlI S0 g) (fun y=>30 - y.i) ⟨0,S0,[],none,0,none,0,fp⟩ ⟨⟨Nat.zero_le _,Nat.zero_le _⟩,hw,Grow.refl S0,Md.nil S0,by dsimp only;omega⟩ (by (repeat ((conv=>whnf);refine vS ?_));exact trivial) ((Ref.ownNil 59 zr 1).trans ((Ref.ownNil 63 xB 1).trans (Ref.takes [77,59,63] rfl (.refl _)))) ?_
 clear hR
 rintro ⟨i,S,ids,a,c,a',c',f1⟩ ⟨⟨hi,hi3⟩,w1,gr,hM,hc⟩
 dsimp only at hi hi3 w1 gr hM hc ⊢
 have hgm:=gr.most
 by_cases hlt:i<g.length/\i<30
 ·obtain ⟨hlt,hl3⟩:=hlt
  have hTl:=zmx g i
  have nl:al≠none:=hin.ne' (k:=i*6) (by rw [zp5];omega)
  have rm:=fun {L:List Ent}=>hin.rdn (L:=L) (vs:=mkC (g.getD i mk0)) (by simp [mkC]) (zrH hlt)
  have hm:=hg i hlt
  have hb:bdF g (i+1)=stF (bdF g i) (g.getD i mk0):=rfl
  have q0:((i:Nat):Int).toNat=i:=by omega
  generalize g.getD i mk0=m at *
  generalize hT:bdF g i=T at *
  have cp:=fun a c w hin=>zqZ T hM.size (by omega) m hm a c w hin
  cases hp:(plF T m).2 with
  | false =>
    rw [hp] at cp
    have hst:bdF g (i+1)=T:=by rw [hb,stF,if_neg (by rw [hp];decide)]
    (repeat' ((conv=>whnf);first|rw [q0]|refine ⟨mkC m,rfl,rm,?_⟩|(refine zv (.v _) (fun w' hR=>cp _ _ w' (In.ownR (key:=63) hR rfl)) ?_)|refine zg ?_|((first|apply zb|apply za|apply zc)<;>intro h<;>try (exfalso;omega))|refine pay ?_|intro _));(all_goals (conv=>whnf))
    all_goals try (exfalso;omega)
    have hstl:(bdF g (i+1)).length=T.length:=by rw [hst]
    refine zm ⟨i+1,S,ids,a,c,a',c',f1⟩ ⟨⟨hlt,hl3⟩,w1,gr,by dsimp only;rw [hst];exact hM,by dsimp only;omega⟩ (by ((try dsimp only);omega)) (by (repeat ((conv=>whnf);refine vS ?_));exact trivial) ?_
    show Ref w fp _ [packE 77 f1 (fS b S),.own 59 a ids.length c zr 1 (zt .i64 ids),.own 63 a' (bdF g (i+1)).length c' xB 1 (tws (bdF g (i+1)))]
    rw [hst]
    exact Ref.takes [77,59,63] rfl (.refl _)
  | true =>
    have hsz:=zvO hM.size hp
    have cm:=fun a1 a2 c1 c2 key fp w hR h1 h2=>zsN hs hn b S w1 ids T hM (by omega) m hm hp (by omega) a1 a2 c1 c2 key fp w hR h1 h2
    have hst:bdF g (i+1)=T++[(plF T m).1]:=by rw [hb,stF,if_pos hp]
    rw [hp] at cp
    generalize (plF T m).1=t at *
    have hsn:=fun z=>Go.EG.ints_snoc (k:=.i64) (zs:=ids) (z:=z)
    have hll:=fun z:Int=>show (ids++[z]).length=ids.length+1 by simp
    have hil:=hM.len
    (repeat' ((conv=>whnf);first|rw [q0]|refine ⟨mkC m,rfl,rm,?_⟩|(refine zv (.v _) (fun w' hR=>cp _ _ w' (In.ownR (key:=63) hR rfl)) ?_)|(refine qx (key:=77) rfl (fun w' hR' h0=>cm _ _ _ _ _ _ w' h0 (In.beside (key:=59) hR' rfl) (In.beside (key:=63) hR' rfl)) ?_;rintro _ _ ⟨S2,z,f2,rfl,hJ,rfl⟩;have hpz:=zxh hJ.wf hJ.ev;refine ⟨.v _,rfl,?_⟩)|rw [hpz]|refine zg ?_|((first|apply zb|apply za|apply zc)<;>intro h<;>try (exfalso;omega))|refine pay ?_|refine And.intro (by first|exact ⟨by unfold maxLen;omega,by omega⟩) ?_|intro _));(all_goals (conv=>whnf))
    all_goals try (exfalso;omega)
    ·exfalso
     rename_i h
     exact h rfl
    ·have hstl:(bdF g (i+1)).length=T.length+1:=by rw [hst];simp
     have hcj:=hJ.cnt
     refine zm ⟨i+1,S2,ids++[z],_,_,_,_,f2⟩ ⟨⟨hlt,hl3⟩,hJ.wf,gr.trans hJ.grow,by dsimp only;rw [hst];exact (hM.grow hJ.grow).snoc hJ.ev hsz,by dsimp only;omega⟩ (by ((try dsimp only);omega)) (by (repeat ((conv=>whnf);refine vS ?_));exact trivial) ?_
     show Ref w fp _ [packE 77 f2 (fS b S2),.own 59 _ (ids++[z]).length _ zr 1 (zt .i64 (ids++[z])),.own 63 _ (bdF g (i+1)).length _ xB 1 (tws (bdF g (i+1)))]
     rw [hstl,hst,hll,←zvN,←hsn]
     exact Ref.takes [77,59,63] rfl (.refl _)
 ·have hii:i=min g.length 30:=by omega
  subst hii
  (repeat' ((conv=>whnf);first|refine ⟨.sl 59 _ _ _,⟨rfl,rfl,rfl,rfl⟩,?_⟩|refine ⟨.sl 63 _ _ _,⟨rfl,rfl,rfl,rfl⟩,?_⟩|refine zg ?_|((first|apply zb|apply za|apply zc)<;>intro h<;>try (exfalso;omega))|refine pay ?_|intro _));(all_goals (conv=>whnf))
  all_goals try (exfalso;omega)
  all_goals exact ⟨⟨_,(Ref.takes (L1:=[packE 77 f1 (fS b S),.own 59 a ids.length c zr 1 (zt .i64 ids),.own 63 a' (bdF g (min g.length 30)).length c' xB 1 (tws (bdF g (min g.length 30)))]) [77,59,63] rfl (.refl _)).trans (Thin.ref (.packE (.own (k':=814) rfl rfl (.own (k':=815) rfl rfl (.nil _))))),S,ids,a,c,a',c',_,rfl,w1,gr,hM,by omega,rfl⟩⟩
theorem zq2 (hs:zaw Tryz.prog zo) (hn:zbz Tryz.prog zo) (g:List Mk) (hg:∀ i,i<g.length->MkOk (g.getD i mk0)) (hgl:g.length<=9223372036854775807) (al:Option Addr) (cl:Nat) (w:World) (hin:In w [] al (zbD g)) :
 Calls Tryz.prog yW #[.slice al g.length cl] w fun e w'=>∃ v L1,e=.returned v/\R w [] L1 w'/\∃ b S ids a c a' c' fp',v=.tuple #[pS b,.slice a (ids:List Int).length c,.slice a' (bdF g (min g.length 30)).length c',.bool true]/\WF S/\S.most=1048576/\Md S ids (bdF g (min g.length 30))/\S.E.length<=120000 /\
  L1=[packE 77 fp' (fS b S),.own 814 a ids.length c zr 1 (zt .i64 ids),.own 815 a' (bdF g (min g.length 30)).length c' xB 1 (tws (bdF g (min g.length 30)))]:=by
 refine zbO [.v (.slice al g.length cl)] zgl (by simp) ?_
 have c1:=fun w=>zmK 1048576 77 w
 rw [show ziS 1048576=1048576 from rfl] at c1
 have c2:=fun b key fp w hR hin=>zq1 hs hn b ⟨1048576,[]⟩ (WF.new 1048576 (by omega)) (by simp) g hg hgl al cl key fp w hR hin
 (repeat' ((conv=>whnf);first|(refine vD (fun w hR=>c1 w) ?_;rintro _ _ ⟨bn,fpn,rfl,rfl⟩;refine ⟨.v _,rfl,?_⟩)|(refine qx (key:=77) rfl (fun w' hR' h0=>c2 _ _ _ w' h0 (hin.cast hR' (fun b hb=>List.mem_append_left _ hb))) ?_;rintro _ _ ⟨S,ids,a,c,a',c',f2,rfl,w1,gr,hM,hc,rfl⟩;refine ⟨.v _,rfl,?_⟩)|refine zg ?_|((first|apply zb|apply za|apply zc)<;>intro h<;>try (exfalso;omega))|refine pay ?_|intro _));(all_goals (conv=>whnf))
 all_goals try (exfalso;omega)
 all_goals exact ⟨⟨_,Ref.takes [77,814,815] rfl (.refl _),bn,S,ids,a,c,a',c',_,rfl,w1,gr.most,hM,by simpa using hc,rfl⟩⟩
def bAB:ByteArray:=⟨#[97,98]⟩
def zxw:ByteArray:=⟨#[97,98,97,98]⟩
def bBA:ByteArray:=⟨#[98,97]⟩
def g3:List Mk:=[⟨0,0,0,0,0,bAB⟩,⟨1,0,0,0,0,⟨#[]⟩⟩,⟨3,1,0,1,2,⟨#[]⟩⟩]
theorem zxx:∀ i,i<g3.length->MkOk (g3.getD i mk0):=by
 intro i hi
 have:i=0∨i=1∨i=2:=by have:g3.length=3:=rfl;omega
 rcases this with rfl|rfl|rfl
 ·exact ⟨⟨by decide,by decide⟩,⟨by decide,by decide⟩,⟨by decide,by decide⟩,⟨by decide,by decide⟩,⟨by decide,by decide⟩,by decide⟩
 ·exact ⟨⟨by decide,by decide⟩,⟨by decide,by decide⟩,⟨by decide,by decide⟩,⟨by decide,by decide⟩,⟨by decide,by decide⟩,by decide⟩
 ·exact ⟨⟨by decide,by decide⟩,⟨by decide,by decide⟩,⟨by decide,by decide⟩,⟨by decide,by decide⟩,⟨by decide,by decide⟩,by decide⟩
theorem zxy:bdF g3 (min g3.length 30)=[bAB,zxw,bBA]:=by decide +kernel
theorem zsO:∀ {ids:List Int},ids.length=3->(zt .i64 ids).drop 2=[.int .i64 (ids.getD 2 0)]
 | [x,y,z],_=>rfl
def bgQ (T:List ByteArray) (v:Value) (L1:List Ent):Prop :=
 ∃ b S ids a c a' c' fp',v = .tuple #[pS b,.slice a (ids : List Int).length c,.slice a' T.length c',.bool true] /\ WF S /\ S.most = 1048576 /\ Md S ids T /\ S.E.length <= 120000 /\ (0 < T.length -> a ≠ none /\ a' ≠ none) /\
   L1=[packE 77 fp' (fS b S),.own 814 a ids.length c zr 1 (zt .i64 ids),.own 815 a' T.length c' xB 1 (tws T)]
theorem ziF (hs:zaw Tryz.prog zo) (hn:zbz Tryz.prog zo) (g:List Mk) (hg:∀ i,i<g.length->MkOk (g.getD i mk0)) (hgl:g.length<=9223372036854775807) (al:Option Addr) (cl:Nat) (w:World) (hin:In w [] al (zbD g)) :
 Calls Tryz.prog yW #[.slice al g.length cl] w fun e w'=>∃ v L1,e=.returned v/\R w [] L1 w'/\bgQ (bdF g (min g.length 30)) v L1 :=
 (zq2 hs hn g hg hgl al cl w hin).mono fun e w' ⟨v,L1,he,hR,b,S,ids,a,c,a',c',f,h1,h2,h3,h4,h5,h6⟩=>⟨v,L1,he,hR,b,S,ids,a,c,a',c',f,h1,h2,h3,h4,h5,fun h=>by
  subst h6
  exact ⟨xZ (key:=814) hR rfl (by rw [h4.len];exact h),xZ (key:=815) hR rfl h⟩,h6⟩
theorem zp8 (hs:zaw Tryz.prog zo) (hn:zbz Tryz.prog zo) (w:World):Calls Tryz.prog vU #[] w fun e w'=>e=.returned (.bool true)/\Ext w w':=by
 refine zN [] w zfC (by simp) ?_
 have c1:=fun al cl w hin=>ziF hs hn g3 zxx (by decide) al cl w hin
 rw [zxy] at c1
 (repeat' ((conv=>whnf);first|(refine vD (fun w' hR=>c1 _ _ w' (In.ownR (key:=11) hR rfl)) ?_;rintro _ _ ⟨b,S,ids,a,c,a',c',f1,rfl,w1,hmost,hM,hcn,hne,rfl⟩;obtain ⟨ne1,ne2⟩:=hne (Nat.succ_pos _);have hil:ids.length=3:=hM.len;have hev:EvI S (ids.getD 2 0) (bl bBA):=hM.ev 2 (by decide);have hids:(zt .i64 ids).drop 2=[.int .i64 (ids.getD 2 0)]:=zsO hil;generalize ids.getD 2 0=z at *;have c2:=yd b S z w1.small;rw [vj hev.known,hev.txt.1] at c2;refine ⟨.v _,rfl,?_⟩)|refine SC.go 77 c2 rfl fun fp'=>?_|refine ⟨_,Rd.own (key:=815) rfl (Nat.succ_pos _) rfl,?_⟩|refine ⟨_,Rd.own (key:=814) rfl (Nat.succ_pos _) (by rw [show Int.toNat 2=2 from rfl];rw [hids];rfl),?_⟩|refine zg ?_|((first|apply zb|apply za|apply zc)<;>intro h<;>try (exfalso;omega))|refine pay ?_|intro _));(all_goals (conv=>whnf))
 all_goals try (exfalso;omega)
 all_goals exact ⟨rfl⟩
theorem zxO {m:Tm} (h:Sig [97,97,97] m):m=.pw (.lt 97) 3 :=
 h.det ⟨1,by decide,fun l hl=>by
  have:l=0:=by omega
  subst this
  decide⟩
theorem zxP {S:Sto} {x:Int} (hw:WF S) (h1:1<=x) (h2:x<=S.E.length) (h:tm S.E x=.pw (.lt 97) 3):(atE S.E x).r.k=3/\(atE S.E x).r.t=3:=by
 obtain ⟨hr,_,ht,_⟩:=hw.at_ h1 h2
 rw [h] at ht
 unfold mkT at ht
 rcases hr with ⟨e1,_⟩|⟨e1,_⟩|⟨e1,_,_,e4,_⟩
 ·rw [if_pos e1] at ht;cases ht
 ·rw [if_neg (by omega),if_pos e1] at ht;cases ht
 ·rw [if_neg (by omega),if_neg (by omega)] at ht
  injection ht with _ ht
  exact ⟨e1,by omega⟩
def psQ (t:List Nat) (v:Value) (L1:List Ent):Prop:=∃ bp bt bs S x g1 g2,v=.tuple #[pS bp,.int .i64 x,.bool true]/\WF S/\(1<=x/\x<=S.E.length)/\Sig t (tm S.E x)/\L1=fP bp bt bs S g1 g2
theorem zq3 (t:List Nat) (hb:∀ x∈t,x<256) (hpos:0<t.length) (hl:t.length<=1000) (a:Option Addr) (c:Nat) (w:World) (hG:qq w []) (hin:In w [] a (xd t)) :
 Calls Tryz.prog ut #[.slice a t.length c] w fun e w'=>∃ v L1,e=.returned v/\R w [] L1 w'/\psQ t v L1:=by
 refine zbO [.v (.slice a t.length c)] zgn (by simp) ?_
 have c1:=fun w=>zmK 1048576 77 w
 rw [show ziS 1048576=1048576 from rfl] at c1
 have hw0:WF ⟨1048576,[]⟩:=WF.new 1048576 (by omega)
 (repeat' ((conv=>whnf);first|(refine vD (fun w hR=>c1 w) ?_;rintro _ _ ⟨bn,fpn,rfl,rfl⟩;refine ⟨.v _,rfl,?_⟩)|(refine vD (fun w hR=>zla _ ⟨1048576,[]⟩ w) ?_;rintro _ _ ⟨bp,bt,f1,rfl,rfl⟩;refine ⟨.v _,rfl,?_⟩)|(refine zh [78,77,3000] rfl (fun w hR h0=>zpf bp bt bn ⟨1048576,[]⟩ hw0 t hb hpos hl (by simp;omega) _ _ _ _ _ w h0 (hG.castL hR) (hin.castL hR)) ?_;rintro _ _ ⟨S,x,g1,g2,hw,hg,hx,hsg,hln,hout,rfl,rfl⟩;refine ⟨.v _,rfl,?_⟩)|refine zg ?_|((first|apply zb|apply za|apply zc)<;>intro h<;>try (exfalso;omega))|refine pay ?_|intro _));(all_goals (conv=>whnf))
 all_goals try (exfalso;omega)
 all_goals (have e1:decide (0<x)=decide (0<(t.length:Int)):=by rw [decide_eq_decide];omega)
 all_goals exact ⟨⟨_,Ref.takes [78,77,3000] rfl (.refl _),bp,bt,bn,S,x,g1,g2,by rw [e1,beq_self_eq_true],hw,hx,hsg,rfl⟩⟩
theorem zp9 (w:World) (hG:qq w []):Calls Tryz.prog vV #[] w fun e w'=>e=.returned (.bool true)/\Ext w w':=by
 refine zN [] w zfE (by simp) ?_
 have c1:=fun a c w hG hin=>zq3 [97,97,97] (by decide) (by decide) (by decide) a c w hG hin
 (repeat' ((conv=>whnf);first|(refine vD (fun w' hR=>c1 _ _ w' (hG.cast hR (fun b hb=>by cases hb)) (In.besideRo (L0:=[]) (key:=7) hR (.head _))) ?_;rintro _ _ ⟨bp,bt,bs,S,x,g1,g2,rfl,hw,hx,hsg,rfl⟩;obtain ⟨hk3,hk4⟩:=zxP hw hx.1 hx.2 (zxO hsg);have c3:=qZ bs S x hw.small;rw [yy hx.1 hx.2] at c3;refine ⟨.v _,rfl,?_⟩)|refine goS (bt:=bt) (bs:=bs) rfl ?_|refine SC.go 77 c3 rfl fun fp'=>?_|rw [hk3]|rw [hk4]|refine zg ?_|((first|apply zb|apply za|apply zc)<;>intro h<;>try (exfalso;omega))|refine pay ?_|refine And.intro (by first|exact ⟨rfl,rfl,rfl,Nat.succ_pos _⟩) ?_|intro _));(all_goals (conv=>whnf))
 all_goals try (exfalso;omega)
 all_goals exact ⟨rfl⟩
structure WrG where
 i:Nat
 S:Sto
 f1:List Nat
 f2:List Nat
theorem zmy (hs:zaw Tryz.prog zo) (hn:zbz Tryz.prog zo) (w:World) (hG:qq w []) (g:List Mk) (hg:∀ i,i<g.length->MkOk (g.getD i mk0)) (hgl:g.length<=9223372036854775807) (al:Option Addr) (cl:Nat) (hin:In w [] al (zbD g)) :
 Calls Tryz.prog jd #[.slice al g.length cl] w fun e w'=>e=.returned (.bool true)/\Ext w w':=by
 refine zN [.v (.slice al g.length cl)] w zdb (by simp) ?_
 have cS:=zp8 hs hn
 have cP:=fun w hG=>zp9 w hG
 have cB:=fun w hin=>ziF hs hn g hg hgl al cl w hin
 have hTl:=zmx g (min g.length 30)
 generalize bdF g (min g.length 30)=T at *
 have hTn:T.length<=30:=Nat.le_trans hTl (Nat.min_le_right _ _)
 clear hTl
 have cAll:∀ (b:Nat) (S:Sto) (ids:List Int) (w1:WF S) (hM:Md S ids T) (hr:S.E.length<=120000) (hmost:S.most=1048576) (bx bp bt mb:Nat) (ai:Option Addr) (ci:Nat) (f1 f2 fp:List Nat) (w:World),R w fp (fMk 78 77 bx bp bt b mb S [] f1 f2) w->qq w fp->In w fp ai (zt .i64 ids) ->
  Calls Tryz.prog xF #[pS bx,.slice ai ids.length ci] w fun e w'=>∃ v L1,e=.returned v/\R w fp L1 w'/\zxe bx bp bt b mb S [] ids (T.map bl) v L1:=fun b S ids w1 hM hr hmost bx bp bt mb ai ci f1 f2 fp w hR hG hi=>by
  have hlen:=hM.len
  refine zp4 bx bp bt b mb S w1 [] (CaI.nil S) ids (T.map bl) (fun j hj=>?_) (by omega) (by omega) ai ci f1 f2 fp w hR hG hi
  have hj':j<T.length:=by omega
  have e1:(T.map bl).getD j []=bl (T.getD j by0):=by
   rw [g1q,List.getElem?_map,g2q hj',g1q,g2q hj'];rfl
  rw [e1]
  refine ⟨hM.ev j hj',?_⟩
  have:=hM.size _ (zcU hj')
  rw [jg];omega
 (repeat' ((conv=>whnf);first|(first|refine puK cS ?_|refine quK cS ?_)|(refine zv (.v _) (fun w' hR=>cP w' (hG.cast hR (fun b hb=>by cases hb))) ?_)|(refine vD (fun w' hR=>cB w' (hin.cast hR (fun b hb=>by cases hb))) ?_;rintro _ _ ⟨b,S,ids,a,c,a',c',f1,rfl,w1,hmost,hM,hcn,hne,rfl⟩;refine ⟨.v _,rfl,?_⟩)|(refine vD (fun w hR=>zla b S w) ?_;rintro _ _ ⟨bp,bt,f2,rfl,rfl⟩;refine ⟨.v _,rfl,?_⟩)|(refine vD (fun w hR=>zp3 bp w) ?_;rintro _ _ ⟨bx,mb,rfl,rfl⟩;refine ⟨.v _,rfl,?_⟩)|(refine zh [78,77,3000,3100,3101] rfl (fun w hR h=>cAll b S ids w1 hM hcn hmost bx bp bt mb _ _ _ _ _ w h (hG.castL hR) (In.besideL (key:=814) hR rfl)) ?_;rintro _ _ ⟨S2,M2,out,a8,c8,g1,g2,hQ,hol,hsig,rfl,rfl⟩;refine ⟨.v _,rfl,?_⟩)|refine zg ?_|((first|apply zb|apply za|apply zc)<;>intro h<;>try (exfalso;omega))|refine pay ?_|intro _));(all_goals (conv=>whnf))
 all_goals try (exfalso;omega)
 have hil:=hM.len
 obtain ⟨w2,gr,_,hc2⟩:=hQ
 have hgm:=gr.most
 have hS2:S2.E.length+24000<=S2.most:=by omega
 have hsig2:∀ j,j<T.length->SigI S2 (out.getD j 0) (bl (T.getD j by0)):=fun j hj=>by
  have:=hsig j (by omega)
  rwa [show (T.map bl).getD j []=bl (T.getD j by0) from by
   rw [g1q,List.getElem?_map,g2q hj,g1q,g2q hj];rfl] at this
 have hsz:=hM.size
 rw [hil] at hol ⊢
 clear hsig hM hne hc2 hgm hcn
 refine zP WrG (fun y=>[(5,.sl 815 a' T.length c'),(7,.v (pS bp)),(9,.sl 813 a8 T.length c8),(11,.v (.int .i64 y.i))])
  (fun y=>fP bp bt b y.S y.f1 y.f2++[.own 813 a8 T.length c8 zr 1 (zt .i64 out),.own 815 a' T.length c' xB 1 (tws T)])
  (fun y=>y.i<=T.length/\WF y.S/\Grow S2 y.S/\y.S.E.length<=S2.E.length+800*y.i) (fun y=>T.length - y.i) ⟨0,S2,g1,g2⟩ ⟨Nat.zero_le _,w2,Grow.refl S2,by dsimp only;omega⟩ (by (repeat ((conv=>whnf);refine vS ?_));exact trivial) (Ref.takes [78,77,3000,813,815] rfl (.refl _)) ?_
 rintro ⟨i,S3,k1,k2⟩ ⟨hi,w3,g3,hc3⟩
 dsimp only at hi w3 g3 hc3 ⊢
 have hgm:=g3.most
 by_cases hlt:i<T.length
 ·have hoi:=(hsig2 i hlt).grow g3
  have r1:=zgr hlt
  have r2:(zt .i64 out)[i]?=some (.int .i64 (out.getD i 0)):=xY (by omega)
  have q0:((i:Nat):Int).toNat=i:=by omega
  have hx:=hsz _ (zcU hlt)
  have c1:=fun a c f1 f2 fp w hR hG hin=>znb bp bt b S3 w3 (bl (T.getD i by0)) (zv7 _) (by rw [jg];omega) (by rw [jg];omega) a c f1 f2 fp w hR hG hin
  have hbx:=jg (T.getD i by0)
  rw [hbx] at c1
  generalize hxe:T.getD i by0=x at *
  generalize hoe:out.getD i 0=o at *
  (repeat' ((conv=>whnf);first|rw [q0]|rw [Nat.mul_one]|refine zB r1 ?_|refine zB r2 ?_|(refine zh [78,77,3000] rfl (fun w hR h=>c1 _ _ _ _ _ w h (hG.castL hR) (In.besideBy (key:=61) hR (.head _))) ?_;rintro _ _ ⟨S4,z,k3,k4,w4,g4,hz,hc4,rfl,rfl⟩;have hzo:z=o:=zpU w4 hz (hoi.grow g4);subst hzo;refine ⟨.v _,rfl,?_⟩)|refine ⟨.sl 815 _ _ _,⟨rfl,rfl,rfl,rfl⟩,?_⟩|refine ⟨.sl 813 _ _ _,⟨rfl,rfl,rfl,rfl⟩,?_⟩|refine zg ?_|((first|apply zb|apply za|apply zc)<;>intro h<;>try (exfalso;omega))|refine pay ?_|intro _));(all_goals (conv=>whnf))
  all_goals try (exfalso;omega)
  refine zP Nat (fun k=>[(5,.sl 815 a' T.length c'),(7,.v (pS bp)),(9,.sl 813 a8 T.length c8),(11,.v (.int .i64 i)),(14,.v (.int .i64 k))])
   (fun _=>fP bp bt b S4 k3 k4++[.own 813 a8 T.length c8 zr 1 (zt .i64 out),.own 815 a' T.length c' xB 1 (tws T)])
   (fun k=>k<=i) (fun k=>i - k) 0 (Nat.zero_le _) (by (repeat ((conv=>whnf);refine vS ?_));exact trivial) (Ref.takes [78,77,3000,813,815] rfl (.refl _)) ?_
  intro k hk
  try dsimp only at hk ⊢
  by_cases hki:k<i
  ·have hok:=((hsig2 k (by omega)).grow g3).grow g4
   have r3:=zgr (T:=T) (i:=k) (by omega)
   have r4:(zt .i64 out)[k]?=some (.int .i64 (out.getD k 0)):=xY (by omega)
   have q1:((k:Nat):Int).toNat=k:=by omega
   generalize T.getD k by0=y at *
   generalize out.getD k 0=u at *
   have hq:decide (z=u)=(x == y):=by
    rw [ziL,decide_eq_decide,zvG w4 hz hok]
    exact ⟨zxf,fun h=>by rw [h]⟩
   (repeat' ((conv=>whnf);first|rw [q0]|rw [q1]|rw [Nat.mul_one]|refine zB r1 ?_|refine zB r2 ?_|refine zB r3 ?_|refine zB r4 ?_|rw [hq]|refine ⟨.sl 815 _ _ _,⟨rfl,rfl,rfl,rfl⟩,?_⟩|refine ⟨.sl 813 _ _ _,⟨rfl,rfl,rfl,rfl⟩,?_⟩|refine zg ?_|((first|apply zb|apply za|apply zc)<;>intro h<;>try (exfalso;omega))|refine pay ?_|intro _));(all_goals (conv=>whnf))
   all_goals try (exfalso;omega)
   ·exfalso
    rename_i h
    exact h rfl
   ·exact zm (k+1) hki (by ((try dsimp only);omega)) (by (repeat ((conv=>whnf);refine vS ?_));exact trivial) (Ref.takes [78,77,3000,813,815] rfl (.refl _))
  ·obtain rfl:k=i:=by omega
   (repeat' ((conv=>whnf);first|((first|apply zb|apply za|apply zc)<;>intro h<;>try (exfalso;omega))|refine pay ?_|intro _));(all_goals (conv=>whnf))
   all_goals try (exfalso;omega)
   exact zm ⟨k+1,S4,k3,k4⟩ ⟨hlt,w4,g3.trans g4,by dsimp only;omega⟩ (by ((try dsimp only);omega)) (by (repeat ((conv=>whnf);refine vS ?_));exact trivial) (Ref.takes [78,77,3000,813,815] rfl (.refl _))
 ·(repeat' ((conv=>whnf);first|((first|apply zb|apply za|apply zc)<;>intro h<;>try (exfalso;omega))|refine pay ?_|intro _));(all_goals (conv=>whnf))
  all_goals try (exfalso;omega)
  all_goals exact ⟨rfl⟩
end
section
open Go.ChangeShapes Go.WideShapes Go.RowKit Go.EG
abbrev ze0 : List (String × DataW Unit) := [("math/bits.deBruijn64tab", Rows.laid_math_bits_deBruijn64tab)]
theorem tabName : Tryz.prog.globalNamed "math/bits.deBruijn64tab" = some 0 := by kernel_rfl
theorem tabType:(Tryz.prog.globals[0]?).map (·.type)=some 239:=by kernel_rfl
theorem zvP:Tryz.prog.cellsOf 5=1:=by kernel_rfl
theorem zwN:Rows.laid_math_bits_deBruijn64tab=(DataW.agg (tabI.map fun n=>DataW.lit (.int .u8 n)):DataW Unit):=rfl
theorem zq4 {W:World} (h:laidMetH Tryz.prog ze0 W):Tab W:=by
 have h':laidMet Tryz.prog ze0 W:=by
  rw [←show laidMetH Tryz.prog ze0 W=laidMet Tryz.prog ze0 W from rfl];exact h
 obtain ⟨ps,⟨g,t,cs,fuel,p,q,hg,ht,hvar,hd,_,_⟩,_⟩:=h'
 obtain rfl:=Option.some.inj (tabName.symm.trans hg)
 obtain rfl:=Option.some.inj (tabType.symm.trans ht)
 obtain ⟨xs,m,_,hx,hlen,hxl,hat⟩:=DataW.trod_array Tryz.underlying239 hd
 obtain ⟨hx1,_⟩:=Prod.mk.inj hx
 rw [zwN] at hx1
 simp only [DataW.agg.injEq] at hx1
 have hcell:∀ i,i<64->cs[i]?=some (.int .u8 (tabI.getD i 0)):=fun i hi=>by
  have h1:=hat i hi
  rw [zvP,Nat.mul_one] at h1
  have hxi:∃ y,xs[i]?=some y:=⟨xs[i],by simp [hxl,hi]⟩
  obtain ⟨y,hy⟩:=hxi
  rw [hy] at h1
  obtain ⟨n,hn,hyn,_⟩:=DataW.trod_int Tryz.underlying5 h1
  subst hyn
  have h2:=congrArg (fun l=>l[i]?) hx1
  simp only [List.getElem?_map,hy,Option.map_some] at h2
  have h3:tabI[i]?=some (tabI.getD i 0):=by
   rw [g1q]
   have:i<tabI.length:=by rw [zcl];exact hi
   simp [this]
  rw [h3] at h2
  simp only [Option.map_some,g3q,DataW.lit.injEq,Lit.int.injEq,true_and] at h2
  rw [h2]
  have h4:=congrArg (fun l=>l[0]?) hn
  simp only [List.getElem?_take,List.getElem?_drop,Nat.add_zero,List.getElem?_cons_zero,Nat.zero_lt_one,if_true] at h4
  rw [←h4]
  simp
 refine .inr ⟨0,0,rfl,?_,by simp,fun j v hv=>?_⟩
 ·have h0:=World.var?_cell hg hvar 0
  rw [hcell 0 (by decide)] at h0
  unfold World.cell? at h0
  rcases Nat.lt_or_ge 0 W.heap.size with h|h
  ·exact h
  ·rw [Array.getElem?_eq_none h] at h0
   simp at h0
 ·have hj:j<64:=by
   have:=(List.getElem?_eq_some_iff.1 hv).1
   rw [y7,zcl] at this
   exact this
  rw [xY (by rw [zcl];exact hj)] at hv
  rw [Nat.zero_add,World.var?_cell hg hvar j,hcell j hj]
  exact hv
noncomputable def znd (os:Os):World :=
 let w0:=World.holding Tryz.prog os ⟨#[],#[],[]⟩
 { w0 with heap:=w0.heap.modify 0 fun
  | .cells _ t frozen=>.cells (zt .u8 tabI).toArray t frozen
  | o=>o }
theorem znL (os:Os) (args:Array Value):laidMetH Tryz.prog ze0 ((znd os).forCall (fun _ _=>0) ⟨#[],args,[]⟩).memory :=
 laidMetH_of_parts (laidMet_of_run' 8 (by kernel_rfl) (by kernel_rfl)) (by kernel_rfl)
end
end Go.Proofs.YtdcbghoalnlcmaaGreatDoor
namespace Go.EG
open Go.ChangeShapes Go.WideShapes Go.ChangeAt Go.RowKit
inductive FK where
 | i (k:IntKind)
 | s
def ReSOk:List FK->List Value->Prop
 | [],[]=>True
 | .i k::ks,.int k' n::vs=>(k'=k/\(Lit.int k n).wf=true)/\ReSOk ks vs
 | .s::ks,.string b::vs=>b.size<=maxLen/\ReSOk ks vs
 | _,_=>False
theorem ReSOk.length:∀ {ks:List FK} {vs:List Value},ReSOk ks vs->vs.length=ks.length
 | [],[],_=>rfl
 | .i k :: ks,.int k' n :: vs,h => by
   have:=ReSOk.length h.2
   simp [this]
 | .s :: ks,.string b :: vs,h => by
   have:=ReSOk.length h.2
   simp [this]
def ziG (P:Program):List Field->List FK->Nat->Bool
 | [],[],_=>true
 | f :: fs,.i k :: ks,i => decide (f.offset = i) && decide (P.cellsOf f.type = 1) && (match P.underlying f.type with
   | some (.int k')=>decide (k'=k)
   | _=>false)&&ziG P fs ks (i+1)
 | f :: fs,.s :: ks,i => decide (f.offset = i) && decide (P.cellsOf f.type = 1) && (match P.underlying f.type with
   | some .string=>true
   | _=>false)&&ziG P fs ks (i+1)
 | _,_,_=>false
section
variable {H:Type} {enc:TypeId × Value->H} {P:Program} {w:World} {base:Nat} {spare:Nat->Bool} {held:Bool}
theorem zmz {n:Nat} {cs:List Value}:∀ {fs:List Field} {ks:List FK} {i:Nat},ziG P fs ks i=true->cs.length=i+ks.length ->
 (∀ (j:Nat) (f:Field),fs[j]?=some f->∃ x,DataW.trod enc P w base spare held n f.type ((cs.drop f.offset).take (P.cellsOf f.type))=some x)->ReSOk ks (cs.drop i)
 | [],[],i,_,hl,_ => by
   rw [List.drop_eq_nil_of_le (by simp at hl;omega)];trivial
 | f :: fs,.i k :: ks,i,h,hl,hf => by
   simp only [ziG,Bool.and_eq_true,decide_eq_true_eq] at h
   obtain ⟨⟨⟨h1,h2⟩,h3⟩,h4⟩:=h
   obtain ⟨x,hx⟩:=hf 0 f rfl
   have hu:P.underlying f.type=some (.int k):=by
    split at h3
    ·rename_i k' hk;rw [hk,of_decide_eq_true h3]
    ·cases h3
   rw [h1,h2] at hx
   obtain ⟨m,hc,_,hw⟩:=DataW.trod_int hu hx
   have hlt:i<cs.length:=by rw [hl,List.length_cons];omega
   rw [List.drop_eq_getElem_cons hlt] at hc ⊢
   simp only [List.take_succ_cons,List.take_zero,List.cons.injEq,and_true] at hc
   rw [hc]
   exact ⟨⟨rfl,hw⟩,zmz h4 (by rw [hl,List.length_cons];omega) fun j f' hj=>hf (j+1) f' (by simpa using hj)⟩
 | f :: fs,.s :: ks,i,h,hl,hf => by
   simp only [ziG,Bool.and_eq_true,decide_eq_true_eq] at h
   obtain ⟨⟨⟨h1,h2⟩,h3⟩,h4⟩:=h
   obtain ⟨x,hx⟩:=hf 0 f rfl
   have hu:P.underlying f.type=some .string:=by
    split at h3
    ·rename_i hk;exact hk
    ·cases h3
   rw [h1,h2] at hx
   obtain ⟨b,hc,_,hw⟩:=DataW.trod_string hu hx
   have hlt:i<cs.length:=by rw [hl,List.length_cons];omega
   rw [List.drop_eq_getElem_cons hlt] at hc ⊢
   simp only [List.take_succ_cons,List.take_zero,List.cons.injEq,and_true] at hc
   rw [hc]
   exact ⟨hw,zmz h4 (by rw [hl,List.length_cons];omega) fun j f' hj=>hf (j+1) f' (by simpa using hj)⟩
 | [],_::_,_,h,_,_=>by simp [ziG] at h
 | _::_,[],_,h,_,_=>by simp [ziG] at h
theorem zvQ {t e:TypeId} {fs:Array Field} {ks:List FK} {fuel:Nat} {cs:List Value} {x:DataW H × List MemPlace} (ht:P.underlying t=some (.slice e)) (he:P.underlying e=some (.struct fs)) (hr:ziG P fs.toList ks 0=true) (hc:P.cellsOf e=ks.length)
 (h:DataW.trod enc P w base spare held fuel t cs=some x) :
 (cs=[.slice none 0 0]/\x=(.nil,[])) ∨
 ∃ (a : Addr) (len cap : Nat),cs = [.slice (some a) len cap] /\ len <= cap /\ cap <= maxLen /\
   ∀ i,i<len->∃ vs,ReSOk ks vs/\∀ j,j<vs.length->w.cell? (a.add (i*ks.length+j))=vs[j]?:=by
 rcases DataW.trod_slice ht h with h0|⟨a,len,cap,elems,rest,n,_,rfl,rfl,hb,hl,hm,hlen,hel,hsp,hns⟩
 ·exact .inl h0
 refine .inr ⟨a,len,cap,rfl,hl,hm,fun i hi=>?_⟩
 have h1:=hel i hi
 rw [hc] at h1
 rw [g2q (by omega)] at h1
 obtain ⟨cs',hcs,hy⟩:=Option.bind_eq_some_iff.1 h1
 obtain ⟨_,hcl,hcell⟩:=World.cells?_some hcs
 obtain ⟨xs,m,_,_,_,hxl,hf⟩:=DataW.trod_struct he hy
 refine ⟨cs',?_,fun j hj=>?_⟩
 ·have:=zmz (i:=0) hr (by rw [hcl];simp) (cs:=cs') (n:=m) fun j f hj=>by
   have hj':fs[j]?=some f:=by simpa using hj
   have:=hf j f hj'
   rw [this]
   have hlt:j<xs.length:=by
    rw [hxl]
    exact (Array.getElem?_eq_some_iff.1 hj').1
   exact ⟨_,g2q hlt⟩
  simpa using this
 ·rw [←Addr.add_add]
  exact hcell j (by omega)
end
theorem zxi {w:World} {a:Addr} {ks:List FK} (hk:0<ks.length):∀ {len:Nat},(∀ i,i<len->∃ vs,ReSOk ks vs/\∀ j,j<vs.length->w.cell? (a.add (i*ks.length+j))=vs[j]?) ->
 ∃ rows:List (List Value),rows.length=len/\(∀ vs∈rows,ReSOk ks vs)/\In w [] (some a) rows.flatten:=by
 intro len h
 obtain ⟨f,hf⟩:∃ f:Nat->List Value,∀ i,i<len->ReSOk ks (f i)/\∀ j,j<(f i).length->w.cell? (a.add (i*ks.length+j))=(f i)[j]?:=by
  refine ⟨fun i=>if h':i<len then Classical.choose (h i h') else [],fun i hi=>?_⟩
  simp only [dif_pos hi]
  exact Classical.choose_spec (h i hi)
 have hall:∀ vs∈(List.range len).map f,ReSOk ks vs:=fun vs hv=>by
  obtain ⟨i,hi,rfl⟩:=List.mem_map.1 hv
  exact (hf i (List.mem_range.1 hi)).1
 refine ⟨(List.range len).map f,by simp,hall,?_⟩
 by_cases h0:len=0
 ·subst h0;exact .inl rfl
 ·obtain ⟨b,off,spot⟩:=a
  have hc0:w.cell? ((⟨b,off,spot⟩:Addr).add 0)=(f 0)[0]?:=by
   have:=(hf 0 (by omega)).2 0 (by rw [(hf 0 (by omega)).1.length];exact hk)
   simpa using this
  have hl0:0<(f 0).length:=by rw [(hf 0 (by omega)).1.length];exact hk
  rw [g2q hl0] at hc0
  have hspot:spot=none:=by simpa [Addr.add] using World.cell?_spot hc0
  subst hspot
  refine .inr ⟨b,off,rfl,?_,by simp,fun j v hv=>?_⟩
  ·have hc1:w.cell? ⟨b,off,none⟩=some (f 0)[0]:=by simpa [Addr.add] using hc0
   unfold World.cell? at hc1
   rcases Nat.lt_or_ge b w.heap.size with h|h
   ·exact h
   ·rw [Array.getElem?_eq_none h] at hc1
    simp at hc1
  ·rw [zjk hk fun vs hv=>(hall vs hv).length] at hv
   obtain ⟨r,hr,hv⟩:=Option.bind_eq_some_iff.1 hv
   have hi:j/ks.length<len:=by
    have:=(List.getElem?_eq_some_iff.1 hr).1
    simpa using this
   have hrf:r=f (j/ks.length):=by
    rw [List.getElem?_map,List.getElem?_range hi] at hr
    simpa using hr.symm
   subst hrf
   have hj:j%ks.length<(f (j/ks.length)).length:=(List.getElem?_eq_some_iff.1 hv).1
   have:=(hf _ hi).2 _ hj
   rw [hv] at this
   rw [←this]
   congr 1
   rw [Nat.mul_comm,Nat.div_add_mod]
   simp only [Addr.add]
   split
   ·rename_i h;subst h;rfl
   ·rfl
end Go.EG
namespace Go.Proofs.YtdcbghoalnlcmaaGreatDoor
open Go.EG
abbrev mkK:List FK:=[.i .i64,.i .i64,.i .i64,.i .i64,.i .i64,.s]
theorem zxj {vs:List Value} (h:ReSOk mkK vs):∃ r:Mk,vs=mkC r/\MkOk r:=by
 match vs,h with
 | [.int k0 n0,.int k1 n1,.int k2 n2,.int k3 n3,.int k4 n4,.string b],h =>
   obtain ⟨⟨rfl,w0⟩,⟨rfl,w1⟩,⟨rfl,w2⟩,⟨rfl,w3⟩,⟨rfl,w4⟩,hb,_⟩:=h
   exact ⟨⟨n0,n1,n2,n3,n4,b⟩,rfl,⟨zh2 w0,zh2 w1,zh2 w2,zh2 w3,zh2 w4,hb⟩⟩
theorem zrJ:∀ {rows:List (List Value)},(∀ vs∈rows,ReSOk mkK vs) ->
 ∃ g:List Mk,rows.flatten=zbD g/\g.length=rows.length/\∀ i,i<g.length->MkOk (g.getD i mk0)
 | [],_=>⟨[],rfl,rfl,fun i h=>absurd h (Nat.not_lt_zero i)⟩
 | vs :: rows,h => by
   obtain ⟨r,rfl,h1⟩:=zxj (h vs g5q)
   obtain ⟨g,e1,e2,e3⟩:=zrJ fun vs hv=>h vs (g4q _ hv)
   refine ⟨r::g,?_,by simp [e2],fun i hi=>?_⟩
   ·rw [List.flatten_cons,e1];simp [zbD]
   ·cases i with
    | zero=>exact h1
    | succ i=>exact e3 i (by simpa using hi)
end Go.Proofs.YtdcbghoalnlcmaaGreatDoor
