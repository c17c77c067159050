/- Hits on the way of a machine. Plain Lean: no program in sight. -/
import Derived.Test.YtjmlialibdobpaaGreatDoorK6
import Derived.Test.YtjmlialibdobpaaGreatDoorK7
import Derived.Test.YtjmlialibdobpaaGreatDoorK4
set_option linter.unusedSectionVars false
set_option linter.unusedVariables false
set_option linter.unusedSimpArgs false
namespace Go.Proofs.YtjmlialibdobpaaGreatDoor
section
open Go.EG
def zon (H:List Int) (q:Nat):Nat:=(H.getD q 0).toNat
def ziU (M:Mch) (H:List Int):Nat->List Nat->Nat
 | _,[]=>0
 | q,b::t=>if 0<zon H (stp M q b) then 1 else if ziU M H (stp M q b) t=0 then 0 else ziU M H (stp M q b) t+1
def qf (M:Mch) (H:List Int):Nat->List Nat->Nat
 | _,[]=>0
 | q,b::t=>if qf M H (stp M q b) t=0 then (if 0<zon H (stp M q b) then 1 else 0) else qf M H (stp M q b) t+1
section
variable {M:Mch} {H:List Int}
theorem zdu (q b:Nat) (t:List Nat):zG M H q (b::t)=zon H (stp M q b)+zG M H (stp M q b) t:=rfl
theorem zsm:∀ {q:Nat} {t:List Nat},ziU M H q t=0↔zG M H q t=0
 | _,[]=>by simp [ziU,zG]
 | q,b :: t => by
   rw [zdu,ziU]
   have ih:=zsm (q:=stp M q b) (t:=t)
   split
   ·constructor
    ·intro h;omega
    ·intro h;omega
   ·split
    ·rename_i h1 h2
     rw [ih] at h2
     constructor
     ·intro _;omega
     ·intro _;rfl
    ·rename_i h1 h2
     rw [ih] at h2
     constructor
     ·intro h;omega
     ·intro h;omega
theorem lstH_zero:∀ {q:Nat} {t:List Nat},qf M H q t=0↔zG M H q t=0
 | _,[]=>by simp [qf,zG]
 | q,b :: t => by
   rw [zdu,qf]
   have ih:=lstH_zero (q:=stp M q b) (t:=t)
   split
   ·rename_i h1
    rw [ih] at h1
    split
    ·constructor
     ·intro h;omega
     ·intro h;omega
    ·constructor
     ·intro _;omega
     ·intro _;rfl
   ·rename_i h1
    rw [ih] at h1
    constructor
    ·intro h;omega
    ·intro h;omega
theorem vf (q:Nat):∀ (s t:List Nat),qf M H q (s++t)=if qf M H (zA M q s) t=0 then qf M H q s else s.length+qf M H (zA M q s) t:=by
 intro s
 induction s generalizing q with
 | nil =>
   intro t
   show qf M H q t=if qf M H q t=0 then 0 else 0+qf M H q t
   split<;>omega
 | cons b s ih =>
   intro t
   rw [List.cons_append,qf,ih (stp M q b) t]
   show _=if qf M H (zA M (stp M q b) s) t=0 then _ else (b::s).length+qf M H (zA M (stp M q b) s) t
   rw [List.length_cons,qf]
   by_cases h3:qf M H (zA M (stp M q b) s) t=0
   ·simp [h3]
   ·simp only [h3,if_false]
    rw [if_neg (by omega)];omega
theorem zvE:∀ (q:Nat) (t:List Nat),ziU M H q t<=t.length
 | _,[]=>Nat.le_refl _
 | q,b :: t => by
   have:=zvE (stp M q b) t
   rw [ziU,List.length_cons]
   split
   ·omega
   ·split<;>omega
theorem zcc:∀ (q:Nat) (t:List Nat),qf M H q t<=t.length
 | _,[]=>Nat.le_refl _
 | q,b :: t => by
   have:=zcc (stp M q b) t
   rw [qf,List.length_cons]
   split
   ·split<;>omega
   ·omega
end
def orb (M:Mch) (u:List Nat) (q j:Nat):Nat:=zA M q (rep j u)
theorem zcX (M:Mch) (u:List Nat) (q j:Nat):orb M u q (j+1)=zA M (orb M u q j) u:=by
 unfold orb;rw [kQ j 1,x7,xZ]
theorem zhj (M:Mch) (u:List Nat) (q i j:Nat):orb M u q (i+j)=orb M u (orb M u q i) j:=by
 unfold orb;rw [kQ,xZ]
theorem zey {M:Mch} {k:Nat} (h:MOk M k) {u:List Nat} (hu:∀ b∈u,b<256) {q:Nat} (hq:q<M.nx.length):∀ j,orb M u q j<M.nx.length
 | 0=>hq
 | j+1=>by rw [zcX];exact xI h hu (zey h hu hq j)
theorem zhk {M:Mch} {u:List Nat} {q a p:Nat} (h:orb M u q (a+p)=orb M u q a):∀ k i,orb M u q (a+i+k*p)=orb M u q (a+i)
 | 0,i=>by rw [Nat.zero_mul,Nat.add_zero]
 | k + 1,i => by
   rw [Nat.succ_mul,show a+i+(k*p+p)=a+p+(i+k*p) by omega,zhj,h,←zhj,show a+(i+k*p)=a+i+k*p by omega,zhk h k i]
theorem zlc {M:Mch} {u:List Nat} {q a p:Nat} (hp:0<p) (h:orb M u q (a+p)=orb M u q a) {j:Nat} (hj:a<=j):orb M u q (a+(j - a)%p)=orb M u q j:=by
 have e:=zhk h ((j - a)/p) ((j - a)%p)
 have d:=Nat.mod_add_div (j - a) p
 rw [Nat.mul_comm] at d
 rw [←e]
 congr 1;omega
theorem zoo (M:Mch) (H:List Int) (u:List Nat) (q:Nat):∀ j,zG M H q (rep (j+1) u)=zG M H q (rep j u)+zG M H (orb M u q j) u:=by
 intro j
 rw [kQ j 1,x7,un];rfl
theorem vC (M:Mch) (H:List Int) (u:List Nat) (q i j:Nat):zG M H q (rep (i+j) u)=zG M H q (rep i u)+zG M H (orb M u q i) (rep j u):=by
 rw [kQ,un];rfl
end
section
open Go.EG
attribute [local irreducible] zT yE Go.Calls
set_option maxRecDepth 20000
set_option maxHeartbeats 4000000
structure ScOk (T:Tb) (kk:Nat) (S:Sto):Prop where
 ok:TbOk T kk
 wf:WF S
 clo:Clo S T.D
 all:∀ n:Int,n=0∨¬known S n∨T.D n
def otx (T:Tb) (S:Sto) (n:Int):List Nat:=ori T.back (tm S.E n).txt
theorem zaJ (T:Tb) (S:Sto) (n:Int):(otx T S n).length=(tm S.E n).len:=zp8 _ _
theorem ScOk.byt {T:Tb} {kk:Nat} {S:Sto} (h:ScOk T kk S) {n:Int} (hk:known S n):∀ b∈otx T S n,b<256:=fun b hb=>h.wf.byt _ _ (Nat.le_refl _) hk.2 b ((jR _).1 hb)
theorem ScOk.lt {T:Tb} {kk:Nat} {S:Sto} (h:ScOk T kk S) {n:Int} (hk:known S n) {q:Nat} (hq:q<T.M.nx.length):zA T.M q (otx T S n)<T.M.nx.length:=xI h.ok.m (h.byt hk) hq
section
variable {T:Tb} {kk:Nat} {S:Sto} (bt bs:Nat) (h:ScOk T kk S)
include h
theorem uK {n:Int} (hk:known S n):XC kB #[pS bt,.int .i64 n] bt bs T S (.int .i64 (tm S.E n).len):=by
 intro k1 k2 fp1 fp2 w hR
 have hR:R w (fp1++fp2) [packE 78 fp1 (fX bt bs T S.E),packE 77 fp2 (fS bs S)] w:=(Thin.packE (Thin.packE (.nil []))).ref w hR
 refine zr [.v (pS bt),.v (.int .i64 n)] zof (by simp) hR ?_
 have c1:=uh bt bs T S.E
 have c2:=ud bs S n h.wf.small
 rw [zcF hk] at c2
 (repeat' ((conv=>whnf);first|(refine qa (key:=78) rfl (fun w hR h0=>c1 _ _ _ h0) ?_;rintro _ _ ⟨rfl,rfl⟩;refine ⟨.v _,rfl,?_⟩)|refine SC.go 77 c2 rfl fun fp'=>?_|refine zh ?_|((first|apply zc|apply za|apply zd)<;>intro h<;>try (exfalso;omega))|refine pay ?_|intro _));(all_goals (conv=>whnf))
 all_goals try (exfalso;omega)
 exact ⟨yR (Ref.takes [78,77] rfl (.refl _)) rfl⟩
theorem zdZ {n:Int} (hk:known S n) {q:Nat} (hq:q<T.M.nx.length):XC uo #[pS bt,.int .i64 n,.int .i64 q] bt bs T S (.int .i64 (zA T.M q (otx T S n))):=by
 intro k1 k2 fp1 fp2 w hR
 have hR:R w (fp1++fp2) [packE 78 fp1 (fX bt bs T S.E),packE 77 fp2 (fS bs S)] w:=(Thin.packE (Thin.packE (.nil []))).ref w hR
 refine zr [.v (pS bt),.v (.int .i64 n),.v (.int .i64 q)] zpE (by simp) hR ?_
 have c1:=zrp bt bs T h.ok S h.wf h.clo n q (h.all n)
 rw [show zrn T S n q=_ from if_pos ⟨hk,by omega,by omega⟩,g7q] at c1
 (repeat' ((conv=>whnf);first|refine XC.go 78 77 c1 rfl rfl fun fp1' fp2'=>?_|refine zh ?_|((first|apply zc|apply za|apply zd)<;>intro h<;>try (exfalso;omega))|refine pay ?_|intro _));(all_goals (conv=>whnf))
 all_goals try (exfalso;omega)
 exact ⟨yR (Ref.takes [78,77] rfl (.refl _)) rfl⟩
theorem zd0 {n:Int} (hk:known S n) {q:Nat} (hq:q<T.M.nx.length):XC uq #[pS bt,.int .i64 n,.int .i64 q] bt bs T S (.bool (decide (0<zG T.M T.H q (otx T S n)))):=by
 intro k1 k2 fp1 fp2 w hR
 have hR:R w (fp1++fp2) [packE 78 fp1 (fX bt bs T S.E),packE 77 fp2 (fS bs S)] w:=(Thin.packE (Thin.packE (.nil []))).ref w hR
 refine zr [.v (pS bt),.v (.int .i64 n),.v (.int .i64 q)] zpG (by simp) hR ?_
 have c1:=zpB bt bs T h.ok S h.wf h.clo n q (h.all n)
 rw [show zro T S n q=_ from if_pos ⟨hk,by omega,by omega⟩,g7q] at c1
 unfold otx
 generalize zG T.M T.H q (ori T.back (tm S.E n).txt)=X at *
 by_cases hx:X<=LM
 ·rw [if_pos hx] at c1
  (repeat' ((conv=>whnf);first|refine XC.go 78 77 c1 rfl rfl fun fp1' fp2'=>?_|refine zh ?_|((first|apply zc|apply za|apply zd)<;>intro h<;>try (exfalso;omega))|refine pay ?_|intro _));(all_goals (conv=>whnf))
  all_goals try (exfalso;omega)
  refine ⟨yR (Ref.takes [78,77] rfl (.refl _)) ?_⟩
  congr 1
  exact decide_eq_decide.2 (by omega)
 ·rw [if_neg hx] at c1
  have h0:0<X:=by omega
  (repeat' ((conv=>whnf);first|refine XC.go 78 77 c1 rfl rfl fun fp1' fp2'=>?_|refine zh ?_|((first|apply zc|apply za|apply zd)<;>intro h<;>try (exfalso;omega))|refine pay ?_|intro _));(all_goals (conv=>whnf))
  all_goals try (exfalso;omega)
  refine ⟨yR (Ref.takes [78,77] rfl (.refl _)) ?_⟩
  rw [decide_eq_true h0]
theorem ziV (r:Rul):XC jA #[pS bt,ruV r] bt bs T S (.tuple #[.int .i64 (if T.back=true then r.b else r.a),.int .i64 (if T.back=true then r.a else r.b)]):=by
 intro k1 k2 fp1 fp2 w hR
 have hR:R w (fp1++fp2) [packE 78 fp1 (fX bt bs T S.E),packE 77 fp2 (fS bs S)] w:=(Thin.packE (Thin.packE (.nil []))).ref w hR
 refine zr [.v (pS bt),.v (ruV r)] ziQ (by simp) hR ?_
 have c1:=zcT bt bs T S.E
 cases hb:T.back<;>rw [hb] at c1
 ·(repeat' ((conv=>whnf);first|(refine qa (key:=78) rfl (fun w hR h0=>c1 _ _ _ h0) ?_;rintro _ _ ⟨rfl,rfl⟩;refine ⟨.v _,rfl,?_⟩)|refine zh ?_|((first|apply zc|apply za|apply zd)<;>intro h<;>try (exfalso;omega))|refine pay ?_|intro _));(all_goals (conv=>whnf))
  all_goals try (exfalso;omega)
  exact ⟨yR (Ref.takes [78,77] rfl (.refl _)) rfl⟩
 ·(repeat' ((conv=>whnf);first|(refine qa (key:=78) rfl (fun w hR h0=>c1 _ _ _ h0) ?_;rintro _ _ ⟨rfl,rfl⟩;refine ⟨.v _,rfl,?_⟩)|refine zh ?_|((first|apply zc|apply za|apply zd)<;>intro h<;>try (exfalso;omega))|refine pay ?_|intro _));(all_goals (conv=>whnf))
  all_goals try (exfalso;omega)
  exact ⟨yR (Ref.takes [78,77] rfl (.refl _)) rfl⟩
end
def qg (M:Mch) (u:List Nat) (q n:Nat):List Nat:=(List.range n).map (orb M u q)
theorem jB (M:Mch) (u:List Nat) (q n:Nat):(qg M u q n).length=n:=by simp [qg]
theorem zbf (M:Mch) (u:List Nat) (q n:Nat):qg M u q (n+1)=qg M u q n++[orb M u q n]:=by simp [qg,List.range_succ]
theorem ziW {M:Mch} {u:List Nat} {q n j:Nat} (h:j<n):(qg M u q n)[j]?=some (orb M u q j):=by
 simp [qg,List.getElem?_range h]
theorem zgG:∀ {n:Nat} {L:List Nat},L.Nodup->(∀ x∈L,x<n)->L.length<=n
 | 0,[],_,_=>Nat.le_refl _
 | 0,x::t,_,h=>absurd (h x (by simp)) (by omega)
 | n + 1,L,hn,h => by
   have h1:(L.erase n).length<=n:=zgG (hn.erase _) fun x hx=>by
    have h2:=h x (List.mem_of_mem_erase hx)
    have h3:x≠n:=fun he=>by
     subst he
     exact absurd hx (List.Nodup.not_mem_erase hn)
    omega
   by_cases hm:n∈L
   ·rw [List.length_erase_of_mem hm] at h1
    omega
   ·rw [List.erase_of_not_mem hm] at h1
    omega
def xz (l:List Nat):List Int:=(List.range 256).map fun q=>if q∈l then (l.idxOf q:Int)+1 else 0
theorem zbg (l:List Nat):(xz l).length=256:=by simp [xz]
theorem zlW:xz []=List.replicate 256 0:=by decide
theorem zlX {l:List Nat} {q:Nat} (h:q<256):(xz l).getD q 0=if q∈l then (l.idxOf q:Int)+1 else 0:=by
 simp [xz,g1q,List.getElem?_range h]
theorem zlY {l:List Nat} {q:Nat} (h:q∉l):(xz l).set q ((l.length:Int)+1)=xz (l++[q]):=by
 apply List.ext_getElem?
 intro i
 by_cases hi:i<256
 ·rw [List.getElem?_set]
  have e1:(xz l)[i]?=some (if i∈l then (l.idxOf i:Int)+1 else 0):=by simp [xz,List.getElem?_range hi]
  have e2:(xz (l++[q]))[i]?=some (if i∈l++[q] then ((l++[q]).idxOf i:Int)+1 else 0):=by simp [xz,List.getElem?_range hi]
  rw [e2,e1,zbg]
  by_cases hq:q=i
  ·subst hq
   rw [if_pos rfl,if_pos hi,if_pos (by simp),List.idxOf_append,if_neg h]
   simp
  ·rw [if_neg hq]
   by_cases hm:i∈l
   ·rw [if_pos hm,if_pos (List.mem_append_left _ hm),List.idxOf_append,if_pos hm]
   ·rw [if_neg hm,if_neg (by simp [hm];exact fun e=>hq e.symm)]
 ·rw [List.getElem?_eq_none (by rw [List.length_set,zbg];omega),List.getElem?_eq_none (by rw [zbg];omega)]
theorem zbV:∀ {off:Nat} {cs vs:List Value} {K:List Value->Prop},off+vs.length<=cs.length->K (zv cs off vs)->vp off cs vs K
 | off+1,[],vs,K,h,_=>by simp at h
 | off + 1,c :: cs,vs,K,h,hk => zbV (K := fun l => K (c :: l)) (by simp at h; omega) (by
   simpa only [zv,List.take_succ_cons,List.cons_append,Nat.add_right_comm off 1 vs.length,List.drop_succ_cons] using hk)
 | 0,cs,[],K,_,hk=>by cases cs<;>simpa [zv,vp] using hk
 | 0,[],_::_,K,h,_=>by simp at h
 | 0,c :: cs,v :: vs,K,h,hk => zbV (K := fun l => K (v :: l)) (off := 0) (by simp at h ⊢; omega) (by
   simpa [zv,Nat.zero_add] using hk)
theorem zkg {L:List Nat} {x:Nat} (h:x∈L):L.idxOf x<L.length/\L[L.idxOf x]?=some x:=by
 have h1:=List.idxOf_lt_length_of_mem h
 exact ⟨h1,by rw [g2q h1,List.getElem_idxOf]⟩
theorem uX {k:IntKind} {xs:List Int} {q:Nat} {v:Int} (h:q<xs.length):zv (zu k xs) q [.int k v]=zu k (xs.set q v):=by
 unfold zv zu
 rw [List.map_set]
 have hl:q<(xs.map (Value.int k)).length:=by simpa using h
 rw [List.set_eq_take_append_cons_drop,if_pos hl]
 simp
theorem zql {k:IntKind} {xs:List Int} {off q:Nat} {v:Int} {K:List Value->Prop} (h:off=q) (hq:q<xs.length) (hk:K (zu k (xs.set q v))):vp off (zu k xs) [.int k v] K:=by
 subst h
 exact zbV (by rw [ints_length];exact hq) (by rw [uX hq];exact hk)
structure Fol (M:Mch) (u:List Nat) (q times m tl:Nat):Prop where
 nod:(qg M u q m).Nodup
 out:(m=times+1/\tl=m)∨(m<=times/\tl<m/\orb M u q m=orb M u q tl)
structure FoG where
 i:Nat
 a:Option Addr
 c:Nat
 f1:List Nat
 f2:List Nat
def zx6 (k1 k2 bt bs:Nat) (T:Tb) (S:Sto) (u:List Nat) (q times:Nat) (v:Value) (L1:List Ent):Prop :=
 ∃ m tl a c fp1 fp2,v=.agg #[.slice a m c,.int .i64 (tl:Nat)]/\Fol T.M u q times m tl/\m<=256/\L1=[packE k1 fp1 (fX bt bs T S.E),packE k2 fp2 (fS bs S),.own 890 a m c zk 1 (zu .i64 ((qg T.M u q m).map Int.ofNat))]
theorem zcY {T:Tb} {kk:Nat} {S:Sto} (bt bs:Nat) (h:ScOk T kk S) {n:Int} (hk:known S n) {q:Nat} (hq:q<T.M.nx.length) (times:Nat) (ht:times<=9223372036854775807) (k1 k2:Nat) (fp1 fp2:List Nat) (w:World) (hR:R w (fp1++fp2) [packE k1 fp1 (fX bt bs T S.E),packE k2 fp2 (fS bs S)] w) :
 Calls Tryz.prog vB #[pS bt,.int .i64 n,.int .i64 q,.int .i64 times] w fun e w'=>∃ v L1,e=.returned v/\R w (fp1++fp2) L1 w'/\zx6 k1 k2 bt bs T S (otx T S n) q times v L1:=by
 have hR:R w (fp1++fp2) [packE 78 fp1 (fX bt bs T S.E),packE 77 fp2 (fS bs S)] w:=(Thin.packE (Thin.packE (.nil []))).ref w hR
 refine zr [.v (pS bt),.v (.int .i64 n),.v (.int .i64 q),.v (.int .i64 times)] zlb (by simp) hR ?_
 have hN:=h.ok.m.most
 have hb:=h.byt hk
 have cE:=fun q hq=>zdZ bt bs h hk (q:=q) hq
 have hlt:=zey h.ok.m hb hq
 have hos:=zcX T.M (otx T S n) q
 generalize otx T S n=u at *
 (repeat' ((conv=>whnf);first|((first|apply zc|apply za|apply zd)<;>intro h<;>try (exfalso;omega))|refine pay ?_|intro _));(all_goals (conv=>whnf))
 rename_i b8 b9 b10
 refine zw FoG (fun x=>[(0,.v (pS bt)),(1,.v (.int .i64 n)),(2,.v (.int .i64 (orb T.M u q x.i))),(3,.v (.int .i64 times)),(8,.ptr 8 b8 0),(9,.ptr 9 b9 0),(10,.ptr 10 b10 0)])
  (fun x=>[packE 78 x.f1 (fX bt bs T S.E),packE 77 x.f2 (fS bs S),.box 8 b8 [.slice none 0 0,.int .i64 0] yG,.box 9 b9 (zu .i16 (xz (qg T.M u q x.i))) zag,.box 10 b10 [.slice x.a x.i x.c,.int .i64 0] yG,.own 31 x.a x.i x.c zk 1 (zu .i64 ((qg T.M u q x.i).map Int.ofNat))])
  (fun x=>x.i<=times+1/\(qg T.M u q x.i).Nodup) (fun x=>256 - x.i) ⟨0,none,0,fp1,fp2⟩ ⟨Nat.zero_le _,.nil⟩ (by (repeat ((conv=>whnf);refine vS ?_));exact trivial) ((Ref.ownNil 31 zk 1).trans (Ref.takes [78,77,8,9,10,31] rfl (.packE (.packE (.keep rfl (fun _ h=>h) (.box (by rw [show qg T.M u q 0=[] from rfl,zlW];rfl) (.refl _))))))) ?_
 rintro ⟨i,a,c,g1,g2⟩ ⟨hi,hnd⟩
 dsimp only at hi hnd ⊢
 have hcap:∀ m,(qg T.M u q m).Nodup->m<=256:=fun m hm=>by
  have:=zgG (n:=256) hm fun x hx=>by
   obtain ⟨j,_,rfl⟩:=List.mem_map.1 hx
   have:=hlt j
   omega
  rwa [jB] at this
 have hi2:=hcap i hnd
 have hq2:=hlt i
 have hsg:=zlX (l:=qg T.M u q i) (q:=orb T.M u q i) (by omega)
 have hsl:=zbg (qg T.M u q i)
 have q0:((orb T.M u q i:Nat):Int).toNat=orb T.M u q i:=by omega
 have hnth:∀ s:Int,(xz (qg T.M u q i)).getD (orb T.M u q i) 0=s->nth (zu .i16 (xz (qg T.M u q i))) (0+orb T.M u q i*1)=some (.int .i16 s):=fun s hs=>by
  rw [zcg,Nat.zero_add,Nat.mul_one,yM (by omega),hs]
 by_cases hle:i<=times
 ·by_cases hm:orb T.M u q i∈qg T.M u q i
  ·rw [if_pos hm] at hsg
   have hn1:=hnth _ hsg
   obtain ⟨hix,hio⟩:=zkg hm
   rw [jB] at hix
   have hio:orb T.M u q i=orb T.M u q ((qg T.M u q i).idxOf (orb T.M u q i)):=by
    rw [ziW hix] at hio
    exact (Option.some.inj hio).symm
   generalize (qg T.M u q i).idxOf (orb T.M u q i)=tl at *
   (repeat' ((conv=>whnf);first|rw [q0]|rw [hn1]|refine ⟨.sl 31 _ _ _,⟨rfl,rfl,rfl,rfl⟩,?_⟩|refine zh ?_|((first|apply zc|apply za|apply zd)<;>intro h<;>try (exfalso;omega))|refine pay ?_|intro _));(all_goals (conv=>whnf))
   all_goals try (exfalso;omega)
   refine ⟨⟨_,Ref.takes [78,77,31] rfl (.packE (k':=k1) (.packE (k':=k2) (.own (k':=890) rfl rfl (.nil _)))),i,tl,a,c,g1,g2,?_,⟨hnd,.inr ⟨hle,hix,hio⟩⟩,hi2,rfl⟩⟩
   show Value.agg #[.slice a i c,.int .i64 ((tl:Int)+1 - 1)]=_
   rw [Int.add_sub_cancel]
  ·rw [if_neg hm] at hsg
   have hn1:=hnth _ hsg
   have cE2:=cE _ hq2
   rw [←hos i] at cE2
   have hset:(xz (qg T.M u q i)).set (orb T.M u q i) ((i+1:Nat):Int)=xz (qg T.M u q (i+1)):=by
    have:=zlY hm
    rw [jB] at this
    rw [zbf,←this];congr 1
   have hsn:zu .i64 ((qg T.M u q i).map Int.ofNat)++[.int .i64 ((orb T.M u q i:Nat):Int)]=zu .i64 ((qg T.M u q (i+1)).map Int.ofNat):=by
    rw [zbf,List.map_append];exact za7
   have hnd2:(qg T.M u q (i+1)).Nodup:=by
    rw [zbf,List.nodup_append]
    exact ⟨hnd,by simp,fun x hx y hy=>by rw [List.mem_singleton] at hy;subst hy;exact fun e=>hm (e ▸ hx)⟩
   (repeat' ((conv=>whnf);first|rw [q0]|rw [hn1]|rw [hsn]|rw [hset]|refine XC.go 78 77 cE2 rfl rfl fun fp1' fp2'=>?_|refine zql (q:=orb T.M u q i) (by omega) (by omega) ?_|refine ⟨.sl 31 _ _ _,⟨rfl,rfl,rfl,rfl⟩,?_⟩|refine zh ?_|((first|apply zc|apply za|apply zd)<;>intro h<;>try (exfalso;omega))|refine pay ?_|refine And.intro (by first|exact ⟨rfl,by rw [ints_length];omega⟩) ?_|intro _));(all_goals (conv=>whnf))
   all_goals try (exfalso;omega)
   have hi3:=hcap _ hnd2
   exact zi ⟨i+1,_,_,_,_⟩ ⟨Nat.succ_le_succ hle,hnd2⟩ (show 256 - (i+1)<256 - i by omega) (by (repeat ((conv=>whnf);refine vS ?_));exact trivial) (Ref.takes [78,77,8,9,10,31] rfl (.packE (.packE (.refl _))))
 ·(repeat' ((conv=>whnf);first|rw [q0]|refine zh ?_|((first|apply zc|apply za|apply zd)<;>intro h<;>try (exfalso;omega))|refine pay ?_|intro _));(all_goals (conv=>whnf))
  all_goals try (exfalso;omega)
  obtain rfl:i=times+1:=by omega
  exact ⟨⟨_,Ref.takes [78,77,31] rfl (.packE (k':=k1) (.packE (k':=k2) (.own (k':=890) rfl rfl (.nil _)))),times+1,times+1,a,c,g1,g2,rfl,⟨hnd,.inl ⟨rfl,rfl⟩⟩,hi2,rfl⟩⟩
theorem Fol.at_ {M:Mch} {u:List Nat} {q times m tl:Nat} (h:Fol M u q times m tl) {j:Nat} (hj:j<=times) (hm:m<=j):tl<m/\orb M u q (tl+(j - tl)%(m - tl))=orb M u q j:=by
 rcases h.out with ⟨h1,_⟩|⟨h1,h2,h3⟩
 ·omega
 ·exact ⟨h2,zlc (by omega) (by rw [Nat.add_sub_cancel' (by omega)];exact h3) (by omega)⟩
theorem ziX {M:Mch} {u:List Nat} {q n j:Nat} (h:j<n):((qg M u q n).map Int.ofNat).getD j 0=(orb M u q j:Int):=by
 rw [g1q,List.getElem?_map,ziW h];rfl
theorem zop (M:Mch) (u:List Nat) (q n:Nat):((qg M u q n).map Int.ofNat).length=n:=by rw [g8q,jB]
theorem zgH {M:Mch} {u:List Nat} {q times m tl:Nat} (hF:Fol M u q times m tl) (a:Option Addr) (c:Nat) (j:Nat) (hj:j<=times) (ht:times<=4611686018427387904) (w:World) (hin:In w [] a (zu .i64 ((qg M u q m).map Int.ofNat))) :
 Calls Tryz.prog xu #[.agg #[.slice a m c,.int .i64 (tl:Nat)],.int .i64 (j:Nat)] w fun e w'=>e=.returned (.int .i64 (orb M u q j:Nat))/\Ext w w':=by
 refine zF [.v (.agg #[.slice a m c,.int .i64 (tl:Nat)]),.v (.int .i64 (j:Nat))] w ziN (by simp) ?_
 have hl:=zop M u q m
 by_cases hm:j<m
 ·have rd:=fun {L:List Ent}=>rdI (L:=L) hin (i:=j) (by omega)
  have nr:a≠none:=hin.ne' (k:=j) (by rw [ints_length];omega)
  rw [ziX hm] at rd
  have q0:((j:Nat):Int).toNat=j:=by omega
  (repeat' ((conv=>whnf);first|rw [q0]|refine ⟨_,rd,?_⟩|refine zh ?_|((first|apply zc|apply za|apply zd)<;>intro h<;>try (exfalso;omega))|refine pay ?_|intro _));(all_goals (conv=>whnf))
  all_goals first|(exfalso;omega)|exact ⟨rfl⟩
 ·obtain ⟨h1,h2⟩:=hF.at_ hj (by omega)
  have hlt:tl+(j - tl)%(m - tl)<m:=by
   have:=Nat.mod_lt (j - tl) (show 0<m - tl by omega)
   omega
  have rd:=fun {L:List Ent}=>rdI (L:=L) hin (i:=tl+(j - tl)%(m - tl)) (by omega)
  have nr:a≠none:=hin.ne' (k:=tl+(j - tl)%(m - tl)) (by rw [ints_length];omega)
  rw [ziX hlt,h2] at rd
  have q1:((tl:Int)+((j:Int) - (tl:Int))%((m:Int) - (tl:Int)))=((tl+(j - tl)%(m - tl):Nat):Int):=by
   have e:((j:Int) - (tl:Int))%((m:Int) - (tl:Int))=(((j - tl)%(m - tl):Nat):Int):=by
    rw [Int.natCast_emod,Int.natCast_sub (by omega),Int.natCast_sub (by omega)]
   rw [e,Int.natCast_add]
  have q2:((tl+(j - tl)%(m - tl):Nat):Int).toNat=tl+(j - tl)%(m - tl):=by omega
  generalize tl+(j - tl)%(m - tl)=r at *
  (repeat' ((conv=>whnf);first|rw [q1]|rw [q2]|refine ⟨_,rd,?_⟩|refine zh ?_|((first|apply zc|apply za|apply zd)<;>intro h<;>try (exfalso;omega))|refine pay ?_|intro _));(all_goals (conv=>whnf))
  all_goals first|(exfalso;omega)|exact ⟨rfl⟩
def skp (M:Mch) (H:List Int) (u:List Nat):Nat->Nat->Nat
 | _,0=>0
 | q,t+1=>if 0<zG M H q u then 0 else skp M H u (zA M q u) t+1
structure Skp (M:Mch) (H:List Int) (u:List Nat) (q times c:Nat):Prop where
 le:c<=times
 no:∀ i,i<c->zG M H (orb M u q i) u=0
 hit:c<times->0<zG M H (orb M u q c) u
theorem zlZ (M:Mch) (u:List Nat) (q j:Nat):orb M u (zA M q u) j=orb M u q (j+1):=by
 rw [Nat.add_comm,zhj];congr 1;exact (zcX M u q 0).symm
theorem ziY {M:Mch} {H:List Int} {u:List Nat}:∀ {t q:Nat},Skp M H u q t (skp M H u q t)
 | 0,q=>⟨Nat.le_refl _,fun i h=>absurd h (Nat.not_lt_zero i),fun h=>absurd h (Nat.lt_irrefl _)⟩
 | t + 1,q => by
   rw [skp]
   by_cases h:0<zG M H q u
   ·rw [if_pos h]
    exact ⟨Nat.zero_le _,fun i h=>absurd h (Nat.not_lt_zero i),fun _=>h⟩
   ·rw [if_neg h]
    have ih:=ziY (M:=M) (H:=H) (u:=u) (t:=t) (q:=zA M q u)
    refine ⟨Nat.succ_le_succ ih.le,fun i hi=>?_,fun hc=>?_⟩
    ·cases i with
     | zero=>show zG M H q u=0;omega
     | succ i=>rw [←zlZ];exact ih.no i (by omega)
    ·rw [←zlZ];exact ih.hit (by omega)
theorem Skp.uniq {M:Mch} {H:List Int} {u:List Nat} {q t c d:Nat} (h:Skp M H u q t c) (k:Skp M H u q t d):c=d:=by
 rcases Nat.lt_trichotomy c d with hl|hl|hl
 ·have h1:=k.no c hl
  have h2:=h.hit (Nat.lt_of_lt_of_le hl k.le)
  omega
 ·exact hl
 ·have h1:=h.no d hl
  have h2:=k.hit (Nat.lt_of_lt_of_le hl h.le)
  omega
theorem zbq {M:Mch} {H:List Int} {u:List Nat} {q:Nat}:∀ {c:Nat},(∀ i,i<c->zG M H (orb M u q i) u=0)->zG M H q (rep c u)=0
 | 0,_=>rfl
 | c+1,h=>by rw [zoo,zbq (fun i hi=>h i (by omega)),h c (by omega)]
structure SkG where
 i:Nat
 f1:List Nat
 f2:List Nat
theorem zrq {T:Tb} {kk:Nat} {S:Sto} (bt bs:Nat) (h:ScOk T kk S) {n:Int} (hk:known S n) {q:Nat} (hq:q<T.M.nx.length) (times:Nat) (ht:times<=4611686018427387904) :
 XC zcV #[pS bt,.int .i64 n,.int .i64 q,.int .i64 times] bt bs T S (.tuple #[.int .i64 (skp T.M T.H (otx T S n) q times:Nat),.int .i64 (orb T.M (otx T S n) q (skp T.M T.H (otx T S n) q times):Nat)]):=by
 intro k1 k2 fp1 fp2 w hR
 have hR:R w (fp1++fp2) [packE 78 fp1 (fX bt bs T S.E),packE 77 fp2 (fS bs S)] w:=(Thin.packE (Thin.packE (.nil []))).ref w hR
 refine zr [.v (pS bt),.v (.int .i64 n),.v (.int .i64 q),.v (.int .i64 times)] zok (by simp) hR ?_
 have hN:=h.ok.m.most
 have hb:=h.byt hk
 have cE:=fun q hq=>zdZ bt bs h hk (q:=q) hq
 have cH:=fun q hq=>zd0 bt bs h hk (q:=q) hq
 have hlt:=zey h.ok.m hb hq
 have hos:=zcX T.M (otx T S n) q
 have hsp:=ziY (M:=T.M) (H:=T.H) (u:=otx T S n) (t:=times) (q:=q)
 generalize otx T S n=u at *
 generalize skp T.M T.H u q times=C at *
 (repeat' ((conv=>whnf);first|((first|apply zc|apply za|apply zd)<;>intro h<;>try (exfalso;omega))|refine pay ?_|intro _));(all_goals (conv=>whnf))
 rename_i b10
 refine zw SkG (fun x=>[(0,.v (pS bt)),(1,.v (.int .i64 n)),(2,.v (.int .i64 (orb T.M u q x.i))),(3,.v (.int .i64 times)),(10,.ptr 10 b10 0),(11,.v (.int .i64 x.i))])
  (fun x=>[packE 78 x.f1 (fX bt bs T S.E),packE 77 x.f2 (fS bs S),.box 10 b10 (zu .i16 (xz (qg T.M u q x.i))) zag])
  (fun x=>x.i<=times/\(qg T.M u q x.i).Nodup/\∀ j,j<x.i->zG T.M T.H (orb T.M u q j) u=0) (fun x=>256 - x.i) ⟨0,fp1,fp2⟩ ⟨Nat.zero_le _,.nil,fun j hj=>absurd hj (Nat.not_lt_zero j)⟩ (by (repeat ((conv=>whnf);refine vS ?_));exact trivial) (Ref.takes [78,77,10] rfl (.packE (.packE (.box (by rw [show qg T.M u q 0=[] from rfl,zlW];rfl) (.nil _))))) ?_
 rintro ⟨i,g1,g2⟩ ⟨hi,hnd,hno⟩
 dsimp only at hi hnd hno ⊢
 have hcap:∀ m,(qg T.M u q m).Nodup->m<=256:=fun m hm=>by
  have:=zgG (n:=256) hm fun x hx=>by
   obtain ⟨j,_,rfl⟩:=List.mem_map.1 hx
   have:=hlt j
   omega
  rwa [jB] at this
 have hi2:=hcap i hnd
 have hq2:=hlt i
 have hsg:=zlX (l:=qg T.M u q i) (q:=orb T.M u q i) (by omega)
 have hsl:=zbg (qg T.M u q i)
 have q0:((orb T.M u q i:Nat):Int).toNat=orb T.M u q i:=by omega
 have hnth:∀ s:Int,(xz (qg T.M u q i)).getD (orb T.M u q i) 0=s->nth (zu .i16 (xz (qg T.M u q i))) (0+orb T.M u q i*1)=some (.int .i16 s):=fun s hs=>by
  rw [zcg,Nat.zero_add,Nat.mul_one,yM (by omega),hs]
 by_cases hle:i<times
 case neg =>
  obtain rfl:i=times:=by omega
  obtain rfl:i=C:=Skp.uniq ⟨Nat.le_refl _,hno,fun h=>absurd h (Nat.lt_irrefl _)⟩ hsp
  (repeat' ((conv=>whnf);first|refine zh ?_|((first|apply zc|apply za|apply zd)<;>intro h<;>try (exfalso;omega))|refine pay ?_|intro _));(all_goals (conv=>whnf))
  all_goals try (exfalso;omega)
  exact ⟨yR (Ref.takes [78,77] rfl (.refl _)) rfl⟩
 have cH2:=cH _ hq2
 by_cases hh:0<zG T.M T.H (orb T.M u q i) u
 ·obtain rfl:i=C:=Skp.uniq ⟨by omega,hno,fun _=>hh⟩ hsp
  rw [decide_eq_true hh] at cH2
  (repeat' ((conv=>whnf);first|refine XC.go 78 77 cH2 rfl rfl fun fp1' fp2'=>?_|refine zh ?_|((first|apply zc|apply za|apply zd)<;>intro h<;>try (exfalso;omega))|refine pay ?_|intro _));(all_goals (conv=>whnf))
  all_goals try (exfalso;omega)
  exact ⟨yR (Ref.takes [78,77] rfl (.refl _)) rfl⟩
 rw [decide_eq_false hh] at cH2
 have hno2:∀ j,j<i+1->zG T.M T.H (orb T.M u q j) u=0:=fun j hj=>by
  by_cases hji:j=i
  ·subst hji;omega
  ·exact hno j (by omega)
 by_cases hm:orb T.M u q i∈qg T.M u q i
 ·rw [if_pos hm] at hsg
  have hn1:=hnth _ hsg
  obtain ⟨hix,hio⟩:=zkg hm
  rw [jB] at hix
  have hio:orb T.M u q i=orb T.M u q ((qg T.M u q i).idxOf (orb T.M u q i)):=by
   rw [ziW hix] at hio
   exact (Option.some.inj hio).symm
  generalize (qg T.M u q i).idxOf (orb T.M u q i)=tl at *
  have hcy:orb T.M u q (tl+(i - tl))=orb T.M u q tl:=by rw [Nat.add_sub_cancel' (by omega)];exact hio
  have hall:∀ j,zG T.M T.H (orb T.M u q j) u=0:=fun j=>by
   by_cases hj:j<i
   ·exact hno j hj
   ·rw [←zlc (by omega) hcy (j:=j) (by omega)]
    have:=Nat.mod_lt (j - tl) (show 0<i - tl by omega)
    exact hno _ (by omega)
  obtain rfl:times=C:=Skp.uniq ⟨Nat.le_refl _,fun j _=>hall j,fun h=>absurd h (Nat.lt_irrefl _)⟩ hsp
  have hci:orb T.M u q (i+(i - tl))=orb T.M u q i:=by
   have:=zhk hcy 1 (i - tl)
   rw [Nat.one_mul,Nat.add_sub_cancel' (by omega)] at this
   exact this
  have hfin:=zlc (by omega) hci (j:=times) (by omega)
  have e:((times:Int) - (i:Int))%((i:Int)+1 - ((tl:Int)+1))=(((times - i)%(i - tl):Nat):Int):=by
   rw [show (i:Int)+1 - ((tl:Int)+1)=((i - tl:Nat):Int) by omega,show (times:Int) - (i:Int)=((times - i:Nat):Int) by omega,Int.natCast_emod]
  have hr:(times - i)%(i - tl)<i - tl:=Nat.mod_lt _ (by omega)
  generalize (times - i)%(i - tl)=R at *
  (repeat' ((conv=>whnf);first|rw [q0]|rw [hn1]|rw [e]|refine XC.go 78 77 cH2 rfl rfl fun fp1' fp2'=>?_|refine zh ?_|((first|apply zc|apply za|apply zd)<;>intro h<;>try (exfalso;omega))|refine pay ?_|intro _));(all_goals (conv=>whnf))
  all_goals try (exfalso;omega)
  refine zw SkG (fun x=>[(0,.v (pS bt)),(1,.v (.int .i64 n)),(2,.v (.int .i64 (orb T.M u q (i+x.i)))),(3,.v (.int .i64 times)),(13,.v (.int .i64 ((R:Int) - (x.i:Int))))])
   (fun x=>[packE 78 x.f1 (fX bt bs T S.E),packE 77 x.f2 (fS bs S)]) (fun x=>x.i<=R) (fun x=>R - x.i) ⟨0,_,_⟩ (Nat.zero_le _) (by (repeat ((conv=>whnf);refine vS ?_));exact trivial) (Ref.takes [78,77] rfl (.packE (.packE (.nil _)))) ?_
  rintro ⟨r,y1,y2⟩ hr2
  dsimp only at hr2 ⊢
  by_cases hrl:r<R
  ·have cE2:=cE _ (hlt (i+r))
   rw [←hos (i+r)] at cE2
   (repeat' ((conv=>whnf);first|refine XC.go 78 77 cE2 rfl rfl fun fp1' fp2'=>?_|refine zh ?_|((first|apply zc|apply za|apply zd)<;>intro h<;>try (exfalso;omega))|refine pay ?_|intro _));(all_goals (conv=>whnf))
   all_goals try (exfalso;omega)
   exact zi ⟨r+1,_,_⟩ hrl (show R - (r+1)<R - r by omega) (by (repeat ((conv=>whnf);refine vS ?_));exact trivial) (Ref.takes [78,77] rfl (.packE (.packE (.nil _))))
  ·obtain rfl:r=R:=by omega
   rw [hfin]
   (repeat' ((conv=>whnf);first|refine zh ?_|((first|apply zc|apply za|apply zd)<;>intro h<;>try (exfalso;omega))|refine pay ?_|intro _));(all_goals (conv=>whnf))
   all_goals try (exfalso;omega)
   exact ⟨yR (Ref.takes [78,77] rfl (.refl _)) rfl⟩
 ·rw [if_neg hm] at hsg
  have hn1:=hnth _ hsg
  have cE2:=cE _ hq2
  rw [←hos i] at cE2
  have hset:(xz (qg T.M u q i)).set (orb T.M u q i) ((i:Int)+1)=xz (qg T.M u q (i+1)):=by
   have:=zlY hm
   rw [jB] at this
   rw [zbf,←this]
  have hnd2:(qg T.M u q (i+1)).Nodup:=by
   rw [zbf,List.nodup_append]
   exact ⟨hnd,by simp,fun x hx y hy=>by rw [List.mem_singleton] at hy;subst hy;exact fun e=>hm (e ▸ hx)⟩
  (repeat' ((conv=>whnf);first|rw [q0]|rw [hn1]|rw [hset]|refine XC.go 78 77 cH2 rfl rfl fun fp1' fp2'=>?_|refine XC.go 78 77 cE2 rfl rfl fun fp1' fp2'=>?_|refine zql (q:=orb T.M u q i) (by omega) (by omega) ?_|refine zh ?_|((first|apply zc|apply za|apply zd)<;>intro h<;>try (exfalso;omega))|refine pay ?_|refine And.intro (by first|exact ⟨rfl,by rw [ints_length];omega⟩) ?_|intro _));(all_goals (conv=>whnf))
  all_goals try (exfalso;omega)
  have hi3:=hcap _ hnd2
  exact zi ⟨i+1,_,_⟩ ⟨hle,hnd2,hno2⟩ (show 256 - (i+1)<256 - i by omega) (by (repeat ((conv=>whnf);refine vS ?_));exact trivial) (Ref.takes [78,77,10] rfl (.packE (.packE (.refl _))))
theorem zur {S:Sto} (hw:WF S) (T:Tb) {i:Int} (h1:1<=i) (h2:i<=S.E.length) :
 ((atE S.E i).r.k=1/\(otx T S i).length=1) ∨
 ((atE S.E i).r.k=2/\otx T S i=otx T S (if T.back=true then (atE S.E i).r.b else (atE S.E i).r.a)++otx T S (if T.back=true then (atE S.E i).r.a else (atE S.E i).r.b)/\(1<=(atE S.E i).r.a/\(atE S.E i).r.a<i)/\(1<=(atE S.E i).r.b/\(atE S.E i).r.b<i)) ∨
 ((atE S.E i).r.k=3/\otx T S i=rep (atE S.E i).r.t.toNat (otx T S (atE S.E i).r.a)/\(1<=(atE S.E i).r.a/\(atE S.E i).r.a<i)/\2<=(atE S.E i).r.t/\(atE S.E i).r.t.toNat*(tm S.E (atE S.E i).r.a).len<=LM/\1<=(tm S.E (atE S.E i).r.a).len):=by
 obtain ⟨ho,_⟩:=hw.at_ h1 h2
 have hle:=hw.le h2
 rcases zfe hw h1 h2 with ⟨v,e⟩|⟨v,e,_⟩|⟨v,e,_,e2,e3⟩
 ·exact .inl ⟨v,by rw [zaJ];exact e⟩
 ·refine .inr (.inl ⟨v,?_,?_,?_⟩)
  ·unfold otx
   rw [e,zjZ]
   cases T.back<;>rfl
  ·rcases ho with ho|ho|ho<;>omega
  ·rcases ho with ho|ho|ho<;>omega
 ·refine .inr (.inr ⟨v,?_,?_,e3,?_,e2⟩)
  ·unfold otx
   rw [e,zaG]
  ·rcases ho with ho|ho|ho<;>omega
  ·unfold Tm.len at hle ⊢
   rw [e,jP] at hle
   exact hle
structure FsG where
 id:Int
 q:Nat
 rd:Nat
 f1:List Nat
 f2:List Nat
def zoq (S:Sto) (i:Int):Prop:=1<=i/\i<=S.E.length
theorem zus {S:Sto} (hw:WF S):Clo S (zoq S):=by
 intro i h
 obtain ⟨ho,_⟩:=hw.at_ h.1 h.2
 unfold zoq at *
 refine ⟨h.1,h.2,fun hk=>?_,fun hk=>?_⟩
 ·rcases ho with ho|ho|ho<;>omega
 ·rcases ho with ho|ho|ho<;>omega
structure Prs (T:Tb) (S:Sto) (X:List Nat) (ps:List Pt):Prop where
 id:∀ p∈ps,1<=p.id/\p.id<=S.E.length/\1<=p.t/\p.t*(tm S.E p.id).len<=LM/\1<=(tm S.E p.id).len
 tx:ps.flatMap (fun p=>rep p.t (otx T S p.id))=X
 le:ps.length<=6291457
theorem zqm {α:Type} {f:α->List Nat}:∀ {l:List α} {x:α},x∈l->(f x).length<=(l.flatMap f).length
 | y :: l,x,h => by
   rw [List.flatMap_cons,g6q]
   rcases List.mem_cons.1 h with rfl|h
   ·omega
   ·have:=zqm (f:=f) h;omega
def zx7 (bt bs:Nat) (T:Tb) (S:Sto) (X:List Nat) (v:Value) (L1:List Ent):Prop :=
 ∃ ps a c fp1 fp2,v=.slice a (ps:List Pt).length c/\Prs T S X ps/\L1=[packE 78 fp1 (fX bt bs T S.E),packE 77 fp2 (fS bs S),.own 880 a ps.length c zM 3 (pts ps)]
theorem zf2 {T:Tb} {kk:Nat} {S:Sto} (bt bs:Nat) (h:ScOk T kk S) {n:Int} (hk:known S n) {i m:Nat} (hi:i+m<=(tm S.E n).len) (fp1 fp2:List Nat) (w:World) (hR:R w (fp1++fp2) [packE 78 fp1 (fX bt bs T S.E),packE 77 fp2 (fS bs S)] w) :
 Calls Tryz.prog jt #[pS bt,.int .i64 n,.int .i64 i,.int .i64 m] w fun e w'=>∃ v L1,e=.returned v/\R w (fp1++fp2) L1 w'/\zx7 bt bs T S (ori T.back (((tm S.E n).txt.drop i).take m)) v L1:=by
 refine zr [.v (pS bt),.v (.int .i64 n),.v (.int .i64 i),.v (.int .i64 m)] zmA (by simp) hR ?_
 have hLM:LM=1152921504606846976:=rfl
 have hln:=h.wf.le hk.2
 have c1:=uh bt bs T S.E
 have cB:=zcT bt bs T S.E
 have hPO:POk S (zoq S) ⟨n,i,m⟩:=⟨by
  by_cases h0:n=0
  ·exact .inl h0
  ·exact .inr ⟨by have:=hk.1;show 1<=n;omega,hk.2⟩,hi⟩
 have c5:=fun f0 fp (w':World) hR=>zf1 bs S h.wf (zoq S) (zus h.wf) ⟨n,i,m⟩ hPO f0 fp w' hR
 have c6:=fun ps hl (a8:Option Addr) (c8:Nat) fp (w':World) hR=>zhX ps hl a8 c8 fp w' hR
 have hprs:∀ ps:List Pt,(∀ q∈ps,QOk S (zoq S) q)->ps.flatMap (ptT S)=pcT S ⟨n,i,m⟩->ps.length<=6291457->Prs T S (ori T.back (((tm S.E n).txt.drop i).take m)) (zgF T.back ps):=fun ps hQ htx hpl=>by
  refine ⟨fun p hp=>?_,?_,by rw [zfj];exact hpl⟩
  ·have hp:=ordP_mem.1 hp
   obtain ⟨q1,q2⟩:=hQ p hp
   have h1:=zqm (f:=ptT S) hp
   rw [htx] at h1
   have h2:(pcT S ⟨n,i,m⟩).length<=(tm S.E n).len:=by
    show (((tm S.E n).txt.drop i).take m).length<=(tm S.E n).txt.length
    rw [List.length_take,List.length_drop]
    omega
   have h3:(ptT S p).length=p.t*(tm S.E p.id).len:=by unfold ptT Tm.len;rw [jP]
   exact ⟨q1.1,q1.2,by rcases q2 with q2|q2<;>omega,by omega,h.wf.pos1 q1.1 q1.2⟩
  ·show _=ori T.back (pcT S ⟨n,i,m⟩)
   rw [←htx,zlV]
   congr 1
   funext p
   exact (zaG T.back p.t _).symm
 cases hb:T.back<;>rw [hb] at cB hprs
 all_goals
  (repeat' ((conv=>whnf);first|(refine qa (key:=78) rfl (fun w hR h0=>c1 _ _ _ h0) ?_;rintro _ _ ⟨rfl,rfl⟩;refine ⟨.v _,rfl,?_⟩)|(refine qa (key:=78) rfl (fun w hR h0=>cB _ _ _ h0) ?_;rintro _ _ ⟨rfl,rfl⟩;refine ⟨.v _,rfl,?_⟩)|(refine zj4 [77] rfl (fun w' hR h0=>c5 _ _ w' (by with_reducible exact h0)) ?_;rintro _ _ w2 ⟨ps,a8,c8,f8,rfl,hQ,htx,hpl,rfl⟩ hRp;refine ⟨.v _,rfl,?_⟩)|(refine zD [880] rfl (fun w' hR h0=>c6 ps (Nat.le_trans hpl (Nat.le_of_ble_eq_true rfl)) _ _ _ w' h0) ?_;rintro _ _ ⟨rfl,rfl⟩;refine ⟨.v _,rfl,?_⟩)|refine zh ?_|((first|apply zc|apply za|apply zd)<;>intro h<;>try (exfalso;omega))|refine pay ?_|intro _));(all_goals (conv=>whnf))
  all_goals try (exfalso;omega)
  have hp:=hprs ps hQ htx hpl
  exact ⟨⟨_,Ref.takes [78,77,880] rfl (.packE (.packE (.own (by rw [zfj]) rfl (.nil _)))),_,_,_,_,_,by rw [zfj],hp,rfl⟩⟩
theorem zld:∀ l:List Pt,(pts l).length=l.length*3
 | []=>rfl
 | p :: l => by
   have:=zld l
   unfold pts at this ⊢
   rw [List.flatMap_cons,g6q,this,List.length_cons]
   show 3+_=_
   omega
theorem zor:∀ {l:List Pt} {i:Nat} {p:Pt},l[i]?=some p->((pts l).drop (i*3)).take 3=ptC p
 | x :: l,0,p,h => by
   have:x=p:=by simpa using h
   subst this;rfl
 | x :: l,i + 1,p,h => by
   have h':l[i]?=some p:=by simpa using h
   rw [←zor h']
   show (List.drop ((i+1)*3) (ptC x++pts l)).take 3=_
   rw [Nat.succ_mul,Nat.add_comm,←List.drop_drop];rfl
structure ThG where
 i:Nat
 f1:List Nat
 f2:List Nat
theorem zmD {T:Tb} {kk:Nat} {S:Sto} (bt bs:Nat) (h:ScOk T kk S) {X:List Nat} {ps:List Pt} (hP:Prs T S X ps) (a:Option Addr) (c:Nat) {q:Nat} (hq:q<T.M.nx.length) (fp1 fp2:List Nat) (w:World) (hR:R w (fp1++fp2) [packE 78 fp1 (fX bt bs T S.E),packE 77 fp2 (fS bs S)] w) (hin:In w (fp1++fp2) a (pts ps)) :
 Calls Tryz.prog zaf #[pS bt,.slice a ps.length c,.int .i64 q] w fun e w'=>∃ v L1,e=.returned v/\R w (fp1++fp2) L1 w'/\zk7 78 77 bt bs T S (.int .i64 (zA T.M q X:Nat)) v L1:=by
 refine zr [.v (pS bt),.v (.slice a ps.length c),.v (.int .i64 q)] zj7 (by simp) hR ?_
 have hLM:LM=1152921504606846976:=rfl
 have hpl:=hP.le
 have hX:=hP.tx
 obtain ⟨st,hst⟩:∃ st:Nat->Nat,∀ i,zA T.M q ((ps.take i).flatMap fun p=>rep p.t (otx T S p.id))=st i:=⟨_,fun _=>rfl⟩
 have hst0:st 0=q:=(hst 0).symm
 have hstE:zA T.M q X=st ps.length:=by rw [←hst,List.take_length,hX]
 have hbt:∀ i,∀ b∈(ps.take i).flatMap (fun p=>rep p.t (otx T S p.id)),b<256:=fun i b hb=>by
  obtain ⟨p,hp,hb⟩:=List.mem_flatMap.1 hb
  have:=hP.id p (List.mem_of_mem_take hp)
  exact h.byt ⟨by omega,this.2.1⟩ b (zbe hb)
 have hstl:∀ i,st i<T.M.nx.length:=fun i=>by rw [←hst];exact xI h.ok.m (hbt i) hq
 have hstS:∀ i p,ps[i]?=some p->st (i+1)=orb T.M (otx T S p.id) (st i) p.t:=fun i p hp=>by
  have e:ps.take (i+1)=ps.take i++[p]:=by rw [List.take_add_one,hp];rfl
  rw [←hst,←hst,e,List.flatMap_append,xZ,List.flatMap_singleton];rfl
 rw [hstE]
 (repeat' ((conv=>whnf);first|((first|apply zc|apply za|apply zd)<;>intro h<;>try (exfalso;omega))|refine pay ?_|intro _));(all_goals (conv=>whnf))
 refine zw ThG (fun x=>[(0,.v (pS bt)),(1,.v (.slice a ps.length c)),(2,.v (.int .i64 (st x.i))),(9,.v (.slice a ps.length c)),(10,.v (.int .i64 ps.length)),(11,.v (.int .i64 x.i))])
  (fun x=>[packE 78 x.f1 (fX bt bs T S.E),packE 77 x.f2 (fS bs S)]) (fun x=>x.i<=ps.length) (fun x=>ps.length - x.i) ⟨0,fp1,fp2⟩ (Nat.zero_le _) (by (repeat ((conv=>whnf);refine vS ?_));exact trivial) (Ref.takes [78,77] rfl (.packE (.packE (.nil _)))) ?_
 rintro ⟨i,g1,g2⟩ hi
 dsimp only at hi ⊢
 by_cases hlt:i<ps.length
 case neg =>
  obtain rfl:i=ps.length:=by omega
  (repeat' ((conv=>whnf);first|refine zh ?_|((first|apply zc|apply za|apply zd)<;>intro h<;>try (exfalso;omega))|refine pay ?_|intro _));(all_goals (conv=>whnf))
  all_goals try (exfalso;omega)
  exact ⟨yR (Ref.takes [78,77] rfl (.refl _)) rfl⟩
 obtain ⟨p,hp⟩:∃ p,ps[i]?=some p:=⟨_,g2q hlt⟩
 have hpm:=hP.id p (List.mem_of_getElem? hp)
 have rd:=fun {L:List Ent}=>In.rdn (L:=L) (vs:=ptC p) (k:=i*3) hin (Nat.succ_pos _) (zor hp)
 have nr:a≠none:=hin.ne' (k:=i*3) (by rw [zld];omega)
 have q0:((i:Nat):Int).toNat=i:=by omega
 have kp:known S p.id:=⟨by omega,hpm.2.1⟩
 have htb:p.t<=LM:=by
  have:p.t*1<=LM:=Nat.le_trans (Nat.mul_le_mul_left _ hpm.2.2.2.2) hpm.2.2.2.1
  omega
 have cF:=fun k1 k2 fp1 fp2 w hR=>zcY bt bs h kp (hstl i) p.t (by omega) k1 k2 fp1 fp2 w hR
 have hstp:=hstS i p hp
 have cA:=fun {m tl:Nat} (hF:Fol T.M (otx T S p.id) (st i) p.t m tl) a c w hin=>zgH hF a c p.t (Nat.le_refl _) (by omega) w hin
 rw [←hstp] at cA
 obtain ⟨id,pw,t⟩:=p
 dsimp only [ptC] at *
 (repeat' ((conv=>whnf);first|rw [q0]|refine zca _ (Ref.takes [8] rfl (.refl _)) ?_|refine ⟨[.int .i64 id,.int .i64 pw,.int .i64 t],rfl,rd,?_⟩|(refine yX (key1:=78) (key2:=77) rfl rfl (fun w hR h0=>cF _ _ _ _ _ h0) ?_;rintro _ _ ⟨m,tl,aF,cF2,y1,y2,rfl,hF,hm,rfl⟩;refine ⟨.v _,rfl,?_⟩)|(refine zm (.v _) (fun w' hR=>cA hF _ _ w' (In.ownR (key:=890) hR rfl)) ?_)|refine zh ?_|((first|apply zc|apply za|apply zd)<;>intro h<;>try (exfalso;omega))|refine pay ?_|refine And.intro (by first|exact Ref.takes [8] rfl (.refl _)) ?_|intro _));(all_goals (conv=>whnf))
 all_goals try (exfalso;omega)
 exact zi ⟨i+1,_,_⟩ hlt (show ps.length - (i+1)<ps.length - i by omega) (by (repeat ((conv=>whnf);refine vS ?_));exact trivial) (Ref.takes [78,77] rfl (.packE (.packE (.nil _))))
def lcp (M:Mch) (H:List Int) (u:List Nat) (q:Nat):Nat->Nat
 | 0=>0
 | t+1=>if 0<zG M H (orb M u q t) u then t else lcp M H u q t
structure Lcp (M:Mch) (H:List Int) (u:List Nat) (q t j:Nat):Prop where
 lt:j<t
 hit:0<zG M H (orb M u q j) u
 no:∀ i,j<i->i<t->zG M H (orb M u q i) u=0
theorem zfk {M:Mch} {H:List Int} {u:List Nat} {q:Nat}:∀ {t:Nat},0<zG M H q (rep t u)->Lcp M H u q t (lcp M H u q t)
 | 0,h=>absurd h (by show ¬0<0;omega)
 | t + 1,h => by
   rw [lcp]
   by_cases hh:0<zG M H (orb M u q t) u
   ·rw [if_pos hh]
    exact ⟨Nat.lt_succ_self t,hh,fun i h1 h2=>by omega⟩
   ·rw [if_neg hh]
    rw [zoo] at h
    have ih:=zfk (t:=t) (M:=M) (H:=H) (u:=u) (q:=q) (by omega)
    refine ⟨Nat.lt_succ_of_lt ih.lt,ih.hit,fun i h1 h2=>?_⟩
    by_cases hi:i=t
    ·subst hi;omega
    ·exact ih.no i h1 (by omega)
theorem Lcp.uniq {M:Mch} {H:List Int} {u:List Nat} {q t c d:Nat} (h:Lcp M H u q t c) (k:Lcp M H u q t d):c=d:=by
 rcases Nat.lt_trichotomy c d with hl|hl|hl
 ·have h1:=h.no d hl k.lt
  have h2:=k.hit
  omega
 ·exact hl
 ·have h1:=k.no c hl h.lt
  have h2:=h.hit
  omega
theorem Lcp.pos {M:Mch} {H:List Int} {u:List Nat} {q t j:Nat} (h:Lcp M H u q t j):0<zG M H q (rep t u):=by
 have h1:=h.hit
 rw [show t=j+(1+(t - j - 1)) by have:=h.lt;omega,vC,vC,x7]
 omega
theorem zos {M:Mch} {H:List Int} {u:List Nat} {q t j:Nat} (h:Lcp M H u q t j):qf M H q (rep t u)=j*u.length+qf M H (orb M u q j) u:=by
 have h0:zG M H (orb M u q (j+1)) (rep (t - j - 1) u)=0:=zbq fun i hi=>by
  rw [←zhj];exact h.no _ (by omega) (by have:=h.lt;omega)
 have h2:qf M H (orb M u q j) u≠0:=fun e=>by
  have:=lstH_zero.1 e;have:=h.hit;omega
 have h3:qf M H (orb M u q j) (u++rep (t - j - 1) u)=qf M H (orb M u q j) u:=by
  rw [vf,if_pos]
  rw [lstH_zero,←zcX];exact h0
 rw [show t=j+(1+(t - j - 1)) by have:=h.lt;omega,kQ,vf,kQ,x7]
 show (if qf M H (orb M u q j) (u++_)=0 then _ else _+qf M H (orb M u q j) (u++_))=_
 rw [h3,if_neg h2,jP]
structure LcG where
 i:Nat
 t:Nat
 f1:List Nat
 f2:List Nat
theorem zez {T:Tb} {kk:Nat} {S:Sto} (bt bs:Nat) (h:ScOk T kk S) {n:Int} (hk:known S n) {q:Nat} (hq:q<T.M.nx.length) (times:Nat) (ht:times<=4611686018427387904) (hh:0<zG T.M T.H q (rep times (otx T S n))) :
 XC vT #[pS bt,.int .i64 n,.int .i64 q,.int .i64 times] bt bs T S (.tuple #[.int .i64 (lcp T.M T.H (otx T S n) q times:Nat),.int .i64 (orb T.M (otx T S n) q (lcp T.M T.H (otx T S n) q times):Nat)]):=by
 intro k1 k2 fp1 fp2 w hR
 have hR:R w (fp1++fp2) [packE 78 fp1 (fX bt bs T S.E),packE 77 fp2 (fS bs S)] w:=(Thin.packE (Thin.packE (.nil []))).ref w hR
 refine zr [.v (pS bt),.v (.int .i64 n),.v (.int .i64 q),.v (.int .i64 times)] ziT (by simp) hR ?_
 have cH:=fun q hq=>zd0 bt bs h hk (q:=q) hq
 have cF:=fun k1 k2 fp1 fp2 w hR=>zcY bt bs h hk hq times (by omega) k1 k2 fp1 fp2 w hR
 have cA:=fun {m tl:Nat} (hF:Fol T.M (otx T S n) q times m tl) a c j hj w hin=>zgH hF a c j hj (by omega) w hin
 have hlt:=zey h.ok.m (h.byt hk) hq
 have hsp:=zfk hh
 generalize otx T S n=u at *
 generalize lcp T.M T.H u q times=C at *
 have htp:0<times:=by have:=hsp.lt;omega
 (repeat' ((conv=>whnf);first|(refine yX (key1:=78) (key2:=77) rfl rfl (fun w hR h0=>cF _ _ _ _ _ h0) ?_;rintro _ _ ⟨m,tl,aF,cF2,y1,y2,rfl,hF,hm,rfl⟩;refine ⟨.v _,rfl,?_⟩)|refine zh ?_|((first|apply zc|apply za|apply zd)<;>intro h<;>try (exfalso;omega))|refine pay ?_|intro _));(all_goals (conv=>whnf))
 all_goals try (exfalso;omega)
 rename_i b10
 have hl:=zop T.M u q m
 refine zcu LcG (fun x=>[(0,.v (pS bt)),(1,.v (.int .i64 n)),(2,.v (.int .i64 q)),(3,.v (.int .i64 x.t)),(10,.ptr 10 b10 0)])
  (fun x=>[packE 78 x.f1 (fX bt bs T S.E),packE 77 x.f2 (fS bs S),.box 10 b10 [.slice aF m cF2,.int .i64 (tl:Nat)] yG,.own 890 aF m cF2 zk 1 (zu .i64 ((qg T.M u q m).map Int.ofNat))])
  (fun x=>x.t<=times/\x.t<=m/\∀ j,x.t<=j->j<times->zG T.M T.H (orb T.M u q j) u=0) ?_ ?_
 ·by_cases hgt:m<times
  case neg =>
   have hmt:times<=m:=by omega
   (repeat' ((conv=>whnf);first|refine ⟨.sl 890 _ _ _,⟨rfl,rfl,rfl,rfl⟩,?_⟩|refine zh ?_|((first|apply zc|apply za|apply zd)<;>intro h<;>try (exfalso;omega))|refine pay ?_|intro _));(all_goals (conv=>whnf))
   all_goals try (exfalso;omega)
   exact xJ ⟨0,times,_,_⟩ ⟨Nat.le_refl _,hmt,fun j h1 h2=>absurd h2 (Nat.not_lt.2 h1)⟩ (by (repeat ((conv=>whnf);refine vS ?_));exact trivial) (Ref.takes [78,77,10,890] rfl (.packE (.packE (.refl _))))
  obtain ⟨hmt,htl,hcy⟩:m<=times/\tl<m/\orb T.M u q m=orb T.M u q tl:=by
   rcases hF.out with h1|h1
   ·omega
   ·exact h1
  have hcy2:orb T.M u q (tl+(m - tl))=orb T.M u q tl:=by rw [Nat.add_sub_cancel' (by omega)];exact hcy
  (repeat' ((conv=>whnf);first|refine zh ?_|((first|apply zc|apply za|apply zd)<;>intro h<;>try (exfalso;omega))|refine pay ?_|intro _));(all_goals (conv=>whnf))
  all_goals try (exfalso;omega)
  refine zw LcG (fun x=>[(0,.v (pS bt)),(1,.v (.int .i64 n)),(2,.v (.int .i64 q)),(3,.v (.int .i64 times)),(10,.ptr 10 b10 0),(11,.v (.int .i64 m)),(12,.v (.int .i64 ((times:Int) - 1 - x.i)))])
   (fun x=>[packE 78 x.f1 (fX bt bs T S.E),packE 77 x.f2 (fS bs S),.box 10 b10 [.slice aF m cF2,.int .i64 (tl:Nat)] yG,.own 890 aF m cF2 zk 1 (zu .i64 ((qg T.M u q m).map Int.ofNat))])
   (fun x=>x.i<=m - tl/\∀ j,times - x.i<=j->j<times->zG T.M T.H (orb T.M u q j) u=0) (fun x=>m - x.i) ⟨0,0,_,_⟩ ⟨Nat.zero_le _,fun j h1 h2=>absurd h2 (Nat.not_lt.2 h1)⟩ (by (repeat ((conv=>whnf);refine vS ?_));exact trivial) (Ref.takes [78,77,10,890] rfl (.packE (.packE (.refl _)))) ?_
  rintro ⟨k,t0,z1,z2⟩ ⟨hk2,hno⟩
  dsimp only at hk2 hno ⊢
  by_cases hlt2:k<m - tl
  ·have hc0:(times:Int) - 1 - (k:Int)=((times - 1 - k:Nat):Int):=by omega
   have cA2:=fun w hin=>cA hF aF cF2 (times - 1 - k) (by omega) w hin
   have cH2:=cH _ (hlt (times - 1 - k))
   rw [hc0]
   by_cases hit:0<zG T.M T.H (orb T.M u q (times - 1 - k)) u
   ·rw [decide_eq_true hit] at cH2
    obtain rfl:times - 1 - k=C:=Lcp.uniq ⟨by omega,hit,fun j h1 h2=>hno j (by omega) h2⟩ hsp
    (repeat' ((conv=>whnf);first|(refine zm (.v _) (fun w' hR=>cA2 w' (In.ownR (key:=890) hR rfl)) ?_)|refine XC.go 78 77 cH2 rfl rfl fun fp1' fp2'=>?_|refine zh ?_|((first|apply zc|apply za|apply zd)<;>intro h<;>try (exfalso;omega))|refine pay ?_|intro _));(all_goals (conv=>whnf))
    all_goals try (exfalso;omega)
    exact ⟨yR (Ref.takes [78,77] rfl (.refl _)) rfl⟩
   ·rw [decide_eq_false hit] at cH2
    (repeat' ((conv=>whnf);first|(refine zm (.v _) (fun w' hR=>cA2 w' (In.ownR (key:=890) hR rfl)) ?_)|refine XC.go 78 77 cH2 rfl rfl fun fp1' fp2'=>?_|refine zh ?_|((first|apply zc|apply za|apply zd)<;>intro h<;>try (exfalso;omega))|refine pay ?_|intro _));(all_goals (conv=>whnf))
    all_goals try (exfalso;omega)
    refine zi ⟨k+1,0,_,_⟩ ⟨hlt2,fun j h1 h2=>?_⟩ (show m - (k+1)<m - k by omega) (by (repeat ((conv=>whnf);refine vS ?_));exact trivial) (Ref.takes [78,77,10,890] rfl (.packE (.packE (.refl _))))
    by_cases hj:j=times - 1 - k
    ·subst hj;omega
    ·exact hno j (by dsimp only at h1;omega) h2
  ·obtain rfl:k=m - tl:=by omega
   have hno2:∀ j,tl<=j->j<times->zG T.M T.H (orb T.M u q j) u=0:=fun j h1 h2=>by
    by_cases hj:times - (m - tl)<=j
    ·exact hno j hj h2
    ·-- the same state comes again among the last xK
     obtain ⟨e,he1,he2⟩:∃ e,(times - (m - tl)<=e/\e<times)/\orb T.M u q e=orb T.M u q j:=by
      refine ⟨j+(times - 1 - j)/(m - tl)*(m - tl),?_,?_⟩
      ·have d:=Nat.div_add_mod (times - 1 - j) (m - tl)
       have l:=Nat.mod_lt (times - 1 - j) (show 0<m - tl by omega)
       rw [Nat.mul_comm] at d
       generalize (times - 1 - j)/(m - tl)*(m - tl)=D at *
       omega
      ·have:=zhk hcy2 ((times - 1 - j)/(m - tl)) (j - tl)
       rw [Nat.add_sub_cancel' h1] at this
       exact this
     rw [←he2];exact hno e he1.1 he1.2
   (repeat' ((conv=>whnf);first|refine zh ?_|((first|apply zc|apply za|apply zd)<;>intro h<;>try (exfalso;omega))|refine pay ?_|intro _));(all_goals (conv=>whnf))
   all_goals try (exfalso;omega)
   exact xJ ⟨0,tl,_,_⟩ ⟨by dsimp only;omega,by dsimp only;omega,hno2⟩ (by (repeat ((conv=>whnf);refine vS ?_));exact trivial) (Ref.takes [78,77,10,890] rfl (.packE (.packE (.refl _))))
 ·rintro ⟨_,t',z1,z2⟩ ⟨ht1,ht2,hno⟩
  dsimp only at ht1 ht2 hno ⊢
  (repeat' ((conv=>whnf);first|refine zh ?_|((first|apply zc|apply za|apply zd)<;>intro h<;>try (exfalso;omega))|refine pay ?_|intro _));(all_goals (conv=>whnf))
  all_goals try (exfalso;omega)
  refine zw LcG (fun x=>[(0,.v (pS bt)),(1,.v (.int .i64 n)),(2,.v (.int .i64 q)),(10,.ptr 10 b10 0),(13,.v (.int .i64 ((t':Int) - 1 - x.i)))])
   (fun x=>[packE 78 x.f1 (fX bt bs T S.E),packE 77 x.f2 (fS bs S),.box 10 b10 [.slice aF m cF2,.int .i64 (tl:Nat)] yG,.own 890 aF m cF2 zk 1 (zu .i64 ((qg T.M u q m).map Int.ofNat))])
   (fun x=>x.i<=t'/\∀ j,t' - x.i<=j->j<times->zG T.M T.H (orb T.M u q j) u=0) (fun x=>t' - x.i) ⟨0,0,_,_⟩ ⟨Nat.zero_le _,fun j h1 h2=>hno j h1 h2⟩ (by (repeat ((conv=>whnf);refine vS ?_));exact trivial) (Ref.takes [78,77,10,890] rfl (.packE (.packE (.refl _)))) ?_
  clear hno
  rintro ⟨k,t0,z1,z2⟩ ⟨hk2,hno⟩
  dsimp only at hk2 hno ⊢
  by_cases hlt2:k+1<t'
  ·have hc0:(t':Int) - 1 - (k:Int)=((t' - 1 - k:Nat):Int):=by omega
   have cH2:=cH _ (hlt (t' - 1 - k))
   have q1:Go.EG.intOf (atL (zu .i64 ((qg T.M u q m).map Int.ofNat)) (t' - 1 - k))=(orb T.M u q (t' - 1 - k):Int):=by rw [vN (by omega),ziX (by omega)]
   have k1':=kj (k:=.i64) (zs:=(qg T.M u q m).map Int.ofNat) (i:=t' - 1 - k) (by omega)
   have q2:((t' - 1 - k:Nat):Int).toNat=t' - 1 - k:=by omega
   rw [hc0]
   by_cases hit:0<zG T.M T.H (orb T.M u q (t' - 1 - k)) u
   ·rw [decide_eq_true hit] at cH2
    obtain hCe:t' - 1 - k=C:=Lcp.uniq ⟨by omega,hit,fun j h1 h2=>hno j (by omega) h2⟩ hsp
    (repeat' ((conv=>whnf);first|rw [q2]|rw [Nat.mul_one]|rw [q1]|refine XC.go 78 77 cH2 rfl rfl fun fp1' fp2'=>?_|refine ⟨.sl 890 _ _ _,⟨rfl,rfl,rfl,rfl⟩,?_⟩|refine zh ?_|((first|apply zc|apply za|apply zd)<;>intro h<;>try (exfalso;omega))|refine pay ?_|refine And.intro (by first|exact k1') ?_|intro _));(all_goals (conv=>whnf))
    all_goals try (exfalso;omega)
    subst hCe
    exact ⟨yR (Ref.takes [78,77] rfl (.refl _)) rfl⟩
   ·rw [decide_eq_false hit] at cH2
    (repeat' ((conv=>whnf);first|rw [q2]|rw [Nat.mul_one]|rw [q1]|refine XC.go 78 77 cH2 rfl rfl fun fp1' fp2'=>?_|refine ⟨.sl 890 _ _ _,⟨rfl,rfl,rfl,rfl⟩,?_⟩|refine zh ?_|((first|apply zc|apply za|apply zd)<;>intro h<;>try (exfalso;omega))|refine pay ?_|refine And.intro (by first|exact k1') ?_|intro _));(all_goals (conv=>whnf))
    all_goals try (exfalso;omega)
    refine zi ⟨k+1,0,_,_⟩ ⟨by dsimp only;omega,fun j h1 h2=>?_⟩ (show t' - (k+1)<t' - k by omega) (by (repeat ((conv=>whnf);refine vS ?_));exact trivial) (Ref.takes [78,77,10,890] rfl (.packE (.packE (.refl _))))
    by_cases hj:j=t' - 1 - k
    ·subst hj;omega
    ·exact hno j (by dsimp only at h1;omega) h2
  ·obtain rfl:C=0:=by
    rcases Nat.eq_zero_or_pos C with h0|h0
    ·exact h0
    ·have h1:=hsp.hit
     have h2:=hno C (by omega) hsp.lt
     omega
   (repeat' ((conv=>whnf);first|refine zh ?_|((first|apply zc|apply za|apply zd)<;>intro h<;>try (exfalso;omega))|refine pay ?_|intro _));(all_goals (conv=>whnf))
   all_goals try (exfalso;omega)
   exact ⟨yR (Ref.takes [78,77] rfl (.refl _)) rfl⟩
theorem zpH {T:Tb} {kk:Nat} {S:Sto} (bt bs:Nat) (h:ScOk T kk S) {n:Int} (h1:1<=n) (h2:n<=S.E.length) {q:Nat} (hq:q<T.M.nx.length) (hr:0<zG T.M T.H q (otx T S n)) :
 XC zcW #[pS bt,.int .i64 n,.int .i64 q] bt bs T S (.int .i64 (qf T.M T.H q (otx T S n):Nat)):=by
 intro k1 k2 fp1 fp2 w hR
 have hR:R w (fp1++fp2) [packE 78 fp1 (fX bt bs T S.E),packE 77 fp2 (fS bs S)] w:=(Thin.packE (Thin.packE (.nil []))).ref w hR
 refine zr [.v (pS bt),.v (.int .i64 n),.v (.int .i64 q)] zom (by simp) hR ?_
 have hLM:LM=1152921504606846976:=rfl
 have hle0:=zcc (M:=T.M) (H:=T.H) q (otx T S n)
 rw [zaJ] at hle0
 have hle1:=h.wf.le h2
 obtain ⟨F,hF⟩:∃ F,qf T.M T.H q (otx T S n)=F:=⟨_,rfl⟩
 rw [hF] at hle0 ⊢
 have hFle:F<=LM:=by omega
 have c1:=uh bt bs T S.E
 (repeat' ((conv=>whnf);first|((first|apply zc|apply za|apply zd)<;>intro h<;>try (exfalso;omega))|refine pay ?_|intro _));(all_goals (conv=>whnf))
 refine zw FsG (fun x=>[(0,.v (pS bt)),(1,.v (.int .i64 x.id)),(2,.v (.int .i64 x.q)),(7,.v (.int .i64 x.rd))])
  (fun x=>[packE 78 x.f1 (fX bt bs T S.E),packE 77 x.f2 (fS bs S)])
  (fun x=>(1<=x.id/\x.id<=S.E.length)/\x.q<T.M.nx.length/\0<zG T.M T.H x.q (otx T S x.id)/\x.rd+qf T.M T.H x.q (otx T S x.id)=F) (fun x=>x.id.toNat) ⟨n,q,0,fp1,fp2⟩ ⟨⟨h1,h2⟩,hq,hr,by rw [Nat.zero_add];exact hF⟩ (by (repeat ((conv=>whnf);refine vS ?_));exact trivial) (Ref.takes [78,77] rfl (.packE (.packE (.nil _)))) ?_
 clear hr hF h1 h2 hq hle0 hle1
 rintro ⟨id,q,rd,g1,g2⟩ ⟨⟨h1,h2⟩,hq,hr,hF⟩
 dsimp only at h1 h2 hq hr hF ⊢
 have c2:=zfd bs S id h.wf.small
 rw [zfc h1 h2] at c2
 have c3:=ziV bt bs h (atE S.E id).r
 have hv:=zur h.wf T h1 h2
 generalize (atE S.E id).r=r at *
 rcases hv with ⟨hk,hl⟩|⟨hk,he,ha,hb⟩|⟨hk,he,ha,ht,hlm,hl1⟩
 ·have hf1:qf T.M T.H q (otx T S id)=1:=by
   have:=zcc (M:=T.M) (H:=T.H) q (otx T S id)
   have h0:qf T.M T.H q (otx T S id)≠0:=fun e=>by have:=lstH_zero.1 e;omega
   omega
  rw [hf1] at hF
  (repeat' ((conv=>whnf);first|(refine qa (key:=78) rfl (fun w hR h0=>c1 _ _ _ h0) ?_;rintro _ _ ⟨rfl,rfl⟩;refine ⟨.v _,rfl,?_⟩)|refine SC.go 77 c2 rfl fun fp'=>?_|refine zh ?_|((first|apply zc|apply za|apply zd)<;>intro h<;>try (exfalso;omega))|refine pay ?_|intro _));(all_goals (conv=>whnf))
  all_goals try (exfalso;omega)
  refine ⟨yR (Ref.takes [78,77] rfl (.refl _)) ?_⟩
  congr 1;omega
 ·obtain ⟨f,hf⟩:∃ f,(if T.back=true then r.b else r.a)=f:=⟨_,rfl⟩
  obtain ⟨l,hl⟩:∃ l,(if T.back=true then r.a else r.b)=l:=⟨_,rfl⟩
  have hfb:1<=f/\f<id:=by rw [←hf];split<;>assumption
  have hlb:1<=l/\l<id:=by rw [←hl];split<;>assumption
  rw [hf,hl] at c3 he
  have kf:known S f:=⟨by omega,by omega⟩
  have kl:known S l:=⟨by omega,by omega⟩
  rw [he] at hr hF
  have c8:=zdZ bt bs h kf hq
  have hlt:=h.lt kf hq
  have c6:=zd0 bt bs h kl hlt
  by_cases hh:0<zG T.M T.H (zA T.M q (otx T S f)) (otx T S l)
  ·rw [decide_eq_true hh] at c6
   have hne:qf T.M T.H (zA T.M q (otx T S f)) (otx T S l)≠0:=fun e=>by have:=lstH_zero.1 e;omega
   rw [vf,if_neg hne,zaJ] at hF
   have c7:=uK bt bs h kf
   generalize zA T.M q (otx T S f)=q' at *
   (repeat' ((conv=>whnf);first|(refine qa (key:=78) rfl (fun w hR h0=>c1 _ _ _ h0) ?_;rintro _ _ ⟨rfl,rfl⟩;refine ⟨.v _,rfl,?_⟩)|refine SC.go 77 c2 rfl fun fp'=>?_|refine XC.go 78 77 c3 rfl rfl fun fp1' fp2'=>?_|refine XC.go 78 77 c8 rfl rfl fun fp1' fp2'=>?_|refine XC.go 78 77 c6 rfl rfl fun fp1' fp2'=>?_|refine XC.go 78 77 c7 rfl rfl fun fp1' fp2'=>?_|refine zh ?_|((first|apply zc|apply za|apply zd)<;>intro h<;>try (exfalso;omega))|refine pay ?_|intro _));(all_goals (conv=>whnf))
   all_goals try (exfalso;omega)
   exact zi ⟨l,q',rd+(tm S.E f).len,_,_⟩ ⟨⟨hlb.1,kl.2⟩,hlt,hh,by rw [←hF,Nat.add_assoc]⟩ (show l.toNat<id.toNat by omega) (by (repeat ((conv=>whnf);refine vS ?_));exact trivial) (Ref.takes [78,77] rfl (.packE (.packE (.nil _))))
  ·rw [decide_eq_false hh] at c6
   have h0:zG T.M T.H (zA T.M q (otx T S f)) (otx T S l)=0:=by omega
   rw [un,h0,Nat.add_zero] at hr
   rw [vf,if_pos (lstH_zero.2 h0)] at hF
   (repeat' ((conv=>whnf);first|(refine qa (key:=78) rfl (fun w hR h0=>c1 _ _ _ h0) ?_;rintro _ _ ⟨rfl,rfl⟩;refine ⟨.v _,rfl,?_⟩)|refine SC.go 77 c2 rfl fun fp'=>?_|refine XC.go 78 77 c3 rfl rfl fun fp1' fp2'=>?_|refine XC.go 78 77 c8 rfl rfl fun fp1' fp2'=>?_|refine XC.go 78 77 c6 rfl rfl fun fp1' fp2'=>?_|refine zh ?_|((first|apply zc|apply za|apply zd)<;>intro h<;>try (exfalso;omega))|refine pay ?_|intro _));(all_goals (conv=>whnf))
   all_goals try (exfalso;omega)
   exact zi ⟨f,q,rd,_,_⟩ ⟨⟨hfb.1,kf.2⟩,hq,hr,hF⟩ (show f.toNat<id.toNat by omega) (by (repeat ((conv=>whnf);refine vS ?_));exact trivial) (Ref.takes [78,77] rfl (.packE (.packE (.nil _))))
 ·have ka:known S r.a:=⟨by omega,by omega⟩
  rw [he] at hr hF
  have c4:=zez bt bs h ka hq r.t.toNat (by
   have:r.t.toNat*1<=LM:=Nat.le_trans (Nat.mul_le_mul_left _ hl1) hlm
   omega) hr
  rw [show ((r.t.toNat:Nat):Int)=r.t by omega] at c4
  have hs:=zfk hr
  have c5:=uK bt bs h ka
  have hql:=zey h.ok.m (h.byt ka) hq (lcp T.M T.H (otx T S r.a) q r.t.toNat)
  generalize lcp T.M T.H (otx T S r.a) q r.t.toNat=c at *
  have hr2:=hs.hit
  have hlt:=hs.lt
  rw [zos hs,zaJ] at hF
  have hP:((c:Nat):Int)*((tm S.E r.a).len:Nat)=((c*(tm S.E r.a).len:Nat):Int):=(Int.natCast_mul ..).symm
  have hPb:c*(tm S.E r.a).len<=LM:=Nat.le_trans (Nat.mul_le_mul_right _ (by omega)) hlm
  generalize c*(tm S.E r.a).len=P at *
  generalize orb T.M (otx T S r.a) q c=q' at *
  (repeat' ((conv=>whnf);first|rw [hP]|(refine qa (key:=78) rfl (fun w hR h0=>c1 _ _ _ h0) ?_;rintro _ _ ⟨rfl,rfl⟩;refine ⟨.v _,rfl,?_⟩)|refine SC.go 77 c2 rfl fun fp'=>?_|refine XC.go 78 77 c4 rfl rfl fun fp1' fp2'=>?_|refine XC.go 78 77 c5 rfl rfl fun fp1' fp2'=>?_|refine zh ?_|((first|apply zc|apply za|apply zd)<;>intro h<;>try (exfalso;omega))|refine pay ?_|intro _));(all_goals (conv=>whnf))
  all_goals try (exfalso;omega)
  exact zi ⟨r.a,q',rd+P,_,_⟩ ⟨⟨ha.1,ka.2⟩,hql,hr2,by rw [←hF,Nat.add_assoc]⟩ (show r.a.toNat<id.toNat by omega) (by (repeat ((conv=>whnf);refine vS ?_));exact trivial) (Ref.takes [78,77] rfl (.packE (.packE (.nil _))))
structure LaG where
 i:Nat
 p:Pt
 bf:Nat
 fd:Nat
 f1:List Nat
 f2:List Nat
def LaI (T:Tb) (S:Sto) (q:Nat) (A:List Nat) (p:Pt) (bf fd:Nat):Prop :=
 (p.t=0/\zG T.M T.H q A=0)∨((1<=p.id/\p.id<=S.E.length)/\bf<T.M.nx.length/\0<zG T.M T.H bf (rep p.t (otx T S p.id))/\qf T.M T.H q A=fd+qf T.M T.H bf (rep p.t (otx T S p.id))/\fd+p.t*(tm S.E p.id).len<=LM/\1<=p.t/\p.t<=LM)
theorem zot {T:Tb} {kk:Nat} {S:Sto} (bt bs:Nat) (h:ScOk T kk S) {X:List Nat} {ps:List Pt} (hP:Prs T S X ps) (hXl:X.length<=LM) (a:Option Addr) (c:Nat) {q:Nat} (hq:q<T.M.nx.length) (fp1 fp2:List Nat) (w:World) (hR:R w (fp1++fp2) [packE 78 fp1 (fX bt bs T S.E),packE 77 fp2 (fS bs S)] w) (hin:In w (fp1++fp2) a (pts ps)) :
 Calls Tryz.prog zcU #[pS bt,.slice a ps.length c,.int .i64 q] w fun e w'=>∃ v L1,e=.returned v/\R w (fp1++fp2) L1 w'/\zk7 78 77 bt bs T S (.int .i64 (qf T.M T.H q X:Nat)) v L1:=by
 refine zr [.v (pS bt),.v (.slice a ps.length c),.v (.int .i64 q)] zoi (by simp) hR ?_
 have hLM:LM=1152921504606846976:=rfl
 have hpl:=hP.le
 have hX:=hP.tx
 obtain ⟨A,hA⟩:∃ A:Nat->List Nat,∀ i,(ps.take i).flatMap (fun p=>rep p.t (otx T S p.id))=A i:=⟨_,fun _=>rfl⟩
 obtain ⟨B,hB⟩:∃ B:Nat->List Nat,∀ i,(ps.drop i).flatMap (fun p=>rep p.t (otx T S p.id))=B i:=⟨_,fun _=>rfl⟩
 have hA0:A 0=[]:=(hA 0).symm
 have hAE:X=A ps.length:=by rw [←hA,List.take_length,hX]
 have hAB:∀ i,X=A i++B i:=fun i=>by rw [←hA,←hB,←List.flatMap_append,List.take_append_drop,hX]
 have hbt:∀ i,∀ b∈A i,b<256:=fun i b hb=>by
  rw [←hA] at hb
  obtain ⟨p,hp,hb⟩:=List.mem_flatMap.1 hb
  have:=hP.id p (List.mem_of_mem_take hp)
  exact h.byt ⟨by omega,this.2.1⟩ b (zbe hb)
 have hstl:∀ i,zA T.M q (A i)<T.M.nx.length:=fun i=>xI h.ok.m (hbt i) hq
 have hAS:∀ i p,ps[i]?=some p->A (i+1)=A i++rep p.t (otx T S p.id):=fun i p hp=>by
  have e:ps.take (i+1)=ps.take i++[p]:=by rw [List.take_add_one,hp];rfl
  rw [←hA,←hA,e,List.flatMap_append,List.flatMap_singleton]
 have hAl:∀ i,(A i).length<=LM:=fun i=>by
  have:=congrArg List.length (hAB i)
  rw [g6q] at this
  omega
 (repeat' ((conv=>whnf);first|((first|apply zc|apply za|apply zd)<;>intro h<;>try (exfalso;omega))|refine pay ?_|intro _));(all_goals (conv=>whnf))
 rename_i b9
 refine zw LaG (fun x=>[(0,.v (pS bt)),(1,.v (.slice a ps.length c)),(2,.v (.int .i64 (zA T.M q (A x.i)))),(7,.v (.int .i64 (A x.i).length)),(8,.v (.int .i64 x.fd)),(9,.ptr 9 b9 0),(10,.v (.int .i64 x.bf)),(17,.v (.slice a ps.length c)),(18,.v (.int .i64 ps.length)),(19,.v (.int .i64 x.i))])
  (fun x=>[packE 78 x.f1 (fX bt bs T S.E),packE 77 x.f2 (fS bs S),.box 9 b9 [.int .i64 x.p.id,.int .i64 x.p.pw,.int .i64 x.p.t] zM]) (fun x=>x.i<=ps.length/\LaI T S q (A x.i) x.p x.bf x.fd) (fun x=>ps.length - x.i) ⟨0,⟨0,0,0⟩,0,0,fp1,fp2⟩ ⟨Nat.zero_le _,.inl ⟨rfl,by rw [hA0];rfl⟩⟩ (by rw [hA0];(repeat ((conv=>whnf);refine vS ?_));exact trivial) (Ref.takes [78,77,9] rfl (.packE (.packE (.refl _)))) ?_
 rintro ⟨i,lp,bf,fd,g1,g2⟩ ⟨hi,hI⟩
 dsimp only at hi hI ⊢
 by_cases hlt:i<ps.length
 case neg =>
  obtain rfl:i=ps.length:=by omega
  rw [←hAE] at hI
  obtain ⟨id,pw,t⟩:=lp
  dsimp only at *
  rcases hI with ⟨h0,hz⟩|⟨hid,hbf,hpos,hls,hfd,ht1,ht2⟩
  ·dsimp only at h0
   subst h0
   rw [show qf T.M T.H q X=0 from lstH_zero.2 hz]
   (repeat' ((conv=>whnf);first|refine zh ?_|((first|apply zc|apply za|apply zd)<;>intro h<;>try (exfalso;omega))|refine pay ?_|intro _));(all_goals (conv=>whnf))
   all_goals try (exfalso;omega)
   exact ⟨yR (Ref.takes [78,77] rfl (.refl _)) rfl⟩
  ·dsimp only at hid hbf hpos hls hfd ht1 ht2
   have kp:known S id:=⟨by omega,hid.2⟩
   have c4:=zez bt bs h kp hbf t (by omega) hpos
   have hs:=zfk hpos
   have c5:=uK bt bs h kp
   have hql:=zey h.ok.m (h.byt kp) hbf (lcp T.M T.H (otx T S id) bf t)
   rw [zos hs,zaJ] at hls
   generalize lcp T.M T.H (otx T S id) bf t=C at *
   have hr2:=hs.hit
   have c6:=zpH bt bs h hid.1 hid.2 hql hr2
   have hl2:=zcc (M:=T.M) (H:=T.H) (orb T.M (otx T S id) bf C) (otx T S id)
   rw [zaJ] at hl2
   have hlsX:=zcc (M:=T.M) (H:=T.H) q X
   have hP2:((C:Nat):Int)*((tm S.E id).len:Nat)=((C*(tm S.E id).len:Nat):Int):=(Int.natCast_mul ..).symm
   generalize orb T.M (otx T S id) bf C=q2 at *
   generalize qf T.M T.H q2 (otx T S id)=F2 at *
   generalize qf T.M T.H q X=FX at *
   generalize C*(tm S.E id).len=P at *
   (repeat' ((conv=>whnf);first|rw [hP2]|refine zca _ (Ref.takes [9] rfl (.refl _)) ?_|refine XC.go 78 77 c4 rfl rfl fun fp1' fp2'=>?_|refine XC.go 78 77 c5 rfl rfl fun fp1' fp2'=>?_|refine XC.go 78 77 c6 rfl rfl fun fp1' fp2'=>?_|refine zh ?_|((first|apply zc|apply za|apply zd)<;>intro h<;>try (exfalso;omega))|refine pay ?_|refine And.intro (by first|exact Ref.takes [9] rfl (.refl _)) ?_|intro _));(all_goals (conv=>whnf))
   all_goals try (exfalso;omega)
   refine ⟨yR (Ref.takes [78,77] rfl (.refl _)) ?_⟩
   congr 1;omega
 obtain ⟨p,hp⟩:∃ p,ps[i]?=some p:=⟨_,g2q hlt⟩
 have hpm:=hP.id p (List.mem_of_getElem? hp)
 have rd:=fun {L:List Ent}=>In.rdn (L:=L) (vs:=ptC p) (k:=i*3) hin (Nat.succ_pos _) (zor hp)
 have nr:a≠none:=hin.ne' (k:=i*3) (by rw [zld];omega)
 have q0:((i:Nat):Int).toNat=i:=by omega
 have kp:known S p.id:=⟨by omega,hpm.2.1⟩
 have htb:p.t<=LM:=by
  have:p.t*1<=LM:=Nat.le_trans (Nat.mul_le_mul_left _ hpm.2.2.2.2) hpm.2.2.2.1
  omega
 have c4:=zrq bt bs h kp (hstl i) p.t (by omega)
 have c5:=uK bt bs h kp
 have cF:=fun k1 k2 fp1 fp2 w hR=>zcY bt bs h kp (hstl i) p.t (by omega) k1 k2 fp1 fp2 w hR
 have cA:=fun {m tl:Nat} (hF:Fol T.M (otx T S p.id) (zA T.M q (A i)) p.t m tl) a c w hin=>zgH hF a c p.t (Nat.le_refl _) (by omega) w hin
 have hAS:=hAS i p hp
 have hAl1:=hAl (i+1)
 have hAl0:=hAl i
 have hs:=ziY (M:=T.M) (H:=T.H) (u:=otx T S p.id) (t:=p.t) (q:=zA T.M q (A i))
 have hA1:(A (i+1)).length=(A i).length+p.t*(tm S.E p.id).len:=by rw [hAS,g6q,jP,zaJ]
 have hP2:((p.t:Nat):Int)*((tm S.E p.id).len:Nat)=((p.t*(tm S.E p.id).len:Nat):Int):=(Int.natCast_mul ..).symm
 have hE1:zA T.M q (A (i+1))=orb T.M (otx T S p.id) (zA T.M q (A i)) p.t:=by rw [hAS,xZ];rfl
 rw [←hE1] at cA
 have hcut:∃ lp' bf' fd',LaI T S q (A (i+1)) lp' bf' fd'/\((skp T.M T.H (otx T S p.id) (zA T.M q (A i)) p.t<p.t/\lp'=p/\bf'=zA T.M q (A i)/\fd'=(A i).length)∨(¬skp T.M T.H (otx T S p.id) (zA T.M q (A i)) p.t<p.t/\lp'=lp/\bf'=bf/\fd'=fd)):=by
  by_cases hc:skp T.M T.H (otx T S p.id) (zA T.M q (A i)) p.t<p.t
  ·refine ⟨p,_,_,.inr ⟨⟨hpm.1,hpm.2.1⟩,hstl i,?_,?_,by omega,hpm.2.2.1,htb⟩,.inl ⟨hc,rfl,rfl,rfl⟩⟩
   ·have hh:=hs.hit hc
    rw [show p.t=skp T.M T.H (otx T S p.id) (zA T.M q (A i)) p.t+(1+(p.t - skp T.M T.H (otx T S p.id) (zA T.M q (A i)) p.t - 1)) by omega,vC,vC,x7]
    omega
   ·rw [hAS,vf,if_neg]
    intro e
    have e:=lstH_zero.1 e
    have hh:=hs.hit hc
    rw [show p.t=skp T.M T.H (otx T S p.id) (zA T.M q (A i)) p.t+(1+(p.t - skp T.M T.H (otx T S p.id) (zA T.M q (A i)) p.t - 1)) by omega,vC,vC,x7] at e
    omega
  ·have he:skp T.M T.H (otx T S p.id) (zA T.M q (A i)) p.t=p.t:=Nat.le_antisymm hs.le (by omega)
   have hn:=zbq hs.no
   rw [he] at hn
   refine ⟨lp,bf,fd,?_,.inr ⟨hc,rfl,rfl,rfl⟩⟩
   rcases hI with ⟨h0,hz⟩|⟨z1,z2,z3,z4,z5,z6⟩
   ·exact .inl ⟨h0,by rw [hAS,un,hz,hn]⟩
   ·exact .inr ⟨z1,z2,z3,by rw [hAS,vf,if_pos (lstH_zero.2 hn)];exact z4,z5,z6⟩
 obtain ⟨lp',bf',fd',hI2,hch⟩:=hcut
 obtain ⟨id,pw,t⟩:=p
 dsimp only [ptC] at *
 (repeat' ((conv=>whnf);first|rw [q0]|refine ⟨[.int .i64 id,.int .i64 pw,.int .i64 t],rfl,rd,?_⟩|refine zh ?_|((first|apply zc|apply za|apply zd)<;>intro h<;>try (exfalso;omega))|refine pay ?_|intro _));(all_goals (conv=>whnf))
 all_goals try (exfalso;omega)
 rename_i b12
 refine zcu LaG (fun x=>[(0,.v (pS bt)),(1,.v (.slice a ps.length c)),(2,.v (.int .i64 (zA T.M q (A i)))),(7,.v (.int .i64 (A i).length)),(8,.v (.int .i64 fd')),(9,.ptr 9 b9 0),(10,.v (.int .i64 bf')),(12,.ptr 12 b12 0),(17,.v (.slice a ps.length c)),(18,.v (.int .i64 ps.length)),(19,.v (.int .i64 i))])
  (fun x=>[packE 78 x.f1 (fX bt bs T S.E),packE 77 x.f2 (fS bs S),.box 9 b9 [.int .i64 lp'.id,.int .i64 lp'.pw,.int .i64 lp'.t] zM,.box 12 b12 [.int .i64 id,.int .i64 pw,.int .i64 t] zM]) (fun _=>True) ?_ ?_
 ·rcases hch with ⟨hc,rfl,rfl,rfl⟩|⟨hc,rfl,rfl,rfl⟩
  ·(repeat' ((conv=>whnf);first|refine XC.go 78 77 c4 rfl rfl fun fp1' fp2'=>?_|refine zh ?_|((first|apply zc|apply za|apply zd)<;>intro h<;>try (exfalso;omega))|refine pay ?_|intro _));(all_goals (conv=>whnf))
   all_goals try (exfalso;omega)
   exact xJ ⟨0,⟨0,0,0⟩,0,0,_,_⟩ trivial (by (repeat ((conv=>whnf);refine vS ?_));exact trivial) (Ref.takes [78,77,9,12] rfl (.packE (.packE (.refl _))))
  ·(repeat' ((conv=>whnf);first|refine XC.go 78 77 c4 rfl rfl fun fp1' fp2'=>?_|refine zh ?_|((first|apply zc|apply za|apply zd)<;>intro h<;>try (exfalso;omega))|refine pay ?_|intro _));(all_goals (conv=>whnf))
   all_goals try (exfalso;omega)
   exact xJ ⟨0,⟨0,0,0⟩,0,0,_,_⟩ trivial (by (repeat ((conv=>whnf);refine vS ?_));exact trivial) (Ref.takes [78,77,9,12] rfl (.packE (.packE (.refl _))))
 ·rintro ⟨_,_,_,_,z1,z2⟩ -
  dsimp only
  clear hch c4
  obtain ⟨q2,hq2⟩:∃ q2,zA T.M q (A (i+1))=q2:=⟨_,rfl⟩
  rw [hq2] at cA
  generalize t*(tm S.E id).len=P at *
  (repeat' ((conv=>whnf);first|rw [hP2]|refine zca _ (Ref.takes [12] rfl (.refl _)) ?_|(refine yX (key1:=78) (key2:=77) rfl rfl (fun w hR h0=>cF _ _ _ _ _ h0) ?_;rintro _ _ ⟨m,tl,aF,cF2,y1,y2,rfl,hF,hm,rfl⟩;refine ⟨.v _,rfl,?_⟩)|(refine zm (.v _) (fun w' hR=>cA hF _ _ w' (In.ownR (key:=890) hR rfl)) ?_)|refine XC.go 78 77 c5 rfl rfl fun fp1' fp2'=>?_|refine zh ?_|((first|apply zc|apply za|apply zd)<;>intro h<;>try (exfalso;omega))|refine pay ?_|refine And.intro (by first|exact Ref.takes [12] rfl (.refl _)) ?_|intro _));(all_goals (conv=>whnf))
  all_goals try (exfalso;omega)
  subst hq2
  exact zi ⟨i+1,lp',bf',fd',_,_⟩ ⟨hlt,hI2⟩ (show ps.length - (i+1)<ps.length - i by omega) (by (repeat ((conv=>whnf);refine vS ?_));exact trivial) (Ref.takes [78,77,9] rfl (.packE (.packE (.refl _))))
end
section
end
section
open Go.EG
attribute [local irreducible] zT yE Go.Calls
set_option maxRecDepth 20000
set_option maxHeartbeats 4000000
theorem In.beside2 {w0 w:World} {fp0:List Nat} {key key1 key2:Nat} {fp1 fp2:List Nat} {α β:Type} {fA:α->List Ent} {fB:β->List Ent} {Lr:List Ent} {a:Option Addr} {n c T sz:Nat} {xs:List Value} (hR:R w0 fp0 (packE key1 fp1 fA::packE key2 fp2 fB::Lr) w) (h:zL key Lr=some ⟨a,n,c,T,sz,xs⟩):In w (fp1++fp2) a xs:=by
 have:=In.besideL (L0:=[packE key1 fp1 fA,packE key2 fp2 fB]) hR h
 simpa [packE,Ent.fp,fps] using this
section
variable {T:Tb} {kk:Nat} {S:Sto} (bt bs:Nat) (h:ScOk T kk S) (hb:T.back=false)
include h hb
theorem zou {id:Int} (hk:known S id):XC zae #[pS bt,.int .i64 id] bt bs T S .nilIface:=by
 intro k1 k2 fp1 fp2 w hR
 have hR:R w (fp1++fp2) [packE 78 fp1 (fX bt bs T S.E),packE 77 fp2 (fS bs S)] w:=(Thin.packE (Thin.packE (.nil []))).ref w hR
 refine zr [.v (pS bt),.v (.int .i64 id)] zj9 (by simp) hR ?_
 have c1:=uh bt bs T S.E
 have cB:=zcT bt bs T S.E
 rw [hb] at cB
 have cL:=zjS bs S
 have k1':=hk.1
 have k2':=hk.2
 (repeat' ((conv=>whnf);first|(refine qa (key:=78) rfl (fun w hR h0=>c1 _ _ _ h0) ?_;rintro _ _ ⟨rfl,rfl⟩;refine ⟨.v _,rfl,?_⟩)|(refine qa (key:=78) rfl (fun w hR h0=>cB _ _ _ h0) ?_;rintro _ _ ⟨rfl,rfl⟩;refine ⟨.v _,rfl,?_⟩)|refine SC.go 77 cL rfl fun fp'=>?_|refine zh ?_|((first|apply zc|apply za|apply zd)<;>intro h<;>try (exfalso;omega))|refine pay ?_|intro _));(all_goals (conv=>whnf))
 all_goals try (exfalso;omega)
 exact ⟨yR (Ref.takes [78,77] rfl (.refl _)) rfl⟩
end
def st0 (T:Tb):Nat:=T.M.start.toNat
section
variable {T:Tb} {kk:Nat} {S:Sto} (bt bs:Nat) (h:ScOk T kk S) (hb:T.back=false)
include h hb
theorem zrr {id:Int} (hk:known S id) {i m:Nat} (hi:i+m<=(tm S.E id).len) (hL:zG T.M T.H (zA T.M (st0 T) ((tm S.E id).txt.take i)) (((tm S.E id).txt.drop i).take m)<=LM) :
 XC uz #[pS bt,.int .i64 id,.int .i64 i,.int .i64 m] bt bs T S (.tuple #[.int .i64 (zG T.M T.H (zA T.M (st0 T) ((tm S.E id).txt.take i)) (((tm S.E id).txt.drop i).take m):Nat),.nilIface]):=by
 intro k1 k2 fp1 fp2 w hR
 have hR:R w (fp1++fp2) [packE 78 fp1 (fX bt bs T S.E),packE 77 fp2 (fS bs S)] w:=(Thin.packE (Thin.packE (.nil []))).ref w hR
 refine zr [.v (pS bt),.v (.int .i64 id),.v (.int .i64 i),.v (.int .i64 m)] zkb (by simp) hR ?_
 have hLM:LM=1152921504606846976:=rfl
 have hle:=h.wf.le hk.2
 have hms:=h.ok.m.start
 have hs0:T.M.start=((st0 T:Nat):Int):=by unfold st0;omega
 have hsN:st0 T<T.M.nx.length:=by unfold st0;omega
 have cC:=zou bt bs h hb hk
 have cS:=uK bt bs h hk
 have cR:=zgz i m (tm S.E id).txt.length hle
 rw [show zcG (i:Int) (m:Int) (tm S.E id).txt.length=.nilIface from if_pos ⟨by omega,by omega,by unfold Tm.len at hi;omega,by unfold Tm.len at hi;omega⟩] at cR
 have cP:=fun fp1 fp2 w hR=>zf2 bt bs h hk (i:=0) (m:=i) (by omega) fp1 fp2 w hR
 rw [hb,show ori false (((tm S.E id).txt.drop 0).take i)=(tm S.E id).txt.take i from rfl] at cP
 have cM:=fun fp (w:World) hR=>zk9 bt bs T h.ok S.E 78 (fp:=fp) (w:=w) hR
 have hst:∀ y:MA,y.m=T.M->y.start=((st0 T:Nat):Int):=fun y hy=>by
  have:=congrArg Mch.start hy
  rw [←hs0];exact this
 have cT:=fun {ps} (hP:Prs T S ((tm S.E id).txt.take i) ps) a c fp1 fp2 w hR hin=>zmD bt bs h hP a c hsN fp1 fp2 w hR hin
 have hq1:zA T.M (st0 T) ((tm S.E id).txt.take i)<T.M.nx.length:=xI h.ok.m (fun b hb'=>h.wf.byt _ _ (Nat.le_refl _) hk.2 b (List.mem_of_mem_take hb')) hsN
 have cQ:=zh3 bt bs T h.ok S h.wf h.clo id i m (zA T.M (st0 T) ((tm S.E id).txt.take i):Nat) (h.all id)
 rw [show zk8 T S id i m (zA T.M (st0 T) ((tm S.E id).txt.take i):Nat)=_ from if_pos ⟨hk,by omega,by omega⟩,if_pos ⟨by omega,by omega,by unfold Tm.len at hi;omega,by unfold Tm.len at hi;omega⟩,hb,g7q,g7q,g7q] at cQ
 rw [show ori false (((tm S.E id).txt.drop i).take m)=((tm S.E id).txt.drop i).take m from rfl,if_pos hL] at cQ
 generalize zG T.M T.H (zA T.M (st0 T) ((tm S.E id).txt.take i)) (((tm S.E id).txt.drop i).take m)=X at *
 generalize zA T.M (zA T.M (st0 T) ((tm S.E id).txt.take i)) (((tm S.E id).txt.drop i).take m)=Y at *
 generalize zA T.M (st0 T) ((tm S.E id).txt.take i)=q1 at *
 (repeat' ((conv=>whnf);first|refine XC.go 78 77 cC rfl rfl fun fp1' fp2'=>?_|refine XC.go 78 77 cS rfl rfl fun fp1' fp2'=>?_|(first|refine puK cR ?_|refine quK cR ?_)|(refine yX (key1:=78) (key2:=77) rfl rfl (fun w hR h0=>cP _ _ _ h0) ?_;rintro _ _ ⟨ps,aP,cP2,y1,y2,rfl,hP,rfl⟩;refine ⟨.v _,rfl,?_⟩)|(refine qa (key:=78) rfl (fun w hR h0=>cM _ w h0) ?_;rintro _ _ ⟨⟨ys,yc,yca,ycc,yn,yna,ync,ya,yaa,yac⟩,F,rfl,hF,hy,rfl⟩;obtain rfl:=hst _ hy;refine ⟨.v _,rfl,?_⟩)|(refine yX (key1:=78) (key2:=77) rfl rfl (fun w hR h0=>cT hP _ _ _ _ _ h0 (In.beside2 (key:=880) hR rfl)) ?_;rintro _ _ ⟨rfl,z1,z2,rfl⟩;refine ⟨.v _,rfl,?_⟩)|refine XC.go 78 77 cQ rfl rfl fun fp1' fp2'=>?_|refine zh ?_|((first|apply zc|apply za|apply zd)<;>intro h<;>try (exfalso;omega))|refine pay ?_|intro _));(all_goals (conv=>whnf))
 all_goals try (exfalso;omega)
 exact ⟨yR (Ref.takes [78,77] rfl (.refl _)) rfl⟩
end
def Top (S:Sto) (B:Nat):Prop:=∀ n,known S n->(tm S.E n).len<=B
theorem zqn {S:Sto} {B:Nat} {r:Rul} (h:Top S B) (hr:(mkT S.E r).len<=B):Top (qd S r).1 B:=by
 unfold qd
 split
 ·split
  ·exact h
  ·intro n hn
   by_cases hl:n<=S.E.length
   ·show (tm (S.E++[mkE S.E r]) n).len<=B
    rw [uG hl];exact h n ⟨hn.1,hl⟩
   ·have he:n=((S.E.length:Nat):Int)+1:=by
     have:=hn.2
     simp [vP] at this
     omega
    subst he
    show (tm (S.E++[mkE S.E r]) _).len<=B
    rw [tm,zcC,zdn rfl];exact hr
 ·exact h
theorem zut {S:Sto} {B:Nat} {i j:Int} (h:Top S B) (hr:(tm S.E i).len+(tm S.E j).len<=B):Top (zbb S i j).1 B:=by
 have hb:(mkT S.E (vQ i j)).len<=B:=by
  show (Tm.pr (tm S.E i) (tm S.E j)).len<=B
  unfold Tm.len at *
  rw [Tm.txt,g6q];exact hr
 unfold zbb
 repeat' split
 all_goals first|exact h|exact zqn h hb
theorem zsn {S:Sto} (h:WF S) {r:Rul} (hf:Fit S r) (hroom:S.E.length<S.most) :
 ∃ S' x,qd S r=(S',x,0)/\WF S'/\Grow S S'/\1<=x/\known S' x/\tm S'.E x=mkT S.E r/\S'.E.length<=S.E.length+1:=by
 obtain ⟨s1,s2,s3,s4,s5⟩:=zjR h hf
 have hz:(qd S r).2.2=0:=by
  cases hh:(qd S r).2.2 with
  | zero=>rfl
  | succ n=>have:=(s4 (by rw [hh];simp)).2.1;omega
 obtain ⟨t1,t2,t3,_⟩:=s3 hz
 exact ⟨(qd S r).1,(qd S r).2.1,by rw [←hz],s1,s2,t1,t2,t3,s5⟩
theorem zx8 {S:Sto} (h:WF S) {l:Nat} (hl:l<256) (hroom:S.E.length<S.most) :
 ∃ S' x,qd S (zdS l)=(S',x,0)/\WF S'/\Grow S S'/\1<=x/\known S' x/\(tm S'.E x).txt=[l]/\S'.E.length<=S.E.length+1:=by
 obtain ⟨S',x,h1,h2,h3,h4,h5,h6,h7⟩:=zsn h (zvx S hl) hroom
 exact ⟨S',x,h1,h2,h3,h4,h5,by rw [h6];rfl,h7⟩
theorem zxI {S:Sto} (h:WF S) {i j:Int} (h1:1<=i) (h2:i<=S.E.length) (h3:1<=j) (h4:j<=S.E.length) (hl:(tm S.E i).len+(tm S.E j).len<=LM) (hroom:S.E.length<S.most) :
 ∃ S' x,zbb S i j=(S',x,0)/\WF S'/\Grow S S'/\1<=x/\known S' x/\(tm S'.E x).txt=(tm S.E i).txt++(tm S.E j).txt/\S'.E.length<=S.E.length+1:=by
 obtain ⟨S',x,e1,e2,e3,e4,e5,e6,e7⟩:=zsn h (zue h1 h2 h3 h4 hl) hroom
 refine ⟨S',x,?_,e2,e3,e4,e5,by rw [e6];rfl,e7⟩
 unfold zbb
 rw [if_neg (by rintro (hh|hh);exact hh ⟨by omega,h2⟩;exact hh ⟨by omega,h4⟩),if_neg (by omega),if_neg (by omega),if_neg (by omega)]
 exact e1
theorem In.offB {w0:World} {fp0:List Nat} {a:Option Addr} {xs:List Value} (h:In w0 fp0 a xs) {c i:Nat} (n:Nat) (hc:xs.length<=c):In w0 fp0 (jX a c i 1) ((xs.drop i).take n):=by
 by_cases hi:i<xs.length
 ·rcases h with rfl|⟨b,off,rfl,h1,h2,h3⟩
  ·simp at hi
  ·refine .inr ⟨b,off+i,?_,h1,h2,fun j v hv=>?_⟩
   ·unfold jX
    rw [if_neg (by omega),Nat.mul_one]
    simp [Addr.add]
    try omega
   ·rw [Nat.add_assoc]
    refine h3 _ v ?_
    rw [List.getElem?_take] at hv
    split at hv
    ·simpa using hv
    ·cases hv
 ·exact .inl (by rw [List.drop_eq_nil_of_le (by omega)];simp)
def byL (t:List Nat):List Value:=zu .u8 (t.map Int.ofNat)
theorem zcd (t:List Nat):(byL t).length=t.length:=by simp [byL,zu]
theorem zqo (t:List Nat) (i n:Nat):((byL t).drop i).take n=byL ((t.drop i).take n):=by
 unfold byL zu
 rw [←List.map_drop,←List.map_drop,←List.map_take,←List.map_take]
def btQ (key b:Nat) (S:Sto) (t:List Nat) (v:Value) (L1:List Ent):Prop :=
 ∃ S' x fp',v=.tuple #[.int .i64 x,.nilIface]/\WF S'/\Grow S S'/\1<=x/\known S' x/\(tm S'.E x).txt=t/\(S'.E.length+1<=S.E.length+2*t.length/\∀ B,Top S B->t.length<=B->Top S' B)/\L1=[packE key fp' (fS b S')]
theorem zd1 (b:Nat):∀ (m:Nat) (t:List Nat),t.length<=m->0<t.length->t.length<=LM->(∀ x∈t,x<256)->∀ (S:Sto),WF S->S.E.length+2*t.length<=S.most->∀ (a:Option Addr) (c:Nat),t.length<=c->c<=9223372036854775807->∀ (key:Nat) (fp:List Nat) (w:World),StR w key fp b S->In w fp a (byL t) ->
 Calls Tryz.prog kX #[pS b,.slice a t.length c] w fun e w'=>∃ v L1,e=.returned v/\R w fp L1 w'/\btQ key b S t v L1
 | 0,t,hm,h0,_,_,_,_,_,_,_,_,_,_,_,_,_,_=>absurd h0 (by omega)
 | m + 1,t,hm,h0,hLt,ht,S,hw,hroom,a,c,hc,hc2,key,fp,w,hR,hin => by
   refine zr [.v (pS b),.v (.slice a t.length c)] zkf (by simp) (hR.key 77) ?_
   have hLM:LM=1152921504606846976:=rfl
   by_cases h1:t.length=1
   ·obtain ⟨l,rfl⟩:=List.length_eq_one_iff.1 h1
    have hl:l<256:=ht l (by simp)
    obtain ⟨S',x,e1,e2,e3,e4,e5,e6,e7⟩:=zx8 hw hl (by rw [h1] at hroom;omega)
    have c1:=znU b S l hl hw.small
    rw [e1] at c1
    have rd:=fun {L:List Ent}=>rdI (L:=L) (k:=.u8) (zs:=[(l:Int)]) hin (i:=0) (by simp)
    have nr:a≠none:=hin.ne' (k:=0) (by simp [byL,zu])
    have z0:([(l:Int)]:List Int).getD 0 0=(l:Int):=rfl
    rw [z0] at rd
    (repeat' ((conv=>whnf);first|refine ⟨_,rd,?_⟩|refine SC.go 77 c1 rfl fun fp'=>?_|refine zh ?_|((first|apply zc|apply za|apply zd)<;>intro h<;>try (exfalso;omega))|refine pay ?_|intro _));(all_goals (conv=>whnf))
    all_goals try (exfalso;omega)
    exact ⟨⟨_,Thin.ref (.packE (.nil _)),S',x,_,rfl,e2,e3,e4,e5,e6,⟨by rw [h1];omega,fun B hB hb=>by rw [show S'=(qd S (zdS l)).1 by rw [e1]];exact zqn hB hb⟩,rfl⟩⟩
   ·obtain ⟨hf,hhf⟩:∃ hf,t.length/2=hf:=⟨_,rfl⟩
    have tl1:(t.take hf).length=hf:=by rw [List.length_take];omega
    have tl2:(t.drop hf).length=t.length - hf:=List.length_drop
    have in1:In w fp a (byL (t.take hf)):=by
     have:=In.offB hin (c:=c) (i:=0) hf (by rw [zcd];exact hc)
     rw [zqo,List.drop_zero,zlQ] at this
     exact this
    have in2:In w fp (jX a c hf 1) (byL (t.drop hf)):=by
     have:=In.offB hin (c:=c) (i:=hf) (t.length - hf) (by rw [zcd];exact hc)
     rw [zqo,List.take_of_length_le (by rw [tl2];exact Nat.le_refl _)] at this
     exact this
    have ih1:=zd1 b m (t.take hf) (by omega) (by omega) (by omega) (fun x hx=>ht x (List.mem_of_mem_take hx)) S hw (by omega) a c (by omega) hc2
    have ih2:=fun S' hw' hr'=>zd1 b m (t.drop hf) (by omega) (by omega) (by omega) (fun x hx=>ht x (List.mem_of_mem_drop hx)) S' hw' hr' (jX a c hf 1) (c - hf) (by omega) (by omega)
    rw [tl1] at ih1
    rw [tl2] at ih2
    have q1:((t.length:Int)/2)=(hf:Int):=by omega
    have q2:((hf:Nat):Int).toNat=hf:=by omega
    have hsp:t=t.take hf++t.drop hf:=(List.take_append_drop hf t).symm
    have hz:jX a c (Int.toNat 0) 1=a:=zlQ a c 1
    (repeat' ((conv=>whnf);first|rw [q1]|rw [q2]|rw [hz]|(refine qa (key:=77) rfl (fun w' hR' h0=>ih1 _ _ w' h0 (in1.cast hR' (fun b hb=>List.mem_append_left _ hb))) ?_;rintro _ _ ⟨S1,x1,f1,rfl,w1,g1,p1,k1,t1,⟨l1,b1⟩,rfl⟩;refine ⟨.v _,rfl,?_⟩)|refine zh ?_|((first|apply zc|apply za|apply zd)<;>intro h<;>try (exfalso;omega))|refine pay ?_|intro _));(all_goals (conv=>whnf))
    all_goals try (exfalso;omega)
    have gm1:=g1.most
    have ih2:=ih2 S1 w1 (by rw [gm1];omega)
    (repeat' ((conv=>whnf);first|rw [q1]|rw [q2]|(refine qa (key:=77) rfl (fun w' hR' h0=>ih2 _ _ w' h0 (in2.cast hR' (fun b hb=>List.mem_append_left _ hb))) ?_;rintro _ _ ⟨S2,x2,f2,rfl,w2,g2,p2,k2,t2,⟨l2,b2⟩,rfl⟩;refine ⟨.v _,rfl,?_⟩)|refine zh ?_|((first|apply zc|apply za|apply zd)<;>intro h<;>try (exfalso;omega))|refine pay ?_|intro _));(all_goals (conv=>whnf))
    all_goals try (exfalso;omega)
    have gm2:=g2.most
    have t1':(tm S2.E x1).txt=t.take hf:=by rw [g2.tm k1.2,t1]
    have k1':=g2.known k1
    obtain ⟨S',x,e1,e2,e3,e4,e5,e6,e7⟩:=zxI w2 p1 k1'.2 p2 k2.2 (by unfold Tm.len;rw [t1',t2,tl1,tl2];omega) (by rw [gm2,gm1];omega)
    have hb3:∀ B,Top S B->t.length<=B->Top S' B:=fun B hB hb=>by
     rw [show S'=(zbb S2 x1 x2).1 by rw [e1]]
     exact zut (b2 B (b1 B hB (by omega)) (by omega)) (by unfold Tm.len;rw [t1',t2,tl1,tl2];omega)
    have c3:=zrf b S2 w2 x1 x2
    rw [e1] at c3
    (repeat' ((conv=>whnf);first|refine SC.go 77 c3 rfl fun fp'=>?_|refine zh ?_|((first|apply zc|apply za|apply zd)<;>intro h<;>try (exfalso;omega))|refine pay ?_|intro _));(all_goals (conv=>whnf))
    all_goals try (exfalso;omega)
    exact ⟨⟨_,Thin.ref (.packE (.nil _)),S',x,_,rfl,e2,(g1.trans g2).trans e3,e4,e5,by rw [e6,t1',t2,←hsp],⟨by omega,hb3⟩,rfl⟩⟩
theorem zh4 (b:Nat) (t:List Nat) (h0:0<t.length) (hl:t.length<=65536) (ht:∀ x∈t,x<256) (S:Sto) (hw:WF S) (hroom:S.E.length+2*t.length<=S.most) (a:Option Addr) (c:Nat) (hc:t.length<=c) (hc2:c<=9223372036854775807) (key:Nat) (fp:List Nat) (w:World) (hR:StR w key fp b S) (hin:In w fp a (byL t)) :
 Calls Tryz.prog uy #[pS b,.slice a t.length c] w fun e w'=>∃ v L1,e=.returned v/\R w fp L1 w'/\btQ key b S t v L1:=by
 refine zr [.v (pS b),.v (.slice a t.length c)] zkd (by simp) (hR.key 77) ?_
 have hLM:LM=1152921504606846976:=rfl
 have ih1:=zd1 b t.length t (Nat.le_refl _) h0 (by omega) ht S hw hroom a c hc hc2
 (repeat' ((conv=>whnf);first|(refine qa (key:=77) rfl (fun w' hR' h0=>ih1 _ _ w' h0 (hin.cast hR' (fun b hb=>List.mem_append_left _ hb))) ?_;rintro _ _ ⟨S1,x1,f1,rfl,w1,g1,p1,k1,t1,l1,rfl⟩;refine ⟨.v _,rfl,?_⟩)|refine zh ?_|((first|apply zc|apply za|apply zd)<;>intro h<;>try (exfalso;omega))|refine pay ?_|intro _));(all_goals (conv=>whnf))
 all_goals try (exfalso;omega)
 exact ⟨⟨_,Thin.ref (.packE (.nil _)),S1,x1,_,rfl,w1,g1,p1,k1,t1,l1,rfl⟩⟩
end
section
open Go.EG
structure Tri where
 ch:List ((Nat × Nat) × Nat)
 en:List Nat
 us:List Bool
def cl:List ((Nat × Nat) × Nat)->Nat->Nat->Option Nat
 | [],_,_=>none
 | (k,c)::t,n,b=>if k=(n,b) then some c else cl t n b
def zfl (t:Tri) (n b:Nat):Option (Tri × Nat) :=
 match cl t.ch n b with
 | some c=>some (⟨t.ch,t.en,t.us.set b true⟩,c)
 | none=>if t.en.length=256 then none else some (⟨t.ch++[((n,b),t.en.length)],t.en++[0],t.us.set b true⟩,t.en.length)
def zdv:List Nat->Tri->Nat->Option (Tri × Nat)
 | [],t,n=>some (t,n)
 | b :: p,t,n => match zfl t n b with
   | some (t',n')=>zdv p t' n'
   | none=>none
def zfm (t:Tri) (p:List Nat):Option Tri :=
 match zdv p t 0 with
 | some (t',n)=>some ⟨t'.ch,t'.en.set n (t'.en.getD n 0+1),t'.us⟩
 | none=>none
def ui:List (List Nat)->Tri->Option Tri
 | [],t=>some t
 | p :: ps,t => match zfm t p with
   | some t'=>ui ps t'
   | none=>none
def zgI:Tri:=⟨[],[0],List.replicate 256 false⟩
structure TI (t:Tri) (mx:Nat):Prop where
 us:t.us.length=256
 en:t.en.length=t.ch.length+1
 cap:t.en.length<=256
 num:t.ch.map (·.2)=(List.range t.ch.length).map (·+1)
 mx:∀ x∈t.en,x<=mx
 usd:∀ b,t.us.getD b false=true->∃ x∈t.ch,x.1.2=b
theorem zeA:∀ {l:List ((Nat × Nat) × Nat)} {n b c:Nat},cl l n b=some c->((n,b),c)∈l
 | (k,d) :: t,n,b,c,h => by
   rw [cl] at h
   split at h
   ·rename_i hk
    cases h;subst hk;exact g5q
   ·exact g4q _ (zeA h)
theorem zov {l:List Bool} {b x:Nat} (h:(l.set b true).getD x false=true):x=b∨l.getD x false=true:=by
 rw [g1q,List.getElem?_set] at h
 by_cases he:b=x
 ·exact .inl he.symm
 ·rw [if_neg he] at h;exact .inr (by rw [g1q];exact h)
theorem TI.start:TI zgI 0:=⟨List.length_replicate,rfl,by decide,rfl,by decide,fun b hb=>by
 have e:(List.replicate 256 false).getD b false=true:=hb
 rw [g1q,List.getElem?_replicate] at e
 split at e<;>cases e⟩
theorem TI.mono {t:Tri} {m m':Nat} (h:TI t m) (hm:m<=m'):TI t m':=⟨h.us,h.en,h.cap,h.num,fun x hx=>Nat.le_trans (h.mx x hx) hm,h.usd⟩
theorem TI.idx {t:Tri} {m:Nat} (h:TI t m) {x:(Nat × Nat) × Nat} (hx:x∈t.ch):1<=x.2/\x.2<t.en.length:=by
 have:x.2∈t.ch.map (·.2):=List.mem_map_of_mem hx
 rw [h.num] at this
 obtain ⟨j,hj,he⟩:=List.mem_map.1 this
 have:=List.mem_range.1 hj
 have:=h.en
 omega
theorem zf3 {α β:Type} {f:α->β}:∀ {l:List α},(l.map f).Nodup->∀ {x y:α},x∈l->y∈l->f x=f y->x=y
 | a :: l,hn,x,y,hx,hy,he => by
   rw [List.map_cons,List.nodup_cons] at hn
   rcases List.mem_cons.1 hx with hx|hx
   ·rcases List.mem_cons.1 hy with hy|hy
    ·rw [hx,hy]
    ·exact absurd (show f a∈l.map f by rw [←hx,he];exact List.mem_map_of_mem hy) hn.1
   ·rcases List.mem_cons.1 hy with hy|hy
    ·exact absurd (show f a∈l.map f by rw [←hy,←he];exact List.mem_map_of_mem hx) hn.1
    ·exact zf3 hn.2 hx hy he
theorem TI.inj {t:Tri} {m:Nat} (h:TI t m) {n b n' b' c:Nat} (h1:cl t.ch n b=some c) (h2:cl t.ch n' b'=some c):n=n'/\b=b':=by
 have hnd:(t.ch.map (·.2)).Nodup:=by
  rw [h.num]
  exact List.Pairwise.map (·+1) (fun a b hab he=>hab (Nat.succ.inj he)) List.nodup_range
 have:=zf3 hnd (zeA h1) (zeA h2) rfl
 cases this;exact ⟨rfl,rfl⟩
theorem zle {t:Tri} {m n b:Nat} (h:TI t m) {t':Tri} {n':Nat} (ha:zfl t n b=some (t',n')):TI t' m/\n'<t'.en.length:=by
 unfold zfl at ha
 split at ha
 ·rename_i c hc
  cases ha
  have:=(h.idx (zeA hc)).2
  exact ⟨⟨by simpa using h.us,h.en,h.cap,h.num,h.mx,fun x hx=>by
   rcases zov hx with rfl|hx
   ·exact ⟨_,zeA hc,rfl⟩
   ·exact h.usd x hx⟩,this⟩
 ·split at ha
  ·cases ha
  ·rename_i hl
   cases ha
   have hen:=h.en
   have hc:=h.cap
   refine ⟨⟨by simpa using h.us,by simp [hen],by simp;omega,?_,fun x hx=>?_,fun x hx=>?_⟩,by simp⟩
   ·rw [List.map_append,h.num,g6q,List.length_singleton,List.range_succ,List.map_append,hen];rfl
   ·rcases List.mem_append.1 hx with hx|hx
    ·exact h.mx x hx
    ·rw [List.mem_singleton] at hx;omega
   ·rcases zov hx with rfl|hx
    ·exact ⟨_,List.mem_append_right _ (List.mem_singleton.2 rfl),rfl⟩
    ·obtain ⟨y,hy,e⟩:=h.usd x hx
     exact ⟨y,List.mem_append_left _ hy,e⟩
theorem zow:∀ {p:List Nat} {t:Tri} {m n:Nat},TI t m->n<t.en.length->∀ {t':Tri} {n':Nat},zdv p t n=some (t',n')->TI t' m/\n'<t'.en.length
 | [],t,m,n,h,hn,t',n',ha=>by cases ha;exact ⟨h,hn⟩
 | b :: p,t,m,n,h,hn,t',n',ha => by
   rw [zdv] at ha
   split at ha
   ·rename_i t1 n1 h1
    obtain ⟨i1,i2⟩:=zle h h1
    exact zow i1 i2 ha
   ·cases ha
theorem zqp {t:Tri} {m:Nat} {p:List Nat} (h:TI t m) {t':Tri} (ha:zfm t p=some t'):TI t' (m+1):=by
 unfold zfm at ha
 split at ha
 ·rename_i t1 n h1
  cases ha
  obtain ⟨i1,i2⟩:=zow h (by rw [h.en];omega) h1
  refine ⟨i1.us,by simpa using i1.en,by simpa using i1.cap,i1.num,fun x hx=>?_,i1.usd⟩
  rcases List.mem_or_eq_of_mem_set hx with hx|hx
  ·have:=i1.mx x hx;omega
  ·have:t1.en.getD n 0∈t1.en:=zZ i2
   have:=i1.mx _ this
   omega
 ·cases ha
theorem zl0:∀ {ps:List (List Nat)} {t:Tri} {m:Nat},TI t m->∀ {t':Tri},ui ps t=some t'->TI t' (m+ps.length)
 | [],t,m,h,t',ha=>by cases ha;exact h
 | p :: ps,t,m,h,t',ha => by
   rw [ui] at ha
   split at ha
   ·rename_i t1 h1
    have:=zl0 (zqp h h1) ha
    rw [List.length_cons,show m+(ps.length+1)=m+1+ps.length by omega]
    exact this
   ·cases ha
def vD (us:List Bool):List Nat:=(List.range 256).filter fun b=>us.getD b false
def kC (us:List Bool) (n:Nat):List Int:=(List.range 256).map fun b=>if b<n/\us.getD b false=true then ((((List.range (b+1)).filter fun x=>us.getD x false).length:Nat):Int) else 0
structure Bst where
 nd:List Nat
 fa:List Nat
 hi:List Nat
 nx:List (List Nat)
def inB (t:Tri) (n:Nat):List Nat->Nat->List Nat->List Nat->List Nat->List Nat × List Nat × List Nat
 | [],_,nd,fa,row=>(nd,fa,row)
 | b :: ls,k,nd,fa,row => match cl t.ch n b with
   | some c=>inB t n ls (k+1) (nd++[c]) (fa++[row.getD (k+1) 0]) (row.set (k+1) nd.length)
   | none=>inB t n ls (k+1) nd fa row
def zfn (ls:List Nat) (s:Bst) (i:Nat):List Nat:=if i=0 then List.replicate (ls.length+1) 0 else s.nx.getD (s.fa.getD i 0) []
def zd2 (t:Tri) (s:Bst) (i:Nat):Nat:=t.en.getD (s.nd.getD i 0) 0+(if i=0 then 0 else s.hi.getD (s.fa.getD i 0) 0)
def zhl (t:Tri) (ls:List Nat) (s:Bst) (i:Nat):Bst :=
 ⟨(inB t (s.nd.getD i 0) ls 0 s.nd s.fa (zfn ls s i)).1,(inB t (s.nd.getD i 0) ls 0 s.nd s.fa (zfn ls s i)).2.1,s.hi++[zd2 t s i],s.nx++[(inB t (s.nd.getD i 0) ls 0 s.nd s.fa (zfn ls s i)).2.2]⟩
def zcZ (t:Tri) (ls:List Nat):Nat->Bst->Nat->Bst
 | 0,s,_=>s
 | f+1,s,i=>if i<s.nd.length then zcZ t ls f (zhl t ls s i) (i+1) else s
def zfo:Bst:=⟨[0],[0],[],[]⟩
def zah (t:Tri):Bst:=zcZ t (vD t.us) 257 zfo 0
def kY (t:Tri):Mch:=⟨0,kC t.us 256,(zah t).nx.map fun r=>r.map Int.ofNat,(zah t).hi.map fun n=>decide (0<n)⟩
def xA (t:Tri):List Int:=(zah t).hi.map Int.ofNat
theorem zfp (us:List Bool):(vD us).Nodup:=List.Pairwise.filter _ List.nodup_range
structure RI (t:Tri) (i:Nat) (done:List Nat) (nd fa row:List Nat) (w:Nat):Prop where
 nod:nd.Nodup
 cap:∀ n∈nd,n<t.en.length
 fal:fa.length=nd.length
 fi:∀ j,0<j->j<nd.length->fa.getD j 0<j
 from_:∀ j,0<j->j<nd.length->∃ j' b,(j'<i∨(j'=i/\b∈done))/\j'<nd.length/\cl t.ch (nd.getD j' 0) b=some (nd.getD j 0)
 z:nd.getD 0 0=0
 ne:i<nd.length
 rl:row.length=w
 rv:∀ x∈row,x<nd.length
theorem jC {l:List Nat} {x j:Nat} (h:j<l.length):(l++[x]).getD j 0=l.getD j 0:=by
 rw [g1q,List.getElem?_append_left h,←g1q]
theorem zgJ (l:List Nat) (x:Nat):(l++[x]).getD l.length 0=x:=by
 rw [g1q,List.getElem?_append_right (Nat.le_refl _),Nat.sub_self];rfl
theorem zfq {l:List Nat} (h:l.Nodup) {i j:Nat} (hi:i<l.length) (hj:j<l.length) (e:l.getD i 0=l.getD j 0):i=j:=by
 rw [g1q,g1q,g2q hi,g2q hj] at e
 have e:l[i]=l[j]:=e
 rcases Nat.lt_trichotomy i j with hl|hl|hl
 ·exact absurd e (List.pairwise_iff_getElem.1 h i j hi hj hl)
 ·exact hl
 ·exact absurd e.symm (List.pairwise_iff_getElem.1 h j i hj hi hl)
theorem zox {t:Tri} {m:Nat} (h:TI t m) {i w n:Nat}:∀ {ls done:List Nat} {k:Nat} {nd fa row:List Nat},RI t i done nd fa row w->nd.getD i 0=n->(done++ls).Nodup->k+ls.length<w->
 ∃ done',RI t i done' (inB t n ls k nd fa row).1 (inB t n ls k nd fa row).2.1 (inB t n ls k nd fa row).2.2 w/\nd.length<=(inB t n ls k nd fa row).1.length
 | [],done,k,nd,fa,row,hI,hn,hd,hk=>⟨done,hI,Nat.le_refl _⟩
 | b :: ls,done,k,nd,fa,row,hI,hn,hd,hk => by
   have hd2:((done++[b])++ls).Nodup:=by rw [List.append_assoc];exact hd
   have hbd:b∉done:=fun hb=>by
    rw [List.nodup_append] at hd
    exact hd.2.2 b hb b (by simp) rfl
   rw [List.length_cons] at hk
   rw [inB]
   cases hc:cl t.ch n b with
   | none =>
     dsimp only
     refine zox h (done:=done++[b]) ⟨hI.nod,hI.cap,hI.fal,hI.fi,fun j h0 hj=>?_,hI.z,hI.ne,hI.rl,hI.rv⟩ hn hd2 (by omega)
     obtain ⟨j',b',h1,h2,h3⟩:=hI.from_ j h0 hj
     exact ⟨j',b',h1.imp_right fun h=>⟨h.1,List.mem_append_left _ h.2⟩,h2,h3⟩
   | some c =>
     dsimp only
     have hcm:=h.idx (zeA hc)
     have hcn:c∉nd:=fun hm=>by
      obtain ⟨j,hj,he⟩:=List.getElem_of_mem hm
      have he':nd.getD j 0=c:=by rw [g1q,g2q hj];exact he
      by_cases h0:j=0
      ·subst h0;have:=hI.z;dsimp only at hcm;omega
      ·obtain ⟨j',b',h1,h2,h3⟩:=hI.from_ j (by omega) hj
       rw [he'] at h3
       obtain ⟨e1,e2⟩:=h.inj hc h3
       have:j'=i:=zfq hI.nod h2 hI.ne (by rw [hn];exact e1.symm)
       rcases h1 with h1|h1
       ·omega
       ·exact hbd (e2 ▸ h1.2)
     have hrow:row.getD (k+1) 0<nd.length:=hI.rv _ (zZ (by have:=hI.rl;omega))
     have hl:(nd++[c]).length=nd.length+1:=by simp
     have hne:=hI.ne
     have hfal:=hI.fal
     have key:RI t i (done++[b]) (nd++[c]) (fa++[row.getD (k+1) 0]) (row.set (k+1) nd.length) w:=by
      refine ⟨?_,?_,by simp [hfal],?_,?_,?_,by omega,by rw [List.length_set];exact hI.rl,?_⟩
      ·rw [List.nodup_append]
       exact ⟨hI.nod,by simp,fun a ha b hb=>by rw [List.mem_singleton] at hb;subst hb;exact fun e=>hcn (e ▸ ha)⟩
      ·intro x hx
       rcases List.mem_append.1 hx with hx|hx
       ·exact hI.cap x hx
       ·rw [List.mem_singleton] at hx;subst hx;exact hcm.2
      ·intro j h0 hj
       rw [hl] at hj
       by_cases hj2:j<nd.length
       ·rw [jC (by omega)];exact hI.fi j h0 hj2
       ·obtain rfl:j=nd.length:=by omega
        rw [←hfal,zgJ,hfal];exact hrow
      ·intro j h0 hj
       rw [hl] at hj
       by_cases hj2:j<nd.length
       ·obtain ⟨j',b',h1,h2,h3⟩:=hI.from_ j h0 hj2
        exact ⟨j',b',h1.imp_right fun h=>⟨h.1,List.mem_append_left _ h.2⟩,by omega,by rw [jC h2,jC hj2];exact h3⟩
       ·obtain rfl:j=nd.length:=by omega
        exact ⟨i,b,.inr ⟨rfl,by simp⟩,by omega,by rw [jC hne,zgJ,hn];exact hc⟩
      ·rw [jC (by omega)];exact hI.z
      ·intro x hx
       rw [hl]
       rcases List.mem_or_eq_of_mem_set hx with hx|hx
       ·have:=hI.rv x hx;omega
       ·omega
     obtain ⟨done',q1,q2⟩:=zox h (k:=k+1) (n:=n) (ls:=ls) key (by rw [jC hne];exact hn) hd2 (by omega)
     exact ⟨done',q1,by omega⟩
theorem xj:∀ {n:Nat} {L:List Nat},L.Nodup->(∀ x∈L,x<n)->L.length<=n
 | 0,[],_,_=>Nat.le_refl _
 | 0,x::t,_,h=>absurd (h x (by simp)) (by omega)
 | n + 1,L,hn,h => by
   have h1:(L.erase n).length<=n:=xj (hn.erase _) fun x hx=>by
    have h2:=h x (List.mem_of_mem_erase hx)
    have h3:x≠n:=fun he=>by
     subst he
     exact absurd hx (List.Nodup.not_mem_erase hn)
    omega
   by_cases hm:n∈L
   ·rw [List.length_erase_of_mem hm] at h1
    omega
   ·rw [List.erase_of_not_mem hm] at h1
    omega
structure BI (t:Tri) (mx:Nat) (ls:List Nat) (s:Bst) (i:Nat):Prop where
 nod:s.nd.Nodup
 cap:∀ n∈s.nd,n<t.en.length
 fal:s.fa.length=s.nd.length
 fi:∀ j,0<j->j<s.nd.length->s.fa.getD j 0<j
 from_:∀ j,0<j->j<s.nd.length->∃ j' b,j'<i/\j'<s.nd.length/\cl t.ch (s.nd.getD j' 0) b=some (s.nd.getD j 0)
 z:s.nd.getD 0 0=0
 le:i<=s.nd.length
 pos:0<s.nd.length
 hil:s.hi.length=i
 nxl:s.nx.length=i
 row:∀ r∈s.nx,r.length=ls.length+1/\∀ x∈r,x<s.nd.length
 hib:∀ j,j<i->s.hi.getD j 0<=mx*(j+1)
theorem BI.start (t:Tri) (mx:Nat) (ls:List Nat) (h:TI t mx):BI t mx ls zfo 0 :=
 ⟨by simp [zfo],fun n hn=>by simp [zfo] at hn;subst hn;rw [h.en];omega,rfl,fun j h0 hj=>by simp [zfo] at hj;omega,fun j h0 hj=>by simp [zfo] at hj;omega,rfl,Nat.zero_le _,by decide,rfl,rfl,fun r hr=>by simp [zfo] at hr,fun j hj=>absurd hj (Nat.not_lt_zero j)⟩
theorem zqq {t:Tri} {mx:Nat} {ls:List Nat} {s:Bst} {i:Nat} (h:BI t mx ls s i) (hi:i<s.nd.length):(zfn ls s i).length=ls.length+1/\∀ x∈zfn ls s i,x<s.nd.length:=by
 unfold zfn
 by_cases h0:i=0
 ·rw [if_pos h0]
  exact ⟨by simp,fun x hx=>by have:=List.eq_of_mem_replicate hx;have:=h.pos;omega⟩
 ·rw [if_neg h0]
  have hf:=h.fi i (by omega) hi
  exact h.row _ (zZ (by rw [h.nxl];exact hf))
theorem zqr {t:Tri} {mx:Nat} {ls:List Nat} {s:Bst} {i:Nat} (hT:TI t mx) (h:BI t mx ls s i) (hi:i<s.nd.length):zd2 t s i<=mx*(i+1):=by
 unfold zd2
 have h1:t.en.getD (s.nd.getD i 0) 0<=mx:=hT.mx _ (zZ (h.cap _ (zZ hi)))
 by_cases h0:i=0
 ·subst h0;rw [if_pos rfl];omega
 ·rw [if_neg h0]
  have hf:=h.fi i (by omega) hi
  have h2:=h.hib _ hf
  have h3:mx*(s.fa.getD i 0+1)<=mx*i:=Nat.mul_le_mul_left _ hf
  rw [Nat.mul_succ];omega
theorem zoy {t:Tri} {mx:Nat} {ls:List Nat} {s:Bst} {i:Nat} (hT:TI t mx) (hls:ls.Nodup) (h:BI t mx ls s i) (hi:i<s.nd.length):BI t mx ls (zhl t ls s i) (i+1):=by
 obtain ⟨r1,r2⟩:=zqq h hi
 obtain ⟨done',q,ql⟩:=zox hT (i:=i) (w:=ls.length+1) (n:=s.nd.getD i 0) (ls:=ls) (done:=[]) (k:=0) (nd:=s.nd) (fa:=s.fa) (row:=zfn ls s i)
  ⟨h.nod,h.cap,h.fal,h.fi,fun j h0 hj=>by
   obtain ⟨j',b,a1,a2,a3⟩:=h.from_ j h0 hj
   exact ⟨j',b,.inl a1,a2,a3⟩,h.z,hi,r1,r2⟩ rfl hls (by omega)
 have hc:=zqr hT h hi
 refine ⟨q.nod,q.cap,q.fal,q.fi,fun j h0 hj=>?_,q.z,q.ne,?_,by simp [zhl,h.hil],by simp [zhl,h.nxl],fun r hr=>?_,fun j hj=>?_⟩
 ·obtain ⟨j',b,a1,a2,a3⟩:=q.from_ j h0 hj
  exact ⟨j',b,by omega,a2,a3⟩
 ·have:=q.ne;show 0<(inB t (s.nd.getD i 0) ls 0 s.nd s.fa (zfn ls s i)).1.length;omega
 ·rcases List.mem_append.1 hr with hr|hr
  ·obtain ⟨a1,a2⟩:=h.row r hr
   exact ⟨a1,fun x hx=>Nat.lt_of_lt_of_le (a2 x hx) ql⟩
  ·rw [List.mem_singleton] at hr
   subst hr
   exact ⟨q.rl,q.rv⟩
 ·show (s.hi++[zd2 t s i]).getD j 0<=_
  by_cases hj2:j<i
  ·rw [jC (by rw [h.hil];exact hj2)];exact h.hib j hj2
  ·obtain rfl:j=i:=by omega
   rw [show j=s.hi.length from h.hil.symm,zgJ,h.hil];exact hc
theorem zqs {t:Tri} {mx:Nat} {ls:List Nat} (hT:TI t mx) (hls:ls.Nodup):∀ {f:Nat} {s:Bst} {i:Nat},BI t mx ls s i->257<=f+i->BI t mx ls (zcZ t ls f s i) (zcZ t ls f s i).nd.length
 | 0,s,i,h,hf => by
   have:=xj h.nod h.cap
   have:=hT.cap
   have:=h.le
   omega
 | f + 1,s,i,h,hf => by
   rw [zcZ]
   split
   ·rename_i hi
    exact zqs hT hls (zoy hT hls h hi) (by omega)
   ·rename_i hi
    have:=h.le
    have e:i=s.nd.length:=by omega
    rw [←e] at *
    exact h
theorem zlf {t:Tri} {mx:Nat} (hT:TI t mx):BI t mx (vD t.us) (zah t) (zah t).nd.length:=zqs hT (zfp _) (BI.start t mx _ hT) (by omega)
theorem zaK (us:List Bool) (n:Nat):(kC us n).length=256:=by simp [kC]
theorem zso {p:Nat->Bool}:∀ {n m:Nat},n<=m->((List.range n).filter p).length<=((List.range m).filter p).length:=by
 intro n m h
 rw [show m=n+(m - n) by omega,List.range_add,List.filter_append,g6q]
 omega
theorem uY:∀ {l L:List Nat},l.Nodup->(∀ x∈l,x∈L)->l.length<=L.length
 | [],L,_,_=>Nat.zero_le _
 | x :: l,L,hn,h => by
   obtain ⟨h1,h2⟩:=List.nodup_cons.1 hn
   have hx:=h x g5q
   have ih:=uY (l:=l) (L:=L.erase x) h2 (fun y hy=>by
    have hne:y≠x:=fun he=>h1 (he ▸ hy)
    exact (List.mem_erase_of_ne hne).2 (h y (g4q _ hy)))
   rw [List.length_erase_of_mem hx] at ih
   have:0<L.length:=List.length_pos_of_mem hx
   rw [List.length_cons];omega
theorem zqt {t:Tri} {mx:Nat} (hT:TI t mx):(vD t.us).length<=255:=by
 have h1:=uY (l:=vD t.us) (L:=t.ch.map (·.1.2)) (zfp _) fun x hx=>by
  obtain ⟨y,hy,e⟩:=hT.usd x (by
   have:=(List.mem_filter.1 hx).2
   simpa using this)
  exact List.mem_map.2 ⟨y,hy,e⟩
 rw [g8q] at h1
 have:=hT.en
 have:=hT.cap
 omega
theorem zoz {t:Tri} {mx:Nat} (hT:TI t mx):MOk (kY t) ((vD t.us).length+1):=by
 have h:=zlf hT
 have hcap:=xj h.nod h.cap
 have hc2:=hT.cap
 have hl:=zqt hT
 have hnx:(kY t).nx.length=(zah t).nd.length:=by show ((zah t).nx.map _).length=_;rw [g8q,h.nxl]
 have hpos:=h.pos
 refine ⟨zaK _ _,by omega,by omega,?_,⟨Int.le_refl _,by show (0:Int)<_;omega⟩,⟨by omega,by omega⟩,fun r hr=>?_,fun c hc=>?_⟩
 ·show ((zah t).hi.map _).length=_
  rw [g8q,h.hil,hnx]
 ·obtain ⟨r',hr',rfl⟩:=List.mem_map.1 hr
  obtain ⟨a1,a2⟩:=h.row r' hr'
  refine ⟨by rw [g8q];exact a1,fun q hq=>?_⟩
  obtain ⟨x,hx,rfl⟩:=List.mem_map.1 hq
  have:=a2 x hx
  rw [hnx]
  exact ⟨Int.natCast_nonneg _,Int.ofNat_lt.2 this⟩
 ·obtain ⟨b,hb,rfl⟩:=List.mem_map.1 hc
  have hb2:=List.mem_range.1 hb
  split
  ·have:=zso (p:=fun x=>t.us.getD x false) (show b+1<=256 by omega)
   have e:(vD t.us).length=((List.range 256).filter fun x=>t.us.getD x false).length:=rfl
   omega
  ·omega
theorem zoA {t:Tri} {mx:Nat} (hT:TI t mx) (hm:mx<=4096):(xA t).length=(kY t).nx.length/\∀ x∈xA t,0<=x/\x<=1048576:=by
 have h:=zlf hT
 have hcap:=xj h.nod h.cap
 have hc2:=hT.cap
 refine ⟨?_,fun x hx=>?_⟩
 ·show ((zah t).hi.map _).length=((zah t).nx.map _).length
  rw [g8q,g8q,h.hil,h.nxl]
 ·obtain ⟨n,hn,rfl⟩:=List.mem_map.1 hx
  obtain ⟨j,hj,he⟩:=List.getElem_of_mem hn
  rw [h.hil] at hj
  have:=h.hib j hj
  have e:(zah t).hi.getD j 0=n:=by
   rw [g1q,g2q (by rw [h.hil];exact hj)];exact he
  rw [e] at this
  have h2:mx*(j+1)<=4096*256:=Nat.mul_le_mul hm (by omega)
  exact ⟨Int.natCast_nonneg _,by show (n:Int)<=_;omega⟩
end
section
open Go.EG
attribute [local irreducible] zT yE Go.Calls
set_option maxRecDepth 20000
set_option maxHeartbeats 4000000
abbrev chK (n b:Nat):Value:=.agg #[.int .i64 (n:Int),.int .u8 (b:Int)]
theorem zoB (n b:Nat):zS (.agg [.int .i64,.int .u8]) (chK n b):=⟨_,rfl,⟨rfl,rfl⟩,⟨rfl,rfl⟩,trivial⟩
def chm (ch:List ((Nat × Nat) × Nat)):List (Value × Value):=ch.map fun x=>(chK x.1.1 x.1.2,.int .i64 (x.2:Int))
theorem chK_eq {n b n' b':Nat}:qB (chK n b) (chK n' b')=true↔(n,b)=(n',b'):=by
 simp [qB,zK,chK]
 omega
theorem zlg:∀ {ch:List ((Nat × Nat) × Nat)} {n b:Nat},qI (chm ch) (chK n b)=(cl ch n b).map fun c=>.int .i64 (c:Int)
 | [],n,b=>rfl
 | (k,c) :: t,n,b => by
   have ih:=zlg (ch:=t) (n:=n) (b:=b)
   simp only [chm,List.map_cons,qI,cl] at ih ⊢
   by_cases he:(n,b)=k
   ·subst he
    rw [if_pos (chK_eq.2 rfl),if_pos rfl];rfl
   ·rw [if_neg (fun h=>he (chK_eq.1 h)),if_neg (fun h=>he h.symm)]
    exact ih
theorem zqu:∀ {ch:List ((Nat × Nat) × Nat)} {n b c:Nat},cl ch n b=none->yd (chm ch) (chK n b) (.int .i64 (c:Int))=chm (ch++[((n,b),c)])
 | [],n,b,c,_=>rfl
 | (k,d) :: t,n,b,c,h => by
   rw [cl] at h
   by_cases he:k=(n,b)
   ·rw [if_pos he] at h;cases h
   ·rw [if_neg he] at h
    have ih:=zqu (c:=c) h
    simp only [chm,List.map_cons,yd,List.cons_append] at ih ⊢
    rw [if_neg (fun h=>he (chK_eq.1 h).symm),ih]
def enL (en:List Nat):List Value:=zu .i64 (en.map Int.ofNat)
theorem qW (en:List Nat):(enL en).length=en.length:=by simp [enL,zu]
def usL (us:List Bool):List Value:=us.map Value.bool
abbrev zfr (t:Tri) (mb:Nat) (a:Option Addr) (c:Nat):List Value:=.map (some mb)::.slice a t.en.length c::usL t.us
abbrev zlh (bt mb:Nat) (t:Tri) (a:Option Addr) (c:Nat):List Ent :=
 [.box 3200 bt (zfr t mb a c) yp,.mapE 3201 mb (.agg [.int .i64,.int .u8]) (chm t.ch),.own 3202 a t.en.length c zk 1 (enL t.en)]
theorem zli {us:List Bool} {x y:Value} {off b:Nat} {K:List Value->Prop} (h:off=2+b) (hb:b<us.length) (hk:K (x::y::usL (us.set b true))):vp off (x::y::usL us) [.bool true] K:=by
 subst h
 have hl:b<(us.map Value.bool).length:=by simpa using hb
 refine zbV (by simp [usL];omega) ?_
 have e:zv (x::y::usL us) (2+b) [.bool true]=x::y::usL (us.set b true):=by
  unfold zv usL
  rw [List.map_set,List.set_eq_take_append_cons_drop,if_pos hl,show 2+b=b+1+1 by omega]
  simp
 rw [e];exact hk
theorem zvF {cs:List Value} {K:List Value->Prop} (h:K cs):vp 0 cs [] K:=by cases cs<;>exact h
def adQ (bt mb:Nat) (r:Option Tri) (v:Value) (L1:List Ent):Prop :=
 match r with
 | some t=>∃ a c,v=.bool true/\L1=zlh bt mb t a c
 | none=>v=.bool false/\L1=[]
structure AdG where
 i:Nat
 t:Tri
 n:Nat
 a:Option Addr
 c:Nat
theorem zrs {mx:Nat} (bt mb:Nat) (t:Tri) (hT:TI t mx) (hm4:mx<=4096) (a:Option Addr) (c:Nat) (p:List Nat) (hp:∀ x∈p,x<256) (hpl:p.length<=9223372036854775807) (pa:Option Addr) (pc:Nat) (fp:List Nat) (w:World) (hR:R w fp (zlh bt mb t a c) w) (hin:In w fp pa (byL p)) :
 Calls Tryz.prog vA #[pS bt,.slice pa p.length pc] w fun e w'=>∃ v L1,e=.returned v/\R w fp L1 w'/\adQ bt mb (zfm t p) v L1:=by
 refine zr [.ptr 3200 bt 0,.v (.slice pa p.length pc)] zev (by simp) hR ?_
 (repeat' ((conv=>whnf);first|((first|apply zc|apply za|apply zd)<;>intro h<;>try (exfalso;omega))|refine pay ?_|intro _));(all_goals (conv=>whnf))
 refine zw AdG (fun x=>[(0,.ptr 3200 bt 0),(5,.v (.int .i64 x.n)),(10,.v (.slice pa p.length pc)),(11,.v (.int .i64 p.length)),(12,.v (.int .i64 x.i))])
  (fun x=>zlh bt mb x.t x.a x.c) (fun x=>x.i<=p.length/\TI x.t mx/\x.n<x.t.en.length/\zdv (p.drop x.i) x.t x.n=zdv p t 0) (fun x=>p.length - x.i) ⟨0,t,0,a,c⟩ ⟨Nat.zero_le _,hT,by dsimp only;rw [hT.en];omega,rfl⟩ (by (repeat ((conv=>whnf);refine vS ?_));exact trivial) (Ref.takes [3200,3201,3202] rfl (.refl _)) ?_
 rintro ⟨i,t',n,a',c'⟩ ⟨hi,hI,hn,he⟩
 dsimp only at hi hI hn he ⊢
 have hcap:=hI.cap
 have hus:=hI.us
 by_cases hlt:i<p.length
 ·obtain ⟨b,hb⟩:∃ b,p[i]?=some b:=⟨_,g2q hlt⟩
  have hb2:b<256:=hp b (List.mem_of_getElem? hb)
  have hbd:(p.map Int.ofNat).getD i 0=(b:Int):=by rw [g1q,List.getElem?_map,hb];rfl
  have rd:=fun {L:List Ent}=>rdI (L:=L) (k:=.u8) (zs:=p.map Int.ofNat) hin (i:=i) (by simpa using hlt)
  rw [hbd] at rd
  have nr:pa≠none:=hin.ne' (k:=i) (by rw [zcd];exact hlt)
  have q0:((i:Nat):Int).toNat=i:=by omega
  have q1:((b:Nat):Int).toNat=b:=by omega
  have hdr:p.drop i=b::p.drop (i+1):=by
   obtain ⟨h1,h2⟩:=List.getElem?_eq_some_iff.1 hb
   rw [←h2];exact (List.getElem_cons_drop h1).symm
  rw [hdr,zdv] at he
  have hg:=zlg (ch:=t'.ch) (n:=n) (b:=b)
  have hkk:=zoB n b
  cases hc:cl t'.ch n b with
  | some d =>
    rw [hc,Option.map_some] at hg
    have hab:zfl t' n b=some (⟨t'.ch,t'.en,t'.us.set b true⟩,d):=by unfold zfl;rw [hc]
    rw [hab] at he
    obtain ⟨i1,i2⟩:=zle hI hab
    (repeat' ((conv=>whnf);first|rw [q0]|rw [q1]|refine ⟨_,rd,?_⟩|refine zau hg ?_|refine ⟨⟨rfl,by simp [usL];omega⟩,zli (b:=b) (by omega) (by omega) ?_⟩|refine ⟨.mp 3201 _,⟨rfl,rfl⟩,?_⟩|refine zh ?_|((first|apply zc|apply za|apply zd)<;>intro h<;>try (exfalso;omega))|refine pay ?_|refine And.intro (by first|exact ⟨rfl,rfl,hkk⟩) ?_|intro _));(all_goals (conv=>whnf))
    all_goals try (exfalso;omega)
    exact zi ⟨i+1,⟨t'.ch,t'.en,t'.us.set b true⟩,d,a',c'⟩ ⟨hlt,i1,i2,he⟩ (show p.length - (i+1)<p.length - i by omega) (by (repeat ((conv=>whnf);refine vS ?_));exact trivial) (Ref.takes [3200,3201,3202] rfl (.refl _))
  | none =>
    rw [hc,Option.map_none] at hg
    by_cases hfull:t'.en.length=256
    ·have hab:zfl t' n b=none:=by unfold zfl;rw [hc];exact if_pos hfull
     rw [hab] at he
     have hnone:zfm t p=none:=by unfold zfm;rw [←he]
     rw [hnone]
     (repeat' ((conv=>whnf);first|rw [q0]|rw [q1]|refine ⟨_,rd,?_⟩|refine jO hg ?_|refine ⟨⟨rfl,by simp [usL];omega⟩,zli (b:=b) (by omega) (by omega) ?_⟩|refine ⟨.mp 3201 _,⟨rfl,rfl⟩,?_⟩|refine zh ?_|((first|apply zc|apply za|apply zd)<;>intro h<;>try (exfalso;omega))|refine pay ?_|refine And.intro (by first|exact ⟨rfl,rfl,hkk⟩) ?_|intro _));(all_goals (conv=>whnf))
     all_goals try (exfalso;omega)
     exact ⟨⟨[],Ref.takes [] rfl (.nil _),rfl,rfl⟩⟩
    ·have hab:zfl t' n b=some (⟨t'.ch++[((n,b),t'.en.length)],t'.en++[0],t'.us.set b true⟩,t'.en.length):=by unfold zfl;rw [hc];exact if_neg hfull
     rw [hab] at he
     obtain ⟨i1,i2⟩:=zle hI hab
     have hset:=zqu (c:=t'.en.length) hc
     have hen:enL t'.en++[.int .i64 0]=enL (t'.en++[0]):=by
      unfold enL;rw [List.map_append];exact za7
     have hel:(t'.en++[0]).length=t'.en.length+1:=by simp
     (repeat' ((conv=>whnf);first|rw [q0]|rw [q1]|rw [hset]|rw [hen]|refine ⟨_,rd,?_⟩|refine jO hg ?_|refine zvF ?_|refine ⟨⟨rfl,by simp [usL];omega⟩,zli (b:=b) (by omega) (by omega) ?_⟩|refine ⟨.mp 3201 _,⟨rfl,rfl⟩,?_⟩|refine ⟨.sl 3202 _ _ _,⟨rfl,rfl,rfl,rfl⟩,?_⟩|refine zh ?_|((first|apply zc|apply za|apply zd)<;>intro h<;>try (exfalso;omega))|refine pay ?_|refine And.intro (by first|exact ⟨rfl,rfl,hkk⟩|exact ⟨by unfold maxLen;omega,by omega⟩) ?_|intro _));(all_goals (conv=>whnf))
     all_goals try (exfalso;omega)
     rename_i a2 c2
     refine zi ⟨i+1,⟨t'.ch++[((n,b),t'.en.length)],t'.en++[0],t'.us.set b true⟩,t'.en.length,a2,c2⟩ ⟨hlt,i1,i2,he⟩ (show p.length - (i+1)<p.length - i by omega) (by (repeat ((conv=>whnf);refine vS ?_));exact trivial) ?_
     dsimp only [zlh,zfr]
     rw [hel]
     exact Ref.takes [3200,3201,3202] rfl (.refl _)
 ·obtain rfl:i=p.length:=by omega
  rw [List.drop_length,zdv] at he
  have hadd:zfm t p=some ⟨t'.ch,t'.en.set n (t'.en.getD n 0+1),t'.us⟩:=by unfold zfm;rw [←he]
  rw [hadd]
  have q2:((n:Nat):Int).toNat=n:=by omega
  have hi1:Go.EG.intOf (atL (enL t'.en) n)=((t'.en.getD n 0:Nat):Int):=by
   unfold enL
   rw [vN (by simpa using hn),g1q,List.getElem?_map,g1q,g2q hn];rfl
  have k1':isK (.int .i64) (enL t'.en) n:=kj (by simpa using hn)
  have hsp:zv (enL t'.en) n [.int .i64 (((t'.en.getD n 0:Nat):Int)+1)]=enL (t'.en.set n (t'.en.getD n 0+1)):=by
   unfold enL
   rw [uX (by simpa using hn),List.map_set];rfl
  have hnl:=qW t'.en
  have hmx:=hI.mx _ (zZ (d:=0) hn)
  have hsl:(t'.en.set n (t'.en.getD n 0+1)).length=t'.en.length:=List.length_set
  (repeat' ((conv=>whnf);first|rw [q2]|rw [Nat.mul_one]|rw [hi1]|rw [hsp]|refine ⟨.sl 3202 _ _ _,⟨rfl,rfl,rfl,rfl⟩,?_⟩|refine zh ?_|((first|apply zc|apply za|apply zd)<;>intro h<;>try (exfalso;omega))|refine pay ?_|refine And.intro (by first|exact k1'|exact ⟨rfl,by omega⟩) ?_|intro _));(all_goals (conv=>whnf))
  all_goals try (exfalso;omega)
  refine ⟨⟨_,?_,a',c',rfl,rfl⟩⟩
  dsimp only [zlh,zfr]
  rw [hsl]
  exact Ref.takes [3200,3201,3202] rfl (.refl _)
theorem zl1:∀ {n:Nat} {cs:List Value} {K:List Value->Prop},cs.length=n->K cs->zeS n cs K
 | 0,[],K,_,hk=>hk
 | 0,_::_,K,h,_=>by simp at h
 | n+1,[],K,h,_=>by simp at h
 | n+1,c::cs,K,h,hk=>zl1 (n:=n) (K:=fun l=>K (c::l)) (by simpa using h) hk
theorem FIn.rds {w0:World} {fp0:List Nat} {L Lr:List Ent} {key:Nat} {F:List Frz} {a:Option Addr} {xs:List Value} {n:Nat} (hm:qP key L=some (frE key F,Lr)) (h:FIn F a xs) (hn:n=xs.length):RdS w0 fp0 L a n xs:=by
 refine ⟨hn,?_⟩
 by_cases hx:xs=[]
 ·exact .inl hx
 ·refine .inr fun w hR=>?_
  rcases FIn.in_ hR ((zV hm).mem_iff.2 g5q) h with h1|⟨b,off,h1,_,_,h3⟩
  ·exact absurd h1 hx
  ·exact ⟨b,off,h1,h3⟩
def xR (us:List Bool) (n:Nat):List Nat:=(List.range n).filter fun b=>us.getD b false
theorem zsp (us:List Bool):xR us 256=vD us:=rfl
theorem zkh (us:List Bool) (n:Nat):xR us (n+1)=if us.getD n false=true then xR us n++[n] else xR us n:=by
 unfold xR
 rw [List.range_succ,List.filter_append]
 have e:List.filter (fun b=>us.getD b false) [n]=if us.getD n false=true then [n] else []:=by
  simp only [List.filter];cases us.getD n false<;>rfl
 rw [e]
 split
 ·rfl
 ·exact List.append_nil _
theorem zsq (us:List Bool):kC us 0=List.replicate 256 0:=by
 apply List.ext_getElem?
 intro j
 by_cases hj:j<256
 ·have e:(kC us 0)[j]?=some (if j<0/\us.getD j false=true then ((((List.range (j+1)).filter fun x=>us.getD x false).length:Nat):Int) else 0):=by simp [kC,List.getElem?_range hj]
  rw [e,List.getElem?_replicate,if_pos hj,if_neg (by omega)]
 ·rw [List.getElem?_eq_none (by rw [zaK];omega),List.getElem?_eq_none (by simp;omega)]
theorem ziZ {us:List Bool} {n j:Nat} (hj:j<256):(kC us n)[j]?=some (if j<n/\us.getD j false=true then (((xR us (j+1)).length:Nat):Int) else 0):=by
 simp [kC,xR,List.getElem?_range hj]
theorem zsr {us:List Bool} {n:Nat} (hn:n<256):kC us (n+1)=if us.getD n false=true then (kC us n).set n (((xR us n).length:Int)+1) else kC us n:=by
 apply List.ext_getElem?
 intro j
 by_cases hj:j<256
 ·rw [ziZ hj]
  by_cases hu:us.getD n false=true
  ·rw [if_pos hu,List.getElem?_set,zaK]
   by_cases he:n=j
   ·subst he
    rw [if_pos rfl,if_pos hn,if_pos ⟨by omega,hu⟩,zkh,if_pos hu,g6q];rfl
   ·rw [if_neg he,ziZ hj]
    congr 1
    by_cases hl:j<n
    ·by_cases hv:us.getD j false=true
     ·rw [if_pos ⟨by omega,hv⟩,if_pos ⟨hl,hv⟩]
     ·rw [if_neg (fun h=>hv h.2),if_neg (fun h=>hv h.2)]
    ·rw [if_neg (by omega),if_neg (fun h=>hl h.1)]
  ·rw [if_neg hu,ziZ hj]
   congr 1
   by_cases hl:j<n
   ·by_cases hv:us.getD j false=true
    ·rw [if_pos ⟨by omega,hv⟩,if_pos ⟨hl,hv⟩]
    ·rw [if_neg (fun h=>hv h.2),if_neg (fun h=>hv h.2)]
   ·by_cases he:j=n
    ·subst he;rw [if_neg (fun h=>hu h.2),if_neg (fun h=>hu h.2)]
    ·rw [if_neg (by omega),if_neg (by omega)]
 ·have e:(if us.getD n false=true then (kC us n).set n (((xR us n).length:Int)+1) else kC us n).length=256:=by split<;>simp [zaK]
  rw [List.getElem?_eq_none (by rw [zaK];omega),List.getElem?_eq_none (by omega)]
theorem zuu (us:List Bool) (n:Nat):(xR us n).length<=n:=by
 have:=List.length_filter_le (fun b=>us.getD b false) (List.range n)
 rwa [List.length_range] at this
theorem zuv {us:List Bool} {n b:Nat} (h:b∈xR us n):b<n:=List.mem_range.1 (List.mem_filter.1 h).1
structure UsG where
 i:Nat
 a:Option Addr
 c:Nat
theorem zes {k:IntKind}:∀ zs:List Int,yL (zu k zs)
 | []=>trivial
 | _::l=>⟨trivial,zes l⟩
structure MlG where
 i:Nat
 s:Bst
 nr:List RA
 F:List Frz
 na:Option Addr
 nc:Nat
 fa:Option Addr
 fc:Nat
 ha:Option Addr
 hc:Nat
 xa:Option Addr
 xc:Nat
 ca:Option Addr
 cc:Nat
structure LeG where
 k:Nat
 nd:List Nat
 fa:List Nat
 row:List Nat
 na:Option Addr
 nc:Nat
 fb:Option Addr
 fc:Nat
theorem uL {l:List Nat} {x:Nat}:enL l++[.int .i64 (x:Int)]=enL (l++[x]):=by
 unfold enL;rw [List.map_append];exact za7
theorem uj {l:List Nat} {j:Nat} (h:j<l.length):Go.EG.intOf (atL (enL l) j)=((l.getD j 0:Nat):Int):=by
 unfold enL
 rw [vN (by simpa using h),g1q,List.getElem?_map,g1q,g2q h];rfl
theorem zwv {l:List Nat} {j b:Nat} (h:l[j]?=some b):Go.EG.intOf (atL (byL l) j)=(b:Int):=by
 have hl:=(List.getElem?_eq_some_iff.1 h).1
 unfold byL
 rw [vN (by simpa using hl),g1q,List.getElem?_map,h];rfl
theorem qJ {l:List Nat} {q v:Nat} (h:q<l.length):zv (enL l) q [.int .i64 (v:Int)]=enL (l.set q v):=by
 unfold enL
 rw [uX (by simpa using h),List.map_set];rfl
def maQ (bt mb:Nat) (t:Tri) (v:Value) (L1:List Ent):Prop :=
 ∃ y F aH cH,v=.tuple #[MA.v y,.slice aH (xA t).length cH]/\y.m=kY t/\MFz F y/\L1=[frE 79 F,.own 53 aH (xA t).length cH zk 1 (zu .i64 (xA t))]
theorem zpI {mx:Nat} (bt mb:Nat) (t:Tri) (hT:TI t mx) (hm4:mx<=4096) (a:Option Addr) (c:Nat) (fp:List Nat) (w:World) (hR:R w fp (zlh bt mb t a c) w) :
 Calls Tryz.prog xQ #[pS bt] w fun e w'=>∃ v L1,e=.returned v/\R w fp L1 w'/\maQ bt mb t v L1:=by
 refine zr [.ptr 3200 bt 0] zbU (by simp) hR ?_
 have hus:=hT.us
 have hul:(usL t.us).length=256:=by simp [usL,hus]
 have z1:(List.replicate 256 [Value.int .i64 0]).flatten=zu .i64 (kC t.us 0):=by
  rw [zsq,←zaa]
 (repeat' ((conv=>whnf);first|refine zl1 hul ?_|refine zh ?_|((first|apply zc|apply za|apply zd)<;>intro h<;>try (exfalso;omega))|refine pay ?_|refine And.intro (by first|exact ⟨rfl,by rw [List.length_cons,List.length_cons,hul]⟩) ?_|intro _));(all_goals (conv=>whnf))
 all_goals try (exfalso;omega)
 rename_i b2 b20 b4
 refine zw UsG (fun x=>[(0,.ptr 3200 bt 0),(2,.ptr 2 b2 0),(3,.v (.slice none 0 0)),(4,.ptr 4 b4 0),(5,.sl 35 x.a (xR t.us x.i).length x.c),(25,.v (.agg (usL t.us).toArray)),(26,.v (.int .i64 x.i))])
  (fun x=>[.box 3200 bt (zfr t mb a c) yp,.mapE 3201 mb (.agg [.int .i64,.int .u8]) (chm t.ch),.own 3202 a t.en.length c zk 1 (enL t.en),.box 2 b2 [.int .i64 0,.slice none 0 0,.slice none 0 0,.slice none 0 0] zg,.box 4 b4 [.int .i64 0,.slice (some ⟨b20,0,none⟩) 256 256,.slice none 0 0,.slice none 0 0] zg,.own 20 (some ⟨b20,0,none⟩) 256 256 zk 1 (zu .i64 (kC t.us x.i)),.own 35 x.a (xR t.us x.i).length x.c qi 1 (byL (xR t.us x.i))])
  (fun x=>x.i<=256) (fun x=>256 - x.i) ⟨0,none,0⟩ (Nat.zero_le _) (by (repeat ((conv=>whnf);refine vS ?_));exact trivial) ((Ref.ownNil 35 qi 1).trans (Ref.takes [3200,3201,3202,2,4,20,35] rfl (.keep rfl (fun _ h=>h) (.keep rfl (fun _ h=>h) (.keep rfl (fun _ h=>h) (.keep rfl (fun _ h=>h) (.keep rfl (fun _ h=>h) (.own rfl z1 (.refl _))))))))) ?_
 rintro ⟨i,la,lc⟩ hi
 dsimp only at hi ⊢
 have hll:=zuu t.us i
 have hcl:=zaK t.us i
 by_cases hlt:i<256
 ·have hid:(usL t.us).toArray.toList[((i:Nat):Int).toNat]?=some (.bool (t.us.getD i false)):=by
   rw [g7q]
   show (t.us.map Value.bool)[i]?=_
   rw [List.getElem?_map,g1q,g2q (by omega)];rfl
  have q0:((i:Nat):Int).toNat=i:=by omega
  have q1:((i:Nat):Int)%256=(i:Int):=Int.emod_eq_of_lt (by omega) (by omega)
  have hls:=zkh t.us i
  have hcs:=zsr (us:=t.us) hlt
  cases hu:t.us.getD i false
  ·rw [hu] at hid
   rw [if_neg (by rw [hu];decide)] at hls hcs
   (repeat' ((conv=>whnf);first|rw [q0]|rw [q1]|refine ⟨_,hid,?_⟩|refine ⟨.sl 35 _ _ _,⟨rfl,rfl,rfl,rfl⟩,?_⟩|refine zh ?_|((first|apply zc|apply za|apply zd)<;>intro h<;>try (exfalso;omega))|refine pay ?_|intro _));(all_goals (conv=>whnf))
   all_goals try (exfalso;omega)
   refine zi ⟨i+1,la,lc⟩ hlt (show 256 - (i+1)<256 - i by omega) (by dsimp only;rw [hls];(repeat ((conv=>whnf);refine vS ?_));exact trivial) ?_
   dsimp only
   rw [hls,hcs]
   exact Ref.takes [3200,3201,3202,2,4,20,35] rfl (.refl _)
  ·rw [hu] at hid
   rw [if_pos hu] at hls hcs
   have hb1:byL (xR t.us i)++[.int .u8 (i:Int)]=byL (xR t.us i++[i]):=by
    unfold byL;rw [List.map_append];exact za7
   have hsp:zv (zu .i64 (kC t.us i)) i [.int .i64 (((xR t.us i).length+1:Nat):Int)]=zu .i64 (kC t.us (i+1)):=by
    rw [uX (by omega),hcs,Int.natCast_succ]
   (repeat' ((conv=>whnf);first|rw [q0]|rw [q1]|rw [hb1]|rw [hsp]|refine ⟨_,hid,?_⟩|refine ⟨.sl 35 _ _ _,⟨rfl,rfl,rfl,rfl⟩,?_⟩|refine ⟨.sl 20 _ _ _,⟨rfl,rfl,rfl,rfl⟩,?_⟩|refine zh ?_|((first|apply zc|apply za|apply zd)<;>intro h<;>try (exfalso;omega))|refine pay ?_|refine And.intro (by first|exact ⟨by unfold maxLen;omega,by omega⟩|exact ⟨rfl,by rw [ints_length];omega⟩) ?_|intro _));(all_goals (conv=>whnf))
   all_goals try (exfalso;omega)
   rename_i a2 c2
   have hll2:(xR t.us i++[i]).length=(xR t.us i).length+1:=by simp
   refine zi ⟨i+1,a2,c2⟩ hlt (show 256 - (i+1)<256 - i by omega) (by dsimp only;rw [hls,hll2];(repeat ((conv=>whnf);refine vS ?_));exact trivial) ?_
   dsimp only
   rw [hls,hll2]
   exact Ref.takes [3200,3201,3202,2,4,20,35] rfl (.refl _)
 obtain rfl:i=256:=by omega
 rw [zsp] at hll ⊢
 obtain ⟨ls,hls⟩:∃ ls,vD t.us=ls:=⟨_,rfl⟩
 have hlsn:=zfp t.us
 have hl255:=zqt hT
 have hlit:zcZ t (vD t.us) (257 - 0) zfo 0=zah t:=rfl
 have hBI0:=BI.start t mx (vD t.us) hT
 have hfinal:=zlf hT
 have hen:=hT.en
 have hcap:=hT.cap
 have hlst:∀ b∈vD t.us,b<256:=fun b hb=>zuv hb
 rw [hls] at *
 (repeat' ((conv=>whnf);first|refine ⟨.sl 3202 _ _ _,⟨rfl,rfl,rfl,rfl⟩,?_⟩|refine zh ?_|((first|apply zc|apply za|apply zd)<;>intro h<;>try (exfalso;omega))|refine pay ?_|intro _));(all_goals (conv=>whnf))
 all_goals try (exfalso;omega)
 rename_i b49 b51 b53
 refine zw MlG (fun x=>[(0,.ptr 3200 bt 0),(2,.ptr 2 b2 0),(4,.ptr 4 b4 0),(5,.sl 35 la ls.length lc),(9,.sl 49 x.na x.s.nd.length x.nc),(10,.sl 51 x.fa x.s.nd.length x.fc),(11,.sl 53 x.ha x.i x.hc),(12,.v (.int .i64 x.i))])
  (fun x=>[.box 3200 bt (zfr t mb a c) yp,.mapE 3201 mb (.agg [.int .i64,.int .u8]) (chm t.ch),.own 3202 a t.en.length c zk 1 (enL t.en),.box 2 b2 [.int .i64 0,.slice none 0 0,.slice none 0 0,.slice none 0 0] zg,.box 4 b4 [.int .i64 0,.slice (some ⟨b20,0,none⟩) 256 256,.slice x.xa x.i x.xc,.slice x.ca x.i x.cc] zg,.own 20 (some ⟨b20,0,none⟩) 256 256 zk 1 (zu .i64 (kC t.us 256)),.own 35 la ls.length lc qi 1 (byL ls),.own 49 x.na x.s.nd.length x.nc zk 1 (enL x.s.nd),.own 51 x.fa x.s.nd.length x.fc zk 1 (enL x.s.fa),.own 53 x.ha x.i x.hc zk 1 (enL x.s.hi),.own 123 x.xa x.i x.xc qm 1 (x.nr.map RA.v),.own 152 x.ca x.i x.cc qe 1 (x.s.hi.map fun n=>.bool (decide (0<n))),frE 79 x.F])
  (fun x=>BI t mx ls x.s x.i/\zcZ t ls (257 - x.i) x.s x.i=zah t/\x.nr.map RA.xs=x.s.nx.map (fun r=>r.map Int.ofNat)/\∀ r∈x.nr,FIn x.F r.a (zu .i64 r.xs)) (fun x=>257 - x.i) ⟨0,zfo,[],[],_,_,_,_,_,_,none,0,none,0⟩ ⟨hBI0,hlit,rfl,fun r hr=>by simp at hr⟩ (by (repeat ((conv=>whnf);refine vS ?_));exact trivial)
  (((Ref.ownNil 123 qm 1).trans ((Ref.ownNil 152 qe 1).trans (Ref.freezeNew 79))).trans (Ref.takes [3200,3201,3202,2,4,20,35,49,51,53,123,152,79] rfl (.refl _))) ?_
 rintro ⟨i,s,nr,F,na,nc,fa,fc,ha,hc,xa,xc,ca,cc⟩ ⟨hI,hrun,hnr,hfr⟩
 dsimp only at hI hrun hnr hfr ⊢
 have hndl:=xj hI.nod hI.cap
 have hile:=hI.le
 have hrl:nr.length=i:=by
  have:=congrArg List.length hnr
  rw [g8q,g8q,hI.nxl] at this
  exact this
 have q0:((i:Nat):Int).toNat=i:=by omega
 by_cases hlt:i<s.nd.length
 case neg =>
  have hie:i=s.nd.length:=by omega
  have hsl:s=zah t:=by
   rw [←hrun]
   cases 257 - i with
   | zero=>rfl
   | succ f=>rw [zcZ,if_neg hlt]
  have hhl:=hI.hil
  (repeat' ((conv=>whnf);first|rw [q0]|refine zh ?_|((first|apply zc|apply za|apply zd)<;>intro h<;>try (exfalso;omega))|refine pay ?_|intro _));(all_goals (conv=>whnf))
  all_goals try (exfalso;omega)
  have hht:xA t=s.hi.map Int.ofNat:=by unfold xA;rw [←hsl]
  have hhn:(xA t).length=i:=by rw [hht,g8q,hhl]
  refine ⟨⟨_,(Ref.takes [20,79,123,152,53] rfl (.refl _)).trans (Ref.freezeRow.trans ((Ref.takes [123,79,152,53] rfl (.refl _)).trans (Ref.freezeRow.trans ((Ref.takes [152,79,53] rfl (.refl _)).trans Ref.freezeRow)))),
   ⟨0,kC t.us 256,some ⟨b20,0,none⟩,256,nr,xa,xc,s.hi.map fun n=>decide (0<n),ca,cc⟩,⟨ca,i,cc,s.hi.map fun n=>.bool (decide (0<n))⟩::⟨xa,i,xc,nr.map RA.v⟩::⟨some ⟨b20,0,none⟩,256,256,zu .i64 (kC t.us 256)⟩::F,ha,hc,?_,?_,⟨FIn.head.tail.tail,FIn.head.tail,?_,fun r hr=>(hfr r hr).tail.tail.tail⟩,?_⟩⟩
  ·rw [hhn]
   unfold MA.v MA.cells
   dsimp only
   rw [hcl,hrl,g8q,hhl];rfl
  ·unfold MA.m kY
   dsimp only
   rw [hnr,←hsl]
  ·rw [List.map_map];exact FIn.head
  ·rw [hhn,hht];rfl
 have hn1:Go.EG.intOf (atL (enL s.nd) i)=((s.nd.getD i 0:Nat):Int):=by
  unfold enL
  rw [vN (by simpa using hlt),g1q,List.getElem?_map,g1q,g2q hlt];rfl
 have kn1:isK (.int .i64) (enL s.nd) i:=kj (by simpa using hlt)
 have hndn:=hI.cap _ (zZ (d:=0) hlt)
 have hz67:(List.replicate (ls.length+1) [Value.int .i64 0]).flatten=enL (List.replicate (ls.length+1) 0):=by
  rw [zaa];unfold enL;rw [List.map_replicate];rfl
 obtain ⟨r0l,r0v⟩:=zqq hI hlt
 have q1:((ls.length:Int)+1).toNat=ls.length+1:=by omega
 (repeat' ((conv=>whnf);first|rw [q0]|rw [q1]|rw [Nat.mul_one]|rw [hn1]|refine ⟨.sl 49 _ _ _,⟨rfl,rfl,rfl,rfl⟩,?_⟩|refine zh ?_|((first|apply zc|apply za|apply zd)<;>intro h<;>try (exfalso;omega))|refine pay ?_|refine And.intro (by first|exact kn1) ?_|intro _));(all_goals (conv=>whnf))
 all_goals try (exfalso;omega)
 rename_i b67
 obtain ⟨row,hrow⟩:∃ row,zfn ls s i=row:=⟨_,rfl⟩
 rw [hrow] at r0l r0v
 refine zcu Unit (fun _=>[(0,.ptr 3200 bt 0),(2,.ptr 2 b2 0),(4,.ptr 4 b4 0),(5,.sl 35 la ls.length lc),(9,.sl 49 na s.nd.length nc),(10,.sl 51 fa s.nd.length fc),(11,.sl 53 ha i hc),(12,.v (.int .i64 i)),(13,.v (.int .i64 (s.nd.getD i 0:Nat))),(14,.sl 67 (some ⟨b67,0,none⟩) (ls.length+1) (ls.length+1))])
  (fun _=>[.box 3200 bt (zfr t mb a c) yp,.mapE 3201 mb (.agg [.int .i64,.int .u8]) (chm t.ch),.own 3202 a t.en.length c zk 1 (enL t.en),.box 2 b2 [.int .i64 0,.slice none 0 0,.slice none 0 0,.slice none 0 0] zg,.box 4 b4 [.int .i64 0,.slice (some ⟨b20,0,none⟩) 256 256,.slice xa i xc,.slice ca i cc] zg,.own 20 (some ⟨b20,0,none⟩) 256 256 zk 1 (zu .i64 (kC t.us 256)),.own 35 la ls.length lc qi 1 (byL ls),.own 49 na s.nd.length nc zk 1 (enL s.nd),.own 51 fa s.nd.length fc zk 1 (enL s.fa),.own 53 ha i hc zk 1 (enL s.hi),.own 123 xa i xc qm 1 (nr.map RA.v),.own 152 ca i cc qe 1 (s.hi.map fun n=>.bool (decide (0<n))),frE 79 F,.own 67 (some ⟨b67,0,none⟩) (ls.length+1) (ls.length+1) zk 1 (enL row)])
  (fun _=>True) ?_ ?_
 ·by_cases h0:i=0
  ·have hr0:row=List.replicate (ls.length+1) 0:=by rw [←hrow];exact if_pos h0
   (repeat' ((conv=>whnf);first|refine zh ?_|((first|apply zc|apply za|apply zd)<;>intro h<;>try (exfalso;omega))|refine pay ?_|intro _));(all_goals (conv=>whnf))
   all_goals try (exfalso;omega)
   exact xJ () trivial (by (repeat ((conv=>whnf);refine vS ?_));exact trivial) (Ref.takes [3200,3201,3202,2,4,20,35,49,51,53,123,152,79,67] rfl (.keep rfl (fun _ h=>h) (.keep rfl (fun _ h=>h) (.keep rfl (fun _ h=>h) (.keep rfl (fun _ h=>h) (.keep rfl (fun _ h=>h) (.keep rfl (fun _ h=>h) (.keep rfl (fun _ h=>h) (.keep rfl (fun _ h=>h) (.keep rfl (fun _ h=>h) (.keep rfl (fun _ h=>h) (.keep rfl (fun _ h=>h) (.keep rfl (fun _ h=>h) (.keep rfl (fun _ h=>h) (.own (by omega) (by rw [hr0];exact hz67) (.nil _))))))))))))))))
  ·have hfi:=hI.fi i (by omega) hlt
   have hfl:=hI.fal
   have hr0:row=s.nx.getD (s.fa.getD i 0) []:=by rw [←hrow];exact if_neg h0
   have hn2:Go.EG.intOf (atL (enL s.fa) i)=((s.fa.getD i 0:Nat):Int):=by
    unfold enL
    rw [vN (by simp;omega),g1q,List.getElem?_map,g1q,g2q (by omega)];rfl
   have kn2:isK (.int .i64) (enL s.fa) i:=kj (by simp;omega)
   obtain ⟨f,hf⟩:∃ f,s.fa.getD i 0=f:=⟨_,rfl⟩
   rw [hf] at hfi hr0 hn2
   have q2:((f:Nat):Int).toNat=f:=by omega
   obtain ⟨ra,hra⟩:∃ ra,nr[f]?=some ra:=⟨_,g2q (by omega)⟩
   have hrx:ra.xs=row.map Int.ofNat:=by
    have e1:(nr.map RA.xs)[f]?=some ra.xs:=by rw [List.getElem?_map,hra];rfl
    rw [hnr,List.getElem?_map] at e1
    rw [hr0,g1q]
    cases hx:s.nx[f]? with
    | none=>rw [hx] at e1;cases e1
    | some z=>rw [hx] at e1;exact (Option.some.inj e1).symm
   have hfn:=hfr ra (List.mem_of_getElem? hra)
   have hat:atL (nr.map RA.v) f=RA.v ra:=by
    unfold atL;rw [List.getElem?_map,hra];rfl
   have kn3:isK .slc (nr.map RA.v) f:=by unfold isK;rw [hat,List.getElem?_map,hra];rfl
   have hrxl:ra.xs.length=ls.length+1:=by rw [hrx,g8q];exact r0l
   have hspl:zv (List.replicate (ls.length+1) [Value.int .i64 0]).flatten 0 (zu .i64 ra.xs)=enL row:=by
    rw [hz67]
    unfold zv
    rw [List.take_zero,List.nil_append,List.drop_of_length_le (by rw [qW,ints_length,List.length_replicate];omega),List.append_nil,hrx];rfl
   have hone:=zes (k:=.i64) ra.xs
   have hsle:zmV ra.v<=ls.length+1:=by show ra.xs.length<=_;omega
   have hspo:0<zmV ra.v:=by show 0<ra.xs.length;omega
   (repeat' ((conv=>whnf);first|rw [q0]|rw [q2]|rw [Nat.mul_one]|rw [hn2]|rw [hat]|rw [hspl]|refine ⟨_,FIn.rds (key:=79) rfl hfn ints_length.symm,?_⟩|refine ⟨.sl 123 _ _ _,⟨rfl,rfl,rfl,rfl⟩,?_⟩|refine zh ?_|((first|apply zc|apply za|apply zd)<;>intro h<;>try (exfalso;omega))|refine pay ?_|refine And.intro (by first|exact kn2|exact kn3|exact ⟨rfl,rfl,rfl,rfl,hsle,hspo⟩) ?_|intro _));(all_goals (conv=>whnf))
   all_goals try (exfalso;omega)
   exact xJ () trivial (by (repeat ((conv=>whnf);refine vS ?_));exact trivial) (Ref.takes [3200,3201,3202,2,4,20,35,49,51,53,123,152,79,67] rfl (.refl _))
 rintro ⟨⟩ -
 (repeat' ((conv=>whnf);first|refine zh ?_|((first|apply zc|apply za|apply zd)<;>intro h<;>try (exfalso;omega))|refine pay ?_|intro _));(all_goals (conv=>whnf))
 all_goals try (exfalso;omega)
 obtain ⟨n,hn⟩:∃ n,s.nd.getD i 0=n:=⟨_,rfl⟩
 rw [hn] at hn1 hndn ⊢
 have hndl2:s.nd.length<=256:=by omega
 have hfal:=hI.fal
 refine zw LeG (fun x=>[(82,.v (.int .i64 x.k)),(81,.v (.int .i64 ls.length)),(80,.sl 35 la ls.length lc),(0,.ptr 3200 bt 0),(2,.ptr 2 b2 0),(4,.ptr 4 b4 0),(5,.sl 35 la ls.length lc),(9,.sl 49 x.na x.nd.length x.nc),(10,.sl 51 x.fb x.nd.length x.fc),(11,.sl 53 ha i hc),(12,.v (.int .i64 i)),(13,.v (.int .i64 n)),(14,.sl 67 (some ⟨b67,0,none⟩) (ls.length+1) (ls.length+1))])
  (fun x=>[.box 3200 bt (zfr t mb a c) yp,.mapE 3201 mb (.agg [.int .i64,.int .u8]) (chm t.ch),.own 3202 a t.en.length c zk 1 (enL t.en),.box 2 b2 [.int .i64 0,.slice none 0 0,.slice none 0 0,.slice none 0 0] zg,.box 4 b4 [.int .i64 0,.slice (some ⟨b20,0,none⟩) 256 256,.slice xa i xc,.slice ca i cc] zg,.own 20 (some ⟨b20,0,none⟩) 256 256 zk 1 (zu .i64 (kC t.us 256)),.own 35 la ls.length lc qi 1 (byL ls),.own 49 x.na x.nd.length x.nc zk 1 (enL x.nd),.own 51 x.fb x.nd.length x.fc zk 1 (enL x.fa),.own 53 ha i hc zk 1 (enL s.hi),.own 123 xa i xc qm 1 (nr.map RA.v),.own 152 ca i cc qe 1 (s.hi.map fun n=>.bool (decide (0<n))),frE 79 F,.own 67 (some ⟨b67,0,none⟩) (ls.length+1) (ls.length+1) zk 1 (enL x.row)])
  (fun x=>x.k<=ls.length/\inB t n (ls.drop x.k) x.k x.nd x.fa x.row=inB t n ls 0 s.nd s.fa row/\x.fa.length=x.nd.length/\x.row.length=ls.length+1/\x.nd.length<=s.nd.length+x.k/\∃ z,x.fa=s.fa++z) (fun x=>ls.length - x.k) ⟨0,s.nd,s.fa,row,na,nc,fa,fc⟩ ⟨Nat.zero_le _,rfl,hI.fal,r0l,Nat.le_refl _,[],(List.append_nil _).symm⟩ (by (repeat ((conv=>whnf);refine vS ?_));exact trivial)
  (Ref.takes [3200,3201,3202,2,4,20,35,49,51,53,123,152,79,67] rfl (.refl _)) ?_
 rintro ⟨k,nd,fb,row1,na,nc,fba,fc⟩ ⟨hk,hin,hfl1,hrl1,hnl1,z,hz⟩
 dsimp only at hk hin hfl1 hrl1 hnl1 hz ⊢
 by_cases hkl:k<ls.length
 ·obtain ⟨b,hb⟩:∃ b,ls[k]?=some b:=⟨_,g2q hkl⟩
  have hb2:b<256:=hlst b (List.mem_of_getElem? hb)
  have hdr:ls.drop k=b::ls.drop (k+1):=by
   obtain ⟨h1,h2⟩:=List.getElem?_eq_some_iff.1 hb
   rw [←h2];exact (List.getElem_cons_drop h1).symm
  rw [hdr,inB] at hin
  have hbi:=zwv hb
  have kb:isK (.int .u8) (byL ls) k:=kj (by simpa using hkl)
  have q1:((k:Nat):Int).toNat=k:=by omega
  have hg:=zlg (ch:=t.ch) (n:=n) (b:=b)
  have hkk:=zoB n b
  cases hc1:cl t.ch n b with
  | none =>
    rw [hc1,Option.map_none] at hg
    rw [hc1] at hin
    (repeat' ((conv=>whnf);first|rw [q1]|rw [hbi]|refine jO hg ?_|refine ⟨.mp 3201 _,⟨rfl,rfl⟩,?_⟩|refine ⟨.sl 35 _ _ _,⟨rfl,rfl,rfl,rfl⟩,?_⟩|refine zh ?_|((first|apply zc|apply za|apply zd)<;>intro h<;>try (exfalso;omega))|refine pay ?_|refine And.intro (by first|exact kb|exact ⟨rfl,rfl,hkk⟩) ?_|intro _));(all_goals (conv=>whnf))
    all_goals try (exfalso;omega)
    exact zi ⟨k+1,nd,fb,row1,na,nc,fba,fc⟩ ⟨hkl,hin,hfl1,hrl1,by dsimp only;omega,z,hz⟩ (show ls.length - (k+1)<ls.length - k by omega) (by (repeat ((conv=>whnf);refine vS ?_));exact trivial) (Ref.takes [3200,3201,3202,2,4,20,35,49,51,53,123,152,79,67] rfl (.refl _))
  | some d =>
    rw [hc1,Option.map_some] at hg
    rw [hc1] at hin
    dsimp only at hin
    have q2:((k:Int)+1).toNat=k+1:=by omega
    have hk1:k+1<row1.length:=by omega
    have hra:=uj hk1
    have kr:isK (.int .i64) (enL row1) (k+1):=kj (by simpa using hk1)
    have e1:=uL (l:=nd) (x:=d)
    have e2:=uL (l:=fb) (x:=row1.getD (k+1) 0)
    have e3:zv (enL row1) (k+1) [.int .i64 (((nd.length+1:Nat):Int) - 1)]=enL (row1.set (k+1) nd.length):=by
     rw [show ((nd.length+1:Nat):Int) - 1=(nd.length:Int) by omega]
     exact qJ hk1
    have h4:k+1+1<=(enL row1).length:=by rw [qW];exact hk1
    (repeat' ((conv=>whnf);first|rw [q1]|rw [q2]|rw [hbi]|rw [hra]|rw [e1]|rw [e2]|rw [e3]|refine zau hg ?_|refine ⟨.mp 3201 _,⟨rfl,rfl⟩,?_⟩|refine ⟨.sl 35 _ _ _,⟨rfl,rfl,rfl,rfl⟩,?_⟩|refine ⟨.sl 49 _ _ _,⟨rfl,rfl,rfl,rfl⟩,?_⟩|refine ⟨.sl 51 _ _ _,⟨rfl,rfl,rfl,rfl⟩,?_⟩|refine ⟨.sl 67 _ _ _,⟨rfl,rfl,rfl,rfl⟩,?_⟩|refine zh ?_|((first|apply zc|apply za|apply zd)<;>intro h<;>try (exfalso;omega))|refine pay ?_|refine And.intro (by first|exact kb|exact kr|exact ⟨rfl,rfl,hkk⟩|exact ⟨by unfold maxLen;omega,by omega⟩|exact ⟨rfl,h4⟩) ?_|intro _));(all_goals (conv=>whnf))
    all_goals try (exfalso;omega)
    rename_i a2 c2 _ a3 c3
    have l1:(nd++[d]).length=nd.length+1:=by simp
    refine zi ⟨k+1,nd++[d],fb++[row1.getD (k+1) 0],row1.set (k+1) nd.length,a2,c2,a3,c3⟩ ⟨hkl,hin,by simp [hfl1],by simp [hrl1],by dsimp only;omega,z++[row1.getD (k+1) 0],by dsimp only;rw [hz,List.append_assoc]⟩ (show ls.length - (k+1)<ls.length - k by omega) (by dsimp only;rw [l1];(repeat ((conv=>whnf);refine vS ?_));exact trivial) ?_
    dsimp only
    rw [l1]
    exact Ref.takes [3200,3201,3202,2,4,20,35,49,51,53,123,152,79,67] rfl (.refl _)
 ·have hkq:k=ls.length:=by omega
  rw [hkq,List.drop_length,inB] at hin
  have hsb:zhl t ls s i=⟨nd,fb,s.hi++[zd2 t s i],s.nx++[row1]⟩:=by
   unfold zhl
   rw [hn,hrow,←hin]
  have hfg:fb.getD i 0=s.fa.getD i 0:=by
   rw [hz,g1q,List.getElem?_append_left (by omega),←g1q]
  have hfbl:i<fb.length:=by rw [hz,g6q];omega
  have hcn:=zqr hT hI hlt
  have hcn2:zd2 t s i<=4096*257:=Nat.le_trans hcn (Nat.le_trans (Nat.mul_le_mul_right _ hm4) (Nat.mul_le_mul_left _ (by omega)))
  have hBn:=zoy hT hlsn hI hlt
  rw [hsb] at hBn
  have hen1:=uj (l:=t.en) hndn
  have ken:isK (.int .i64) (enL t.en) n:=kj (by simpa using hndn)
  have q3:((n:Nat):Int).toNat=n:=by omega
  have hen2:t.en.getD n 0<=mx:=hT.mx _ (zZ hndn)
  have hrn:zcZ t ls (257 - i) s i=zcZ t ls (257 - (i+1)) ⟨nd,fb,s.hi++[zd2 t s i],s.nx++[row1]⟩ (i+1):=by
   rw [show 257 - i=(257 - (i+1))+1 by omega,zcZ,if_pos hlt,hsb]
  rw [hrn] at hrun
  have hnv:nr.map RA.v++[Value.slice (some ⟨b67,0,none⟩) (ls.length+1) (ls.length+1)]=(nr++[(⟨row1.map Int.ofNat,some ⟨b67,0,none⟩,ls.length+1⟩:RA)]).map RA.v:=by
   rw [List.map_append,List.map_singleton]
   unfold RA.v
   rw [g8q,hrl1]
  (repeat' ((conv=>whnf);first|rw [q3]|rw [hen1]|rw [hnv]|refine ⟨.sl 123 _ _ _,⟨rfl,rfl,rfl,rfl⟩,?_⟩|refine ⟨.sl 67 _ _ _,⟨rfl,rfl,rfl,rfl⟩,?_⟩|refine ⟨.sl 3202 _ _ _,⟨rfl,rfl,rfl,rfl⟩,?_⟩|refine zh ?_|((first|apply zc|apply za|apply zd)<;>intro h<;>try (exfalso;omega))|refine pay ?_|refine And.intro (by first|exact ken|exact ⟨by unfold maxLen;omega,by omega⟩) ?_|intro _));(all_goals (conv=>whnf))
  all_goals try (exfalso;omega)
  rename_i a123 c123
  obtain ⟨cn,hcne⟩:∃ cn,zd2 t s i=cn:=⟨_,rfl⟩
  rw [hcne] at hcn2 hBn hrun
  obtain ⟨nr',hnr'⟩:∃ nr',nr++[(⟨row1.map Int.ofNat,some ⟨b67,0,none⟩,ls.length+1⟩:RA)]=nr':=⟨_,rfl⟩
  rw [hnr'] at hnv ⊢
  refine zcu Unit (fun _=>[(0,.ptr 3200 bt 0),(2,.ptr 2 b2 0),(4,.ptr 4 b4 0),(5,.sl 35 la ls.length lc),(9,.sl 49 na nd.length nc),(10,.sl 51 fba nd.length fc),(11,.sl 53 ha i hc),(12,.v (.int .i64 i)),(19,.v (.int .i64 cn))])
   (fun _=>[.box 3200 bt (zfr t mb a c) yp,.mapE 3201 mb (.agg [.int .i64,.int .u8]) (chm t.ch),.own 3202 a t.en.length c zk 1 (enL t.en),.box 2 b2 [.int .i64 0,.slice none 0 0,.slice none 0 0,.slice none 0 0] zg,.box 4 b4 [.int .i64 0,.slice (some ⟨b20,0,none⟩) 256 256,.slice a123 (i+1) c123,.slice ca i cc] zg,.own 20 (some ⟨b20,0,none⟩) 256 256 zk 1 (zu .i64 (kC t.us 256)),.own 35 la ls.length lc qi 1 (byL ls),.own 49 na nd.length nc zk 1 (enL nd),.own 51 fba nd.length fc zk 1 (enL fb),.own 53 ha i hc zk 1 (enL s.hi),.own 123 a123 (i+1) c123 qm 1 (nr'.map RA.v),.own 152 ca i cc qe 1 (s.hi.map fun n=>.bool (decide (0<n))),frE 79 F,.own 67 (some ⟨b67,0,none⟩) (ls.length+1) (ls.length+1) zk 1 (enL row1)])
   (fun _=>True) ?_ ?_
  ·by_cases h0:i=0
   ·have hc0:t.en.getD n 0=cn:=by rw [←hcne];unfold zd2;rw [hn,if_pos h0];rfl
    rw [hc0]
    (repeat' ((conv=>whnf);first|refine zh ?_|((first|apply zc|apply za|apply zd)<;>intro h<;>try (exfalso;omega))|refine pay ?_|intro _));(all_goals (conv=>whnf))
    all_goals try (exfalso;omega)
    exact xJ () trivial (by (repeat ((conv=>whnf);refine vS ?_));exact trivial) (Ref.takes [3200,3201,3202,2,4,20,35,49,51,53,123,152,79,67] rfl (.refl _))
   ·have hfi:=hI.fi i (by omega) hlt
    have hhl:=hI.hil
    obtain ⟨f,hf⟩:∃ f,s.fa.getD i 0=f:=⟨_,rfl⟩
    have hc0:t.en.getD n 0+s.hi.getD f 0=cn:=by rw [←hcne];unfold zd2;rw [hn,if_neg h0,hf]
    have hf1:=uj hfbl
    rw [hfg,hf] at hf1
    rw [hf] at hfi
    have hf2:=uj (l:=s.hi) (j:=f) (by omega)
    have kf1:isK (.int .i64) (enL fb) i:=kj (by simpa using hfbl)
    have kf2:isK (.int .i64) (enL s.hi) f:=kj (by simp;omega)
    have q4:((f:Nat):Int).toNat=f:=by omega
    have q5:((t.en.getD n 0:Nat):Int)+((s.hi.getD f 0:Nat):Int)=(cn:Int):=by omega
    (repeat' ((conv=>whnf);first|rw [q0]|rw [q4]|rw [hf1]|rw [hf2]|rw [q5]|refine ⟨.sl 53 _ _ _,⟨rfl,rfl,rfl,rfl⟩,?_⟩|refine ⟨.sl 51 _ _ _,⟨rfl,rfl,rfl,rfl⟩,?_⟩|refine zh ?_|((first|apply zc|apply za|apply zd)<;>intro h<;>try (exfalso;omega))|refine pay ?_|refine And.intro (by first|exact kf1|exact kf2) ?_|intro _));(all_goals (conv=>whnf))
    all_goals try (exfalso;omega)
    exact xJ () trivial (by (repeat ((conv=>whnf);refine vS ?_));exact trivial) (Ref.takes [3200,3201,3202,2,4,20,35,49,51,53,123,152,79,67] rfl (.refl _))
  ·rintro ⟨⟩ -
   have e5:=uL (l:=s.hi) (x:=cn)
   have e6:(s.hi.map fun n=>Value.bool (decide (0<n)))++[.bool (decide ((0:Int)<(cn:Int)))]=((s.hi++[cn]).map fun n=>Value.bool (decide (0<n))):=by
    rw [List.map_append,show decide ((0:Int)<(cn:Int))=decide (0<cn) from decide_eq_decide.2 (by omega)];rfl
   (repeat' ((conv=>whnf);first|rw [e5]|rw [e6]|refine ⟨.sl 53 _ _ _,⟨rfl,rfl,rfl,rfl⟩,?_⟩|refine ⟨.sl 152 _ _ _,⟨rfl,rfl,rfl,rfl⟩,?_⟩|refine zh ?_|((first|apply zc|apply za|apply zd)<;>intro h<;>try (exfalso;omega))|refine pay ?_|refine And.intro (by first|exact ⟨by unfold maxLen;omega,by omega⟩) ?_|intro _));(all_goals (conv=>whnf))
   all_goals try (exfalso;omega)
   rename_i a5 c5 _ a6 c6
   refine zi ⟨i+1,⟨nd,fb,s.hi++[cn],s.nx++[row1]⟩,nr',⟨some ⟨b67,0,none⟩,ls.length+1,ls.length+1,enL row1⟩::F,na,nc,fba,fc,a5,c5,a123,c123,a6,c6⟩ ⟨hBn,hrun,?_,?_⟩ (show 257 - (i+1)<257 - i by omega) (by (repeat ((conv=>whnf);refine vS ?_));exact trivial) ?_
   ·dsimp only
    rw [←hnr',List.map_append,List.map_append,hnr];rfl
   ·intro r hr
    rw [←hnr'] at hr
    rcases List.mem_append.1 hr with hr|hr
    ·exact (hfr r hr).tail
    ·rw [List.mem_singleton] at hr
     subst hr
     exact FIn.head
   ·dsimp only
    exact (Ref.takes [67,79,3200,3201,3202,2,4,20,35,49,51,53,123,152] rfl (.refl _)).trans (Ref.freezeRow.trans (Ref.takes [3200,3201,3202,2,4,20,35,49,51,53,123,152,79] rfl (.refl _)))
structure PA where
 xs:List Nat
 a:Option Addr
 c:Nat
abbrev PA.v (r:PA):Value:=.slice r.a r.xs.length r.c
structure PIn (w:World) (fp:List Nat) (ps:List PA) (pa:Option Addr):Prop where
 row:In w fp pa (ps.map PA.v)
 pat:∀ p∈ps,In w fp p.a (byL p.xs)
 len:∀ p∈ps,p.xs.length<=9223372036854775807
 byt:∀ p∈ps,∀ x∈p.xs,x<256
def zx9 (ps:List (List Nat)):Prop:=ps=[]∨[]∈ps∨ui ps zgI=none
def zya (ps:List (List Nat)) (v:Value) (L1:List Ent):Prop :=
 (zx9 ps/\L1=[]/\∃ n,v=.tuple #[.agg #[.int .i64 0,.slice none 0 0,.slice none 0 0,.slice none 0 0],.slice none 0 0,yg n]) ∨
 (∃ t y F aH cH,ui ps zgI=some t/\v=.tuple #[MA.v y,.slice aH (xA t).length cH,.nilIface]/\y.m=kY t/\MFz F y/\L1=[frE 79 F,.own 53 aH (xA t).length cH zk 1 (zu .i64 (xA t))])
structure OfG where
 i:Nat
 t:Tri
 a:Option Addr
 c:Nat
theorem zpJ (ps:List PA) (hl:ps.length<=4096) (pa:Option Addr) (pc:Nat) (w:World) (hin:PIn w [] ps pa) :
 Calls Tryz.prog js #[.slice pa ps.length pc] w fun e w'=>∃ v L1,e=.returned v/\R w [] L1 w'/\zya (ps.map PA.xs) v L1:=by
 refine zQ [.v (.slice pa ps.length pc)] zmC (by simp) ?_
 obtain ⟨h1,h2,h3,h4⟩:=hin
 by_cases h0:ps.length=0
 ·(repeat' ((conv=>whnf);first|refine zh ?_|((first|apply zc|apply za|apply zd)<;>intro h<;>try (exfalso;omega))|refine pay ?_|intro _));(all_goals (conv=>whnf))
  all_goals try (exfalso;omega)
  exact ⟨⟨[],Ref.takes [] rfl (.nil _),.inl ⟨.inl (by rw [List.length_eq_zero_iff.1 h0];rfl),rfl,4,rfl⟩⟩⟩
 ·(repeat' ((conv=>whnf);first|refine zh ?_|((first|apply zc|apply za|apply zd)<;>intro h<;>try (exfalso;omega))|refine pay ?_|intro _));(all_goals (conv=>whnf))
  all_goals try (exfalso;omega)
  rename_i b2
  refine zw Nat (fun i=>[(0,.v (.slice pa ps.length pc)),(2,.ptr 2 b2 0),(3,.v (.slice none 0 0)),(4,.v .nilIface),(17,.v (.slice pa ps.length pc)),(18,.v (.int .i64 ps.length)),(19,.v (.int .i64 i))])
   (fun _=>[.box 2 b2 [.int .i64 0,.slice none 0 0,.slice none 0 0,.slice none 0 0] zg])
   (fun i=>i<=ps.length) (fun i=>ps.length - i) 0 (Nat.zero_le _) (by (repeat ((conv=>whnf);refine vS ?_));exact trivial) (Ref.takes [2] rfl (.refl _)) ?_
  rintro i hi
  by_cases hlt:i<ps.length
  ·obtain ⟨r,hr⟩:∃ r,ps[i]?=some r:=⟨_,g2q hlt⟩
   have hmem:r∈ps:=List.mem_of_getElem? hr
   have rdr:=fun {L:List Ent}=>h1.rd (L:=L) (k:=i) (v:=r.v) (by rw [List.getElem?_map,hr];rfl)
   have n1:pa≠none:=h1.ne' (k:=i) (by rw [g8q];exact hlt)
   have hrl:=h3 r hmem
   have q0:((i:Nat):Int).toNat=i:=by omega
   by_cases hz:r.xs.length=0
   ·(repeat' ((conv=>whnf);first|rw [q0]|refine ⟨_,_,_,rdr,?_⟩|refine zh ?_|((first|apply zc|apply za|apply zd)<;>intro h<;>try (exfalso;omega))|refine pay ?_|intro _));(all_goals (conv=>whnf))
    all_goals try (exfalso;omega)
    exact ⟨⟨[],Ref.takes [] rfl (.nil _),.inl ⟨.inr (.inl (List.mem_map.2 ⟨r,hmem,List.length_eq_zero_iff.1 hz⟩)),rfl,4,rfl⟩⟩⟩
   ·(repeat' ((conv=>whnf);first|rw [q0]|refine ⟨_,_,_,rdr,?_⟩|refine zh ?_|((first|apply zc|apply za|apply zd)<;>intro h<;>try (exfalso;omega))|refine pay ?_|intro _));(all_goals (conv=>whnf))
    all_goals try (exfalso;omega)
    exact zi (i+1) hlt (by omega) (by (repeat ((conv=>whnf);refine vS ?_));exact trivial) (Ref.takes [2] rfl (.refl _))
  ·(repeat' ((conv=>whnf);first|refine zh ?_|((first|apply zc|apply za|apply zd)<;>intro h<;>try (exfalso;omega))|refine pay ?_|intro _));(all_goals (conv=>whnf))
   all_goals try (exfalso;omega)
   rename_i mb b30 bt
   refine zw OfG (fun x=>[(0,.v (.slice pa ps.length pc)),(2,.ptr 2 b2 0),(3,.v (.slice none 0 0)),(4,.v .nilIface),(7,.ptr 3200 bt 0),(33,.v (.slice pa ps.length pc)),(34,.v (.int .i64 ps.length)),(35,.v (.int .i64 x.i))])
    (fun x=>[.box 3200 bt (zfr x.t mb x.a x.c) yp,.mapE 3201 mb (.agg [.int .i64,.int .u8]) (chm x.t.ch),.own 3202 x.a x.t.en.length x.c zk 1 (enL x.t.en),.box 2 b2 [.int .i64 0,.slice none 0 0,.slice none 0 0,.slice none 0 0] zg])
    (fun x=>x.i<=ps.length/\TI x.t x.i/\ui ((ps.map PA.xs).drop x.i) x.t=ui (ps.map PA.xs) zgI) (fun x=>ps.length - x.i) ⟨0,zgI,some ⟨b30,0,none⟩,1⟩ ⟨Nat.zero_le _,TI.start,rfl⟩ (by (repeat ((conv=>whnf);refine vS ?_));exact trivial)
    (Ref.takes [32,29,30,2] rfl (.keep rfl (fun _ h=>h) (.keep rfl (fun _ h=>h) (.keep rfl (fun _ h=>h) (.refl _))))) ?_
   rintro ⟨i,t,a,c⟩ ⟨hi,hT,he⟩
   dsimp only at hi hT he ⊢
   by_cases hlt:i<ps.length
   ·obtain ⟨r,hr⟩:∃ r,ps[i]?=some r:=⟨_,g2q hlt⟩
    have hmem:r∈ps:=List.mem_of_getElem? hr
    have rdr:=fun {L:List Ent}=>h1.rd (L:=L) (k:=i) (v:=r.v) (by rw [List.getElem?_map,hr];rfl)
    have n1:pa≠none:=h1.ne' (k:=i) (by rw [g8q];exact hlt)
    have hrl:=h3 r hmem
    have q0:((i:Nat):Int).toNat=i:=by omega
    have hdr:(ps.map PA.xs).drop i=r.xs::(ps.map PA.xs).drop (i+1):=by
     have hx:(ps.map PA.xs)[i]?=some r.xs:=by rw [List.getElem?_map,hr];rfl
     obtain ⟨e1,e2⟩:=List.getElem?_eq_some_iff.1 hx
     rw [←e2];exact (List.getElem_cons_drop e1).symm
    rw [hdr,ui] at he
    have c1:=fun (fp:List Nat) (w':World) hR hI=>zrs (mx:=4096) bt mb t (hT.mono (by omega)) (Nat.le_refl _) a c r.xs (h4 r hmem) hrl r.a r.c fp w' hR hI
    have hpat:=h2 r hmem
    cases hp:zfm t r.xs with
    | none =>
      rw [hp] at he c1
      (repeat' ((conv=>whnf);first|rw [q0]|refine ⟨_,_,_,rdr,?_⟩|(refine zD [3200,3201,3202] rfl (fun w' hR hR0=>c1 _ w' hR0 (hpat.castL hR)) ?_;rintro _ _ ⟨rfl,rfl⟩;refine ⟨.v _,rfl,?_⟩)|refine zh ?_|((first|apply zc|apply za|apply zd)<;>intro h<;>try (exfalso;omega))|refine pay ?_|intro _));(all_goals (conv=>whnf))
      all_goals try (exfalso;omega)
      exact ⟨⟨[],Ref.takes [] rfl (.nil _),.inl ⟨.inr (.inr he.symm),rfl,9,rfl⟩⟩⟩
    | some t' =>
      rw [hp] at he c1
      (repeat' ((conv=>whnf);first|rw [q0]|refine ⟨_,_,_,rdr,?_⟩|(refine zD [3200,3201,3202] rfl (fun w' hR hR0=>c1 _ w' hR0 (hpat.castL hR)) ?_;rintro _ _ ⟨a',c',rfl,rfl⟩;refine ⟨.v _,rfl,?_⟩)|refine zh ?_|((first|apply zc|apply za|apply zd)<;>intro h<;>try (exfalso;omega))|refine pay ?_|intro _));(all_goals (conv=>whnf))
      all_goals try (exfalso;omega)
      exact zi ⟨i+1,t',_,_⟩ ⟨hlt,zqp hT hp,he⟩ (show ps.length - (i+1)<ps.length - i by omega) (by (repeat ((conv=>whnf);refine vS ?_));exact trivial) (Ref.takes [3200,3201,3202,2] rfl (.refl _))
   ·obtain rfl:i=ps.length:=by omega
    rw [List.drop_of_length_le (by rw [g8q];exact Nat.le_refl _),ui] at he
    have c2:=fun (fp:List Nat) (w':World) hR=>zpI (mx:=4096) bt mb t (hT.mono hl) (Nat.le_refl _) a c fp w' hR
    (repeat' ((conv=>whnf);first|(refine zD [3200,3201,3202] rfl (fun w' hR hR0=>c2 _ w' hR0) ?_;rintro _ _ ⟨y,F,aH,cH,rfl,hy,hF,rfl⟩;refine ⟨.v _,rfl,?_⟩)|refine zh ?_|((first|apply zc|apply za|apply zd)<;>intro h<;>try (exfalso;omega))|refine pay ?_|intro _));(all_goals (conv=>whnf))
    all_goals try (exfalso;omega)
    exact ⟨⟨_,Ref.takes [79,53] rfl (.refl _),.inr ⟨t,y,F,aH,cH,he.symm,rfl,hy,hF,rfl⟩⟩⟩
def vU (S:Sto) (i:Int):Prop:=1<=i/\i<=S.E.length
theorem zoC {S:Sto} (hw:WF S):Clo S (vU S):=by
 intro i h
 obtain ⟨ho,_⟩:=hw.at_ h.1 h.2
 unfold vU at *
 refine ⟨h.1,h.2,fun hk=>?_,fun hk=>?_⟩
 ·rcases ho with ho|ho|ho<;>omega
 ·rcases ho with ho|ho|ho<;>omega
theorem zki {S:Sto} {n:Int}:n=0∨¬known S n∨vU S n:=by
 by_cases h:known S n
 ·by_cases h0:n=0
  ·exact .inl h0
  ·have:=h.1
   exact .inr (.inr ⟨by omega,h.2⟩)
 ·exact .inr (.inl h)
theorem MFz.in_ {w0 w:World} {fp0:List Nat} {L Lr:List Ent} {key:Nat} {F:List Frz} {x:MA} (hR:R w0 fp0 L w) (hm:qP key L=some (frE key F,Lr)) (h:MFz F x):McI w [] x:=by
 have hm':=(zV hm).mem_iff.2 (g5q (a:=frE key F) (l:=Lr))
 exact ⟨FIn.in_ hR hm' h.cls,FIn.in_ hR hm' h.nx,FIn.in_ hR hm' h.acc,fun r hr=>FIn.in_ hR hm' (h.row r hr)⟩
theorem zyb {S:Sto} (h:WF S) {i k:Int} (h1:1<=i) (h2:i<=S.E.length) (hk:1<=k) (hl:(tm S.E i).len*k.toNat<=LM) (hroom:S.E.length<S.most) :
 ∃ S' x,zer S i k=(S',x,0)/\WF S'/\Grow S S'/\1<=x/\known S' x/\(tm S'.E x).txt=rep k.toNat (tm S.E i).txt/\S'.E.length<=S.E.length+1:=by
 unfold zer
 rw [if_neg (by rintro (hh|hh);exact hh ⟨by omega,h2⟩;omega),if_neg (by omega)]
 by_cases h1':k=1
 ·rw [if_pos h1']
  subst h1'
  exact ⟨S,i,rfl,h,Grow.refl S,h1,⟨by omega,h2⟩,(x7 _).symm,Nat.le_succ _⟩
 ·rw [if_neg h1',if_neg (by omega)]
  obtain ⟨s1,s2,s3,s4,s5⟩:=zjR h (zvy h1 h2 (by omega) hl)
  have hz:(qd S (j9 i k)).2.2=0:=by
   cases hh:(qd S (j9 i k)).2.2 with
   | zero=>rfl
   | succ n=>have:=(s4 (by rw [hh];simp)).2.1;omega
  obtain ⟨t1,t2,t3,_⟩:=s3 hz
  refine ⟨(qd S (j9 i k)).1,(qd S (j9 i k)).2.1,?_,s1,s2,t1,t2,?_,s5⟩
  ·rw [←hz]
  ·rw [t3];rfl
theorem zuw {y:MA} {t:Tri} {mx:Nat} (hT:TI t mx) (hm:mx<=4096) (hy:y.m=kY t):ziI y (xA t)=0:=by
 have hM:=zoz hT
 have hF:Frm (kY t) ((kY t).nx.getD 0 []).length:=by
  rw [(hM.row _ (zZ hM.pos)).1]
  exact ⟨hM.cls,hM.pos,hM.acc,hM.start,hM.k1,hM.row,hM.letter⟩
 have h0:zaI y.m=0:=by rw [hy,zhi hF,if_neg (by have:=hM.most;omega)]
 obtain ⟨h1,h2⟩:=zoA hT hm
 refine zqj h0 ⟨?_,h2⟩
 rw [h1,←hy];exact g8q ..
def tAA:Tri:=⟨[((0,97),1),((1,97),2)],[0,0,1],(List.replicate 256 false).set 97 true⟩
theorem zoD:ui [[97,97]] zgI=some tAA:=rfl
theorem zst:TI tAA 1:=zl0 TI.start zoD
theorem zvG:zG (kY tAA) (xA tAA) 0 [97,97,97]=2:=by decide +kernel
theorem zxJ {t:Tri} {mx:Nat} (hT:TI t mx) (hm:mx<=4096) {S:Sto} (hw:WF S):ScOk ⟨kY t,xA t,false,vU S⟩ ((vD t.us).length+1) S:=by
 obtain ⟨h1,h2⟩:=zoA hT hm
 exact ⟨⟨zoz hT,h1,h2⟩,hw,zoC hw,fun n=>zki⟩
theorem zmE (w:World) (n c:Nat) (a:Option Addr) (k:Int) :
 Calls Tryz.prog kL #[.slice a n c,.int .i64 k] w fun e w'=>e=.returned (.bool (decide (0<n/\n<=40/\1<=k/\k<=1125899906842624)))/\Ext w w':=by
 refine zF [.v (.slice a n c),.v (.int .i64 k)] w zdd (by simp) ?_
 by_cases h1:0<n/\n<=40/\1<=k/\k<=1125899906842624
 ·rw [decide_eq_true h1]
  obtain ⟨g1,g2,g3,g4⟩:=h1
  (repeat' ((conv=>whnf);first|((first|apply zc|apply za|apply zd)<;>intro h<;>try (exfalso;omega))|refine pay ?_|intro _));(all_goals (conv=>whnf))
  all_goals try (exfalso;omega)
  all_goals first|exact ⟨rfl⟩|(refine ⟨?_⟩;show Value.bool (decide _)=Value.bool true;rw [decide_eq_true (by omega)])
 ·rw [decide_eq_false h1]
  (repeat' ((conv=>whnf);first|((first|apply zc|apply za|apply zd)<;>intro h<;>try (exfalso;omega))|refine pay ?_|intro _));(all_goals (conv=>whnf))
  all_goals try (exfalso;omega)
  all_goals first|exact ⟨rfl⟩|(refine ⟨?_⟩;show Value.bool (decide _)=Value.bool false;rw [decide_eq_false (by omega)])
theorem In.roBeside {w0 w:World} {fp0:List Nat} {key1 key n c:Nat} {fp:List Nat} {α:Type} {fA:α->List Ent} {Lr:List Ent} {a:Option Addr} {xs:List Value} (hR:R w0 fp0 (packE key1 fp fA::Lr) w) (hm:Ent.abs key (Value.slice a n c).ownBlock.toList (zie a xs)∈Lr):In w fp a xs:=by
 have:=In.besideRo (L0:=[packE key1 fp fA]) hR hm
 simpa [packE,Ent.fp,fps] using this
theorem zsu (bt bs:Nat) {S:Sto} {x:Int} (hw:WF S) (hk:known S x) (htx:(tm S.E x).txt=[97,97,97]):XC uz #[pS bt,.int .i64 x,.int .i64 0,.int .i64 3] bt bs ⟨kY tAA,xA tAA,false,vU S⟩ S (.tuple #[.int .i64 2,.nilIface]):=by
 have e:zG (kY tAA) (xA tAA) (zA (kY tAA) (st0 ⟨kY tAA,xA tAA,false,vU S⟩) ((tm S.E x).txt.take 0)) (((tm S.E x).txt.drop 0).take 3)=2:=by rw [htx];exact zvG
 have h:=zrr bt bs (zxJ zst (by decide) hw) rfl hk (i:=0) (m:=3) (by unfold Tm.len;rw [htx];decide) (by rw [e];decide)
 rw [e] at h
 exact h
theorem zpK (w:World):Calls Tryz.prog vz #[] w fun e w'=>e=.returned (.bool true)/\Ext w w':=by
 refine zF [] w zex (by simp) ?_
 have c1:=fun w=>zlP 100 77 w
 rw [show zhf 100=100 from rfl] at c1
 have c2:=fun b key fp w hR a c hc hc2 hin=>zh4 b [97,97,97] (by decide) (by decide) (by decide) ⟨100,[]⟩ (WF.new 100 (by decide)) (by decide) a c hc hc2 key fp w hR hin
 have c3:∀ (a pa:Option Addr) (c pc:Nat) (w':World),In w' [] pa [.slice a 2 c]->In w' [] a (byL [97,97]) ->
  Calls Tryz.prog js #[.slice pa 1 pc] w' fun e w''=>∃ v L1,e=.returned v/\R w' [] L1 w''/\(∃ y F aH cH,v=.tuple #[MA.v y,.slice aH (xA tAA).length cH,.nilIface]/\y.m=kY tAA/\MFz F y/\L1=[frE 79 F,.own 53 aH (xA tAA).length cH zk 1 (zu .i64 (xA tAA))]):=fun a pa c pc w' i1 i2 =>
  (zpJ [⟨[97,97],a,c⟩] (by simp) pa pc w' ⟨i1,fun p hp=>by rw [List.mem_singleton] at hp;subst hp;exact i2,fun p hp=>by rw [List.mem_singleton] at hp;subst hp;show 2<=9223372036854775807;decide,fun p hp=>by rw [List.mem_singleton] at hp;subst hp;show ∀ x∈[97,97],x<256;decide⟩).mono fun e w'' ⟨v,L1,he,hR,hq⟩=>⟨v,L1,he,hR,by
   rcases hq with ⟨hb,_⟩|⟨t,y,F,aH,cH,ht,hv,hy,hF,hL⟩
   ·rcases hb with hb|hb|hb
    ·cases hb
    ·simp at hb
    ·have hb:ui [[97,97]] zgI=none:=hb
     rw [zoD] at hb;cases hb
   ·have ht:ui [[97,97]] zgI=some t:=ht
    rw [zoD] at ht;cases ht
    exact ⟨y,F,aH,cH,hv,hy,hF,hL⟩⟩
 have c4:=fun bs (S:Sto) (y:MA) (hy:y.m=kY tAA) (w':World) hm ha hc hh=>by
  have:=zcR 78 bs (vU S) S.E (w:=w') y hm (xA tAA) ha hc hh false (zuw zst (by decide) hy)
  rw [hy] at this
  exact this
 (repeat' ((conv=>whnf);first|(refine zz (fun w hR=>c1 w) ?_;rintro _ _ ⟨bn,fpn,rfl,rfl⟩;refine ⟨.v _,rfl,?_⟩)|(refine qa (key:=77) rfl (fun w hR h0=>c2 _ _ _ _ h0 _ _ (by decide) (by decide) (In.roBeside (key:=13) hR (.head _))) ?_;rintro _ _ ⟨S,x,fp',rfl,hw,hg,hx1,hk,htx,hlen,rfl⟩;refine ⟨.v _,rfl,?_⟩)|(refine zz (fun w' hR=>c3 _ _ _ _ w' (In.ownR (key:=21) hR rfl) (In.besideRo (L0:=[]) (key:=19) hR (.tail _ (.head _)))) ?_;rintro _ _ ⟨y,F,aH,cH,rfl,hy,hF,rfl⟩;refine ⟨.v _,rfl,?_⟩)|((refine zz (fun w' hR=>c4 _ S y hy w' (hF.in_ (key:=79) hR rfl) _ _ (In.ownR (key:=53) hR rfl)) ?_);rintro _ _ ⟨bt,fpt,rfl,rfl⟩;refine ⟨.v _,rfl,?_⟩)|(refine XC.go 78 77 (zsu _ _ hw hk htx) rfl rfl fun fp1' fp2'=>?_)|refine zh ?_|((first|apply zc|apply za|apply zd)<;>intro h<;>try (exfalso;omega))|refine pay ?_|refine And.intro (by first|exact ⟨rfl,rfl,rfl,Nat.succ_pos _⟩) ?_|intro _));(all_goals (conv=>whnf))
 all_goals first|(exfalso;omega)|exact ⟨rfl⟩|skip
end
end Go.Proofs.YtjmlialibdobpaaGreatDoor
