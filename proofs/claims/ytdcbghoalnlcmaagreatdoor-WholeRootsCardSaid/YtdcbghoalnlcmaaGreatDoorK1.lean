/- A symbolic state for walks of Go functions: an environment (slot to symbolic value) and a heap description (a list of entries with disjoint footprints), with the relation to a frame and a world. Generic over the program: no condition. -/
import Derived.WalkKit
import Derived.WalkSpells
import Derived.WalkLawsBesides
import Derived.Lib.Hide
import Derived.Deep.Quiet
import Derived.OrdersHeld
import Derived.ChangeKeysEq
import Derived.MapKept
import Derived.LaidEql
import Derived.Laws.IdiomStrings
import Derived.Laws.BytesArg
import Derived.Laws.CopyRow
set_option linter.unusedSectionVars false
set_option linter.unusedVariables false
set_option linter.unusedSimpArgs false
namespace Go.EG
theorem _root_.g1q {α:Type _} {l:List α} {i:Nat} {a:α}:l.getD i a=l[i]?.getD a:=List.getD_eq_getElem?_getD
theorem _root_.g2q {α:Type _} {l:List α} {i:Nat} (h:i<l.length):l[i]?=some l[i]:=List.getElem?_eq_getElem h
theorem _root_.g3q {α:Type _} (x y:α):(some x=some y)=(x=y):=Option.some.injEq x y
theorem _root_.g4q {α:Type _} (y:α) {a:α} {l:List α} (h:a∈l):a∈y::l:=List.mem_cons_of_mem y h
theorem _root_.g5q {α:Type _} {a:α} {l:List α}:a∈a::l:=List.mem_cons_self
theorem _root_.g6q {α:Type _} {s t:List α}:(s++t).length=s.length+t.length:=List.length_append
theorem _root_.g7q (n:Nat):(n:Int).toNat=n:=Int.toNat_natCast n
theorem _root_.g8q {α:Type _} {β:Type _} {s:List α} (f:α->β):(s.map f).length=s.length:=List.length_map f
theorem zqa (b:Bool):((!b)=true)=(b=false):=Bool.not_eq_true' b
theorem zqb (b:Bool):((!b)=false)=(b=true):=Bool.not_eq_false' b
theorem zqc {p:Prop} [Decidable p]:(decide p=true)=p:=decide_eq_true_eq
theorem zqd {p:Prop} [Decidable p]:decide p=false↔¬p:=decide_eq_false_iff_not
theorem zqe (b:Bool):(¬(b=true))=(b=false):=Bool.not_eq_true b
theorem zqf (b:Bool):(¬(b=false))=(b=true):=Bool.not_eq_false b
theorem zqg {p:Prop} [Decidable p]:¬¬p↔p:=Decidable.not_not
open Go.RowKit
inductive SV where
 | v (x:Value)
 | ptr (key b off:Nat)
 | el (a:Option Addr) (k:Nat)
 | sl (key:Nat) (a:Option Addr) (n c:Nat)
 | ek (key:Nat) (a:Option Addr) (k:Nat)
 | mp (key b:Nat)
 | vie (key:Nat) (a:Option Addr) (n c:Nat)
def SV.val:SV->Value
 | .v x=>x
 | .ptr _ b off=>.pointer (some ⟨b,off,none⟩)
 | .el a k=>.pointer (a.map (·.add k))
 | .sl _ a n c=>.slice a n c
 | .ek _ a k=>.pointer (a.map (·.add k))
 | .mp _ b=>.map (some b)
 | .vie _ a n c=>.slice a n c
abbrev Env:=List (Nat × SV)
def ui:Env->Nat->Option SV
 | [],_=>none
 | (k,v)::e,t=>if k=t then some v else ui e t
structure Agree (n:Nat) (ds:List Deferred) (e:Env) (a:Act):Prop where
 size:a.tmps.size=n
 defers:a.defers=ds
 at_:∀ t s,ui e t=some s->a.tmps[t]?=some s.val
theorem Agree.getD {n:Nat} {ds:List Deferred} {e:Env} {a:Act} (h:Agree n ds e a) {t:Nat} {s:SV} (hl:ui e t=some s):a.tmps.getD t undef=s.val:=by
 have:=h.at_ t s hl
 simp [Array.getD_eq_getD_getElem?,this]
theorem Agree.put {n:Nat} {ds:List Deferred} {e:Env} {a:Act} (h:Agree n ds e a) {d:Nat} {s:SV} {v:Value} (hd:d<n) (hv:s.val=v):Agree n ds ((d,s)::e) (a.put (some d) v):=by
 refine ⟨by simp [Act.put,h.size],h.defers,fun t u hl=>?_⟩
 simp only [ui] at hl
 simp only [Act.put]
 split at hl
 ·rename_i hdt
  subst hdt
  cases hl
  simp [h.size,hd,hv]
 ·rename_i hdt
  rw [Array.getElem?_setIfInBounds_ne hdt]
  exact h.at_ t u hl
def zxl (e e':Env):Prop:=∀ t,ui e t=ui e' t
theorem Agree.congr {n:Nat} {ds:List Deferred} {e e':Env} {a:Act} (h:Agree n ds e a) (he:zxl e e'):Agree n ds e' a :=
 ⟨h.size,h.defers,fun t s hl=>h.at_ t s ((he t).trans hl)⟩
inductive LK where
 | int (k:IntKind)|bool|str|ptr|slc|map|raw
inductive KK where
 | int (k:IntKind)
 | agg (ks:List LK)
 | str
 | ptr
def zE:List Value->List Value->List LK->Prop
 | .int k _::xs,.int k' _::ys,.int k''::ks=>(k=k''/\k'=k'')/\zE xs ys ks
 | .bool _::xs,.bool _::ys,.bool::ks=>zE xs ys ks
 | [],[],[]=>True
 | _,_,_=>False
def qj:KK->Value->Prop
 | .int k,v=>∃ n,v=.int k n
 | .agg ks,v=>∃ cs:Array Value,v=.agg cs/\zE cs.toList cs.toList ks
 | .str,v=>∃ s,v=.string s
 | .ptr,v=>∃ a:Addr,v=.pointer (some a)
def zfI (w:World) (v:Value):Prop:=∀ a:Addr,v=.pointer (some a)->∃ cs T,w.heap[a.block]?=some (.cells cs T (0,0))
def vA (w:World) (v:Value):Prop:=∀ a:Addr,v=.pointer (some a)->∃ cs T fz,w.heap[a.block]?=some (.cells cs T fz)/\w.frozen? a=false
inductive Ent where
 | mapE (key b:Nat) (kk:KK) (m:List (Value × Value))
 | box (key b:Nat) (cs:List Value) (T:TypeId)
 | own (key:Nat) (a:Option Addr) (n c:Nat) (T sz:Nat) (xs:List Value)
 | abs (key:Nat) (fp:List Nat) (ok:World->Prop)
def Ent.fp:Ent->List Nat
 | .mapE _ b _ _=>[b]
 | .box _ b _ _=>[b]
 | .own _ a n c _ _ _=>(Value.slice a n c).ownBlock.toList
 | .abs _ fp _=>fp
def zsP (fp:List Nat) (w w':World):Prop:=∀ b∈fp,w'.heap[b]?=w.heap[b]?
def Ent.ok (w:World):Ent->Prop
 | .mapE _ b kk m=>∃ es clock,w.heap[b]?=some (.map es clock)/\es.toList.map (fun e=>(e.key,e.val))=m/\∀ p∈m,qj kk p.1
 | .box _ b cs T=>w.heap[b]?=some (.cells cs.toArray T (0,0))
 | .own _ a n c T sz xs=>w.ownsRow 0 T sz (.slice a n c) n xs
 | .abs _ fp ok=>∀ w',zsP fp w w'->ok w'
def fps (L:List Ent):List Nat:=L.flatMap Ent.fp
theorem qd (e:Ent) (L:List Ent):fps (e::L)=e.fp++fps L:=rfl
theorem yK (L L':List Ent):fps (L++L')=fps L++fps L':=by simp [fps]
theorem Ent.ok_same {w w':World} {e:Ent} (h:e.ok w) (hs:zsP e.fp w w'):e.ok w':=by
 cases e with
 | mapE key b kk m =>
   obtain ⟨es,c,h1,h2⟩:=h
   exact ⟨es,c,(hs b (by simp [Ent.fp])).trans h1,h2⟩
 | box key b cs T=>exact (hs b (by simp [Ent.fp])).trans h
 | own key a n c T sz xs =>
   obtain ⟨h1,h2⟩:=h
   refine ⟨h1,?_⟩
   rcases h2 with h2|⟨g,cap,cur,hv,hg,hh,r⟩
   ·exact .inl h2
   ·refine .inr ⟨g,cap,cur,hv,hg,?_,r⟩
    rw [hs g (by simp [Ent.fp,hv,Value.ownBlock])]
    exact hh
 | abs key fp ok=>exact fun w'' hw=>h w'' fun b hb=>(hw b hb).trans (hs b hb)
theorem Ent.abs_ok {w:World} {key:Nat} {fp:List Nat} {ok:World->Prop} (h:(Ent.abs key fp ok).ok w):ok w:=h w fun _ _=>rfl
structure Ext (w w':World):Prop where
 b:Below w.heap.size w w'
 d:w.drawn<=w'.drawn
theorem Ext.refl (w:World):Ext w w:=⟨Below.refl _ _,Nat.le_refl _⟩
theorem Ext.trans {a b c:World} (h:Ext a b) (k:Ext b c):Ext a c:=⟨Below.trans h.b (Below.mono k.b h.b.size),Nat.le_trans h.d k.d⟩
structure R (w0:World) (fp0:List Nat) (L:List Ent) (w:World):Prop where
 os:w.os=w0.os
 tape:w.tape=w0.tape
 output:w.output=w0.output
 drawn:w0.drawn<=w.drawn
 size:w0.heap.size<=w.heap.size
 old:∀ b,b<w0.heap.size->b∉fp0->w.heap[b]?=w0.heap[b]?
 nodup:(fps L).Nodup
 range:∀ b∈fps L,(b∈fp0∨w0.heap.size<=b)/\b<w.heap.size
 ok:∀ e∈L,e.ok w
section
variable {w0 w w':World} {fp0:List Nat} {L L':List Ent}
theorem zjy (h:L.Perm L'):(fps L).Perm (fps L'):=h.flatMap_right _
theorem R.perm (h:R w0 fp0 L w) (hp:L.Perm L'):R w0 fp0 L' w :=
 ⟨h.os,h.tape,h.output,h.drawn,h.size,h.old,(zjy hp).nodup h.nodup,fun b hb=>h.range b ((zjy hp).mem_iff.2 hb),fun e he=>h.ok e (hp.mem_iff.2 he)⟩
theorem zq5 {L L':List Ent} (hs:L'.Sublist L):(fps L').Sublist (fps L):=by
 induction hs with
 | slnil=>exact List.Sublist.refl _
 | cons a _ ih=>rw [qd];exact ih.trans (List.sublist_append_right _ _)
 | cons_cons a _ ih=>rw [qd,qd];exact (List.append_sublist_append_left _).2 ih
theorem R.sub (h:R w0 fp0 L w) (hs:L'.Sublist L):R w0 fp0 L' w :=
 ⟨h.os,h.tape,h.output,h.drawn,h.size,h.old,(zq5 hs).nodup h.nodup,fun b hb=>h.range b ((zq5 hs).subset hb),fun e he=>h.ok e (hs.subset he)⟩
theorem R.tail {e:Ent} (h:R w0 fp0 (e::L) w):R w0 fp0 L w:=h.sub (List.sublist_cons_self _ _)
theorem R.heap (h:R w0 fp0 L w) (e1:w'.heap=w.heap) (e2:w'.os=w.os) (e3:w'.tape=w.tape) (e4:w'.output=w.output) (e5:w.drawn<=w'.drawn):R w0 fp0 L w' :=
 ⟨e2.trans h.os,e3.trans h.tape,e4.trans h.output,Nat.le_trans h.drawn e5,by rw [e1]; exact h.size,fun b hb hn => by rw [e1]; exact h.old b hb hn,h.nodup,
  fun b hb=>by rw [e1];exact h.range b hb,fun e he=>Ent.ok_same (h.ok e he) fun b _=>by rw [e1]⟩
theorem R.drew (h:R w0 fp0 L w):R w0 fp0 L w.drew:=h.heap rfl rfl rfl rfl (Nat.le_succ _)
theorem R.below (h:R w0 fp0 L w) (hx:Ext w w'):R w0 fp0 L w':=by
 have hb:=hx.b
 refine ⟨hb.os.trans h.os,hb.tape.trans h.tape,hb.output.trans h.output,Nat.le_trans h.drawn hx.d,Nat.le_trans h.size hb.size,fun b hlt hn=>?_,h.nodup,fun b hm=>?_,fun e he=>?_⟩
 ·rw [hb.block b (Nat.lt_of_lt_of_le hlt h.size)];exact h.old b hlt hn
 ·exact ⟨(h.range b hm).1,Nat.lt_of_lt_of_le (h.range b hm).2 hb.size⟩
 ·refine Ent.ok_same (h.ok e he) fun b hm=>hb.block b ?_
  exact (h.range b (List.mem_flatMap.2 ⟨e,he,hm⟩)).2
theorem R.alloc (h:R w0 fp0 L w) (e:Ent) (o:Obj) (hf:e.fp=[w.heap.size]) (hk:e.ok (w.alloc o)):R w0 fp0 (e::L) (w.alloc o):=by
 have hb:Below w.heap.size w (w.alloc o):=(Below.refl _ _).alloc (Nat.le_refl _) o
 have h':=h.below (w':=w.alloc o) ⟨hb,Nat.le_refl _⟩
 refine ⟨h'.os,h'.tape,h'.output,h'.drawn,h'.size,h'.old,?_,fun b hm=>?_,fun x hx=>?_⟩
 ·rw [qd,hf]
  refine List.nodup_cons.2 ⟨fun hm=>?_,h.nodup⟩
  have:=(h.range _ hm).2
  omega
 ·rw [qd,hf] at hm
  rcases List.mem_cons.1 hm with rfl|hm
  ·exact ⟨.inr h.size,by simp⟩
  ·exact h'.range b hm
 ·rcases List.mem_cons.1 hx with rfl|hx
  ·exact hk
  ·exact h'.ok x hx
theorem R.box (h:R w0 fp0 L w) (key:Nat) (cs:List Value) (T:TypeId):R w0 fp0 (.box key w.heap.size cs T::L) (w.alloc (.cells cs.toArray T)) :=
 h.alloc _ _ rfl (heap_alloc_new w _)
theorem R.call {L0 L1 Lr:List Ent} (h:R w0 fp0 (L0++Lr) w) (k:R w (fps L0) L1 w'):R w0 fp0 (L1++Lr) w':=by
 have hnd:=h.nodup
 rw [yK] at hnd
 have hdis:∀ b∈fps L0,b∉fps Lr:=fun b h1 h2=>(List.nodup_append.1 hnd).2.2 b h1 b h2 rfl
 have hr:∀ b∈fps Lr,(b∈fp0∨w0.heap.size<=b)/\b<w.heap.size:=fun b hb=>h.range b (by rw [yK];exact List.mem_append_right _ hb)
 have h0:∀ b∈fps L0,(b∈fp0∨w0.heap.size<=b)/\b<w.heap.size:=fun b hb=>h.range b (by rw [yK];exact List.mem_append_left _ hb)
 refine ⟨k.os.trans h.os,k.tape.trans h.tape,k.output.trans h.output,Nat.le_trans h.drawn k.drawn,Nat.le_trans h.size k.size,fun b hb hn=>?_,?_,fun b hm=>?_,fun e he=>?_⟩
 ·rw [k.old b (Nat.lt_of_lt_of_le hb h.size) (fun hm=>(h0 b hm).1.elim hn (fun h1=>by omega))]
  exact h.old b hb hn
 ·rw [yK,List.nodup_append]
  refine ⟨k.nodup,(List.nodup_append.1 hnd).2.1,fun a ha b hb hab=>?_⟩
  subst hab
  rcases (k.range a ha).1 with h1|h1
  ·exact hdis a h1 hb
  ·have:=(hr a hb).2
   omega
 ·rw [yK] at hm
  rcases List.mem_append.1 hm with hm|hm
  ·refine ⟨?_,(k.range b hm).2⟩
   rcases (k.range b hm).1 with h1|h1
   ·exact (h0 b h1).1
   ·exact .inr (Nat.le_trans h.size h1)
  ·exact ⟨(hr b hm).1,Nat.lt_of_lt_of_le (hr b hm).2 k.size⟩
 ·rcases List.mem_append.1 he with he|he
  ·exact k.ok e he
  ·refine Ent.ok_same (h.ok e (List.mem_append_right _ he)) fun b hm=>?_
   have hm':b∈fps Lr:=List.mem_flatMap.2 ⟨e,he,hm⟩
   exact k.old b (hr b hm').2 (fun h1=>hdis b h1 hm')
theorem R.write {e e':Ent} (h:R w0 fp0 (e::L) w) (hf:∀ b∈e'.fp,b∈e.fp) (hn:e'.fp.Nodup) (hk:e'.ok w') (hsz:w'.heap.size=w.heap.size) (e2:w'.os=w.os) (e3:w'.tape=w.tape) (e4:w'.output=w.output) (e5:w.drawn<=w'.drawn)
 (hsame:∀ b,b∉e.fp->w'.heap[b]?=w.heap[b]?):R w0 fp0 (e'::L) w':=by
 have hnd:=h.nodup
 rw [qd] at hnd
 have hdis:∀ b∈e.fp,b∉fps L:=fun b h1 h2=>(List.nodup_append.1 hnd).2.2 b h1 b h2 rfl
 have hre:∀ b∈e.fp,(b∈fp0∨w0.heap.size<=b)/\b<w.heap.size:=fun b hb=>h.range b (by rw [qd];exact List.mem_append_left _ hb)
 refine ⟨e2.trans h.os,e3.trans h.tape,e4.trans h.output,Nat.le_trans h.drawn e5,by rw [hsz];exact h.size,fun b hb hnb=>?_,?_,fun b hm=>?_,fun x hx=>?_⟩
 ·rw [hsame b (fun hm=>(hre b hm).1.elim hnb (fun h1=>by omega))]
  exact h.old b hb hnb
 ·rw [qd,List.nodup_append]
  refine ⟨hn,(List.nodup_append.1 hnd).2.1,fun a ha b hb hab=>?_⟩
  subst hab
  exact hdis a (hf a ha) hb
 ·rw [hsz]
  rw [qd] at hm
  rcases List.mem_append.1 hm with hm|hm
  ·exact hre b (hf b hm)
  ·exact h.range b (by rw [qd];exact List.mem_append_right _ hm)
 ·rcases List.mem_cons.1 hx with rfl|hx
  ·exact hk
  ·refine Ent.ok_same (h.ok x (g4q _ hx)) fun b hm=>hsame b fun h1=>hdis b h1 (List.mem_flatMap.2 ⟨x,hx,hm⟩)
theorem R.grow {e e':Ent} (h:R w0 fp0 (e::L) w) (hf:∀ b∈e'.fp,b∈e.fp∨(w.heap.size<=b/\b<w'.heap.size)) (hn:e'.fp.Nodup) (hk:e'.ok w') (hsz:w.heap.size<=w'.heap.size) (e2:w'.os=w.os) (e3:w'.tape=w.tape) (e4:w'.output=w.output) (e5:w.drawn<=w'.drawn)
 (hsame:∀ b,b<w.heap.size->b∉e.fp->w'.heap[b]?=w.heap[b]?):R w0 fp0 (e'::L) w':=by
 have hnd:=h.nodup
 rw [qd] at hnd
 have hdis:∀ b∈e.fp,b∉fps L:=fun b h1 h2=>(List.nodup_append.1 hnd).2.2 b h1 b h2 rfl
 have hre:∀ b∈e.fp,(b∈fp0∨w0.heap.size<=b)/\b<w.heap.size:=fun b hb=>h.range b (by rw [qd];exact List.mem_append_left _ hb)
 have hrl:∀ b∈fps L,(b∈fp0∨w0.heap.size<=b)/\b<w.heap.size:=fun b hb=>h.range b (by rw [qd];exact List.mem_append_right _ hb)
 refine ⟨e2.trans h.os,e3.trans h.tape,e4.trans h.output,Nat.le_trans h.drawn e5,Nat.le_trans h.size hsz,fun b hb hnb=>?_,?_,fun b hm=>?_,fun x hx=>?_⟩
 ·rw [hsame b (Nat.lt_of_lt_of_le hb h.size) (fun hm=>(hre b hm).1.elim hnb (fun h1=>by omega))]
  exact h.old b hb hnb
 ·rw [qd,List.nodup_append]
  refine ⟨hn,(List.nodup_append.1 hnd).2.1,fun a ha b hb hab=>?_⟩
  subst hab
  rcases hf a ha with h1|h1
  ·exact hdis a h1 hb
  ·have:=(hrl a hb).2;omega
 ·rw [qd] at hm
  rcases List.mem_append.1 hm with hm|hm
  ·rcases hf b hm with h1|h1
   ·exact ⟨(hre b h1).1,Nat.lt_of_lt_of_le (hre b h1).2 hsz⟩
   ·exact ⟨.inr (Nat.le_trans h.size h1.1),h1.2⟩
  ·exact ⟨(hrl b hm).1,Nat.lt_of_lt_of_le (hrl b hm).2 hsz⟩
 ·rcases List.mem_cons.1 hx with rfl|hx
  ·exact hk
  ·refine Ent.ok_same (h.ok x (g4q _ hx)) fun b hm=>?_
   have hm':b∈fps L:=List.mem_flatMap.2 ⟨x,hx,hm⟩
   exact hsame b (hrl b hm').2 fun h1=>hdis b h1 hm'
theorem R.ownNil (h:R w0 fp0 L w) (key T sz:Nat):R w0 fp0 (.own key none 0 0 T sz []::L) w :=
 ⟨h.os,h.tape,h.output,h.drawn,h.size,h.old,by simpa [qd,Ent.fp,Value.ownBlock] using h.nodup,fun b hb => h.range b (by simpa [qd,Ent.fp,Value.ownBlock] using hb),
  fun x hx=>by
   rcases List.mem_cons.1 hx with rfl|hx
   ·exact World.ownsRow_nil _ _ _ _
   ·exact h.ok x hx⟩
theorem R.start (hn:(fps L).Nodup) (hr:∀ b∈fps L,b<w.heap.size) (hk:∀ e∈L,e.ok w):R w (fps L) L w :=
 ⟨rfl,rfl,rfl,Nat.le_refl _,Nat.le_refl _,fun _ _ _=>rfl,hn,fun b hb=>⟨.inl hb,hr b hb⟩,hk⟩
theorem R.start0 (w:World):R w [] [] w:=R.start (L:=[]) (by simp [fps]) (by simp [fps]) (by simp)
theorem R.restart {L0 Lr:List Ent} (h:R w0 fp0 (L0++Lr) w):R w (fps L0) L0 w:=by
 have hnd:=h.nodup
 rw [yK] at hnd
 exact R.start (List.nodup_append.1 hnd).1 (fun b hb=>(h.range b (by rw [yK];exact List.mem_append_left _ hb)).2) (fun e he=>h.ok e (List.mem_append_left _ he))
theorem R.toBelow {w:World} {L:List Ent} (h:R w0 [] L w):Below w0.heap.size w0 w :=
 ⟨h.os,h.tape,h.output,h.size,fun k hk=>h.old k hk (by simp)⟩
theorem R.toExt {w:World} {L:List Ent} (h:R w0 [] L w):Ext w0 w:=⟨h.toBelow,h.drawn⟩
def kn (key:Nat):List Ent->Option (Nat × List Value × TypeId)
 | .box k b cs T::L=>if k=key then some (b,cs,T) else kn key L
 | .own ..::L=>kn key L
 | .abs ..::L=>kn key L
 | .mapE ..::L=>kn key L
 | []=>none
def jA (key:Nat) (cs':List Value):List Ent->List Ent
 | .box k b cs T::L=>if k=key then .box k b cs' T::L else .box k b cs T::jA key cs' L
 | .own k a n c T sz xs::L=>.own k a n c T sz xs::jA key cs' L
 | .abs k fp ok::L=>.abs k fp ok::jA key cs' L
 | .mapE k b kk m::L=>.mapE k b kk m::jA key cs' L
 | []=>[]
structure Own where
 a:Option Addr
 n:Nat
 c:Nat
 T:TypeId
 sz:Nat
 xs:List Value
def zL (key:Nat):List Ent->Option Own
 | .own k a n c T sz xs::L=>if k=key then some ⟨a,n,c,T,sz,xs⟩ else zL key L
 | .box ..::L=>zL key L
 | .abs ..::L=>zL key L
 | .mapE ..::L=>zL key L
 | []=>none
def qp (key:Nat) (a':Option Addr) (n' c':Nat) (xs':List Value):List Ent->List Ent
 | .own k a n c T sz xs::L=>if k=key then .own k a' n' c' T sz xs'::L else .own k a n c T sz xs::qp key a' n' c' xs' L
 | .box k b cs T::L=>.box k b cs T::qp key a' n' c' xs' L
 | .abs k fp ok::L=>.abs k fp ok::qp key a' n' c' xs' L
 | .mapE k b kk m::L=>.mapE k b kk m::qp key a' n' c' xs' L
 | []=>[]
def vp (key:Nat):List Ent->Option (Nat × KK × List (Value × Value))
 | .mapE k b kk m::L=>if k=key then some (b,kk,m) else vp key L
 | .own ..::L=>vp key L
 | .box ..::L=>vp key L
 | .abs ..::L=>vp key L
 | []=>none
def uT (key:Nat) (m':List (Value × Value)):List Ent->List Ent
 | .mapE k b kk m::L=>if k=key then .mapE k b kk m'::L else .mapE k b kk m::uT key m' L
 | .own k a n c T sz xs::L=>.own k a n c T sz xs::uT key m' L
 | .box k b cs T::L=>.box k b cs T::uT key m' L
 | .abs k fp ok::L=>.abs k fp ok::uT key m' L
 | []=>[]
theorem uB {key:Nat} {b:Nat} {cs:List Value} {T:TypeId}:∀ {L:List Ent},kn key L=some (b,cs,T) ->
 ∃ L',L.Perm (.box key b cs T::L')/\∀ cs',(jA key cs' L).Perm (.box key b cs' T::L')
 | [],h=>by cases h
 | .box k b0 cs0 T0 :: L,h => by
   simp only [kn] at h
   by_cases hk:k=key
   ·simp only [hk,if_true,g3q,Prod.mk.injEq] at h
    obtain ⟨rfl,rfl,rfl⟩:=h
    subst hk
    exact ⟨L,.refl _,fun cs'=>by simp [jA]⟩
   ·simp only [hk,if_false] at h
    obtain ⟨L',h1,h2⟩:=uB h
    exact ⟨.box k b0 cs0 T0::L',(h1.cons _).trans (.swap _ _ _),fun cs'=>by simp only [jA,hk,if_false];exact ((h2 cs').cons _).trans (.swap _ _ _)⟩
 | .own k a n c T0 sz xs :: L,h => by
   obtain ⟨L',h1,h2⟩:=uB (L:=L) h
   exact ⟨.own k a n c T0 sz xs::L',(h1.cons _).trans (.swap _ _ _),fun cs'=>((h2 cs').cons _).trans (.swap _ _ _)⟩
 | .abs k fp ok :: L,h => by
   obtain ⟨L',h1,h2⟩:=uB (L:=L) h
   exact ⟨.abs k fp ok::L',(h1.cons _).trans (.swap _ _ _),fun cs'=>((h2 cs').cons _).trans (.swap _ _ _)⟩
 | .mapE k b kk m :: L,h => by
   obtain ⟨L',h1,h2⟩:=uB (L:=L) h
   exact ⟨.mapE k b kk m::L',(h1.cons _).trans (.swap _ _ _),fun cs'=>((h2 cs').cons _).trans (.swap _ _ _)⟩
theorem yj {key:Nat} {a:Option Addr} {n c:Nat} {T:TypeId} {sz:Nat} {xs:List Value}:∀ {L:List Ent},zL key L=some ⟨a,n,c,T,sz,xs⟩ ->
 ∃ L',L.Perm (.own key a n c T sz xs::L')/\∀ a' n' c' xs',(qp key a' n' c' xs' L).Perm (.own key a' n' c' T sz xs'::L')
 | [],h=>by cases h
 | .own k a0 n0 c0 T0 sz0 xs0 :: L,h => by
   simp only [zL] at h
   by_cases hk:k=key
   ·simp only [hk,if_true,g3q,Own.mk.injEq] at h
    obtain ⟨rfl,rfl,rfl,rfl,rfl,rfl⟩:=h
    subst hk
    exact ⟨L,.refl _,fun _ _ _ _=>by simp [qp]⟩
   ·simp only [hk,if_false] at h
    obtain ⟨L',h1,h2⟩:=yj h
    exact ⟨.own k a0 n0 c0 T0 sz0 xs0::L',(h1.cons _).trans (.swap _ _ _),fun a' n' c' xs'=>by simp only [qp,hk,if_false];exact ((h2 a' n' c' xs').cons _).trans (.swap _ _ _)⟩
 | .box k b0 cs0 T0 :: L,h => by
   obtain ⟨L',h1,h2⟩:=yj (L:=L) h
   exact ⟨.box k b0 cs0 T0::L',(h1.cons _).trans (.swap _ _ _),fun a' n' c' xs'=>((h2 a' n' c' xs').cons _).trans (.swap _ _ _)⟩
 | .abs k fp ok :: L,h => by
   obtain ⟨L',h1,h2⟩:=yj (L:=L) h
   exact ⟨.abs k fp ok::L',(h1.cons _).trans (.swap _ _ _),fun a' n' c' xs'=>((h2 a' n' c' xs').cons _).trans (.swap _ _ _)⟩
 | .mapE k b kk m :: L,h => by
   obtain ⟨L',h1,h2⟩:=yj (L:=L) h
   exact ⟨.mapE k b kk m::L',(h1.cons _).trans (.swap _ _ _),fun a' n' c' xs'=>((h2 a' n' c' xs').cons _).trans (.swap _ _ _)⟩
theorem j4 {key:Nat} {b:Nat} {kk:KK} {m:List (Value × Value)}:∀ {L:List Ent},vp key L=some (b,kk,m) ->
 ∃ L',L.Perm (.mapE key b kk m::L')/\∀ m',(uT key m' L).Perm (.mapE key b kk m'::L')
 | [],h=>by cases h
 | .mapE k b0 kk0 m0 :: L,h => by
   simp only [vp] at h
   by_cases hk:k=key
   ·simp only [hk,if_true,g3q,Prod.mk.injEq] at h
    obtain ⟨rfl,rfl,rfl⟩:=h
    subst hk
    exact ⟨L,.refl _,fun m'=>by simp [uT]⟩
   ·simp only [hk,if_false] at h
    obtain ⟨L',h1,h2⟩:=j4 h
    exact ⟨.mapE k b0 kk0 m0::L',(h1.cons _).trans (.swap _ _ _),fun m'=>by simp only [uT,hk,if_false];exact ((h2 m').cons _).trans (.swap _ _ _)⟩
 | .own k a n c T0 sz xs :: L,h => by
   obtain ⟨L',h1,h2⟩:=j4 (L:=L) h
   exact ⟨.own k a n c T0 sz xs::L',(h1.cons _).trans (.swap _ _ _),fun m'=>((h2 m').cons _).trans (.swap _ _ _)⟩
 | .box k b0 cs0 T0 :: L,h => by
   obtain ⟨L',h1,h2⟩:=j4 (L:=L) h
   exact ⟨.box k b0 cs0 T0::L',(h1.cons _).trans (.swap _ _ _),fun m'=>((h2 m').cons _).trans (.swap _ _ _)⟩
 | .abs k fp ok :: L,h => by
   obtain ⟨L',h1,h2⟩:=j4 (L:=L) h
   exact ⟨.abs k fp ok::L',(h1.cons _).trans (.swap _ _ _),fun m'=>((h2 m').cons _).trans (.swap _ _ _)⟩
end
inductive X where
 | t (n:Nat)
 | c (v:Value)
 | g (n:Nat)
 | f (n:Nat)
def cX:Operand->X
 | .tmp n=>.t n
 | .const v=>.c v
 | .global g=>.g g
 | .func f=>.f f
def ev (e:Env):X->Option SV
 | .t n=>ui e n
 | .c v=>some (.v v)
 | .g n=>some (.v (.pointer (some ⟨n,0,none⟩)))
 | .f n=>some (.v (.func (.func n) #[] #[]))
theorem zk {n:Nat} {ds:List Deferred} {e:Env} {a:Act} (h:Agree n ds e a) {x:Operand} {s:SV} (hx:ev e (cX x)=some s):a.eval x=s.val:=by
 cases x with
 | tmp t=>exact h.getD hx
 | const v=>simp only [cX,ev,g3q] at hx;subst hx;rfl
 | global g=>simp only [cX,ev,g3q] at hx;subst hx;rfl
 | func f=>simp only [cX,ev,g3q] at hx;subst hx;rfl
def gA (s:Option SV) (K:SV->Prop):Prop :=
 match s with
 | some s=>K s
 | none=>False
def yg:IntKind->Option SV->(Int->Prop)->Prop
 | .i64,some (.v (.int .i64 n)),K=>K n
 | .u64,some (.v (.int .u64 n)),K=>K n
 | .u8,some (.v (.int .u8 n)),K=>K n
 | .u16,some (.v (.int .u16 n)),K=>K n
 | .u32,some (.v (.int .u32 n)),K=>K n
 | .i32,some (.v (.int .i32 n)),K=>K n
 | .i8,some (.v (.int .i8 n)),K=>K n
 | .i16,some (.v (.int .i16 n)),K=>K n
 | _,_,_=>False
def vM (s:Option SV) (K:Int->Prop):Prop :=
 match s with
 | some (.v (.int _ n))=>K n
 | _=>False
def jt (s:Option SV) (K:Bool->Prop):Prop :=
 match s with
 | some (.v (.bool b))=>K b
 | _=>False
theorem zw {s:Option SV} {K:SV->Prop} (h:gA s K):∃ u,s=some u/\K u:=by
 cases s with
 | none=>exact h.elim
 | some u=>exact ⟨u,rfl,h⟩
theorem qF {k:IntKind} {s:Option SV} {K:Int->Prop} (h:yg k s K):∃ n,s=some (.v (.int k n))/\K n:=by
 unfold yg at h
 split at h
 all_goals first|exact ⟨_,rfl,h⟩|exact h.elim
theorem qG {s:Option SV} {K:Int->Prop} (h:vM s K):∃ k n,s=some (.v (.int k n))/\K n:=by
 unfold vM at h
 split at h
 ·exact ⟨_,_,rfl,h⟩
 ·exact h.elim
theorem uC {s:Option SV} {K:Bool->Prop} (h:jt s K):∃ b,s=some (.v (.bool b))/\K b:=by
 unfold jt at h
 split at h
 ·exact ⟨_,rfl,h⟩
 ·exact h.elim
theorem zX {s:Option SV} {K K':SV->Prop} (hk:∀ u,K u->K' u) (h:gA s K):gA s K':=by
 obtain ⟨u,rfl,h⟩:=zw h;exact hk _ h
theorem xz {k:IntKind} {s:Option SV} {K K':Int->Prop} (hk:∀ u,K u->K' u) (h:yg k s K):yg k s K':=by
 obtain ⟨u,rfl,h⟩:=qF h
 cases k<;>exact hk _ h
theorem zeE {s:Option SV} {K K':Int->Prop} (hk:∀ u,K u->K' u) (h:vM s K):vM s K':=by
 obtain ⟨_,u,rfl,h⟩:=qG h;exact hk _ h
theorem zgs {s:Option SV} {K K':Bool->Prop} (hk:∀ u,K u->K' u) (h:jt s K):jt s K':=by
 obtain ⟨u,rfl,h⟩:=uC h;exact hk _ h
def za8:IntKind->Int->(Int->Prop)->Prop
 | .i64,n,K=>(-9223372036854775808<=n/\n<=9223372036854775807)/\K n
 | .i32,n,K=>(-2147483648<=n/\n<=2147483647)/\K n
 | .i16,n,K=>(-32768<=n/\n<=32767)/\K n
 | .i8,n,K=>(-128<=n/\n<=127)/\K n
 | .u64,n,K=>K (n%18446744073709551616)
 | .u32,n,K=>K (n%4294967296)
 | .u16,n,K=>K (n%65536)
 | .u8,n,K=>K (n%256)
def zeF:IntKind->Int->(Int->Prop)->Prop
 | .u64,n,K=>(0<=n/\n<=18446744073709551615)/\K n
 | .u32,n,K=>(0<=n/\n<=4294967295)/\K n
 | .u16,n,K=>(0<=n/\n<=65535)/\K n
 | .u8,n,K=>(0<=n/\n<=255)/\K n
 | .i64,n,K=>K ((n+9223372036854775808)%18446744073709551616 - 9223372036854775808)
 | .i32,n,K=>K ((n+2147483648)%4294967296 - 2147483648)
 | .i16,n,K=>K ((n+32768)%65536 - 32768)
 | .i8,n,K=>K ((n+128)%256 - 128)
theorem zsQ (n:Int):IntKind.u64.wrap n=n%18446744073709551616:=by
 unfold IntKind.wrap;simp [IntKind.signed,IntKind.bits]
theorem zsR (n:Int):IntKind.u32.wrap n=n%4294967296:=by
 unfold IntKind.wrap;simp [IntKind.signed,IntKind.bits]
theorem zsS (n:Int):IntKind.u16.wrap n=n%65536:=by
 unfold IntKind.wrap;simp [IntKind.signed,IntKind.bits]
theorem zt3 (n:Int):IntKind.u8.wrap n=n%256:=by
 unfold IntKind.wrap;simp [IntKind.signed,IntKind.bits]
theorem zsT (n:Int):IntKind.i64.wrap n=(n+9223372036854775808)%18446744073709551616 - 9223372036854775808:=by
 simp [IntKind.wrap,IntKind.signed,IntKind.bits];split<;>omega
theorem zsU (n:Int):IntKind.i32.wrap n=(n+2147483648)%4294967296 - 2147483648:=by
 simp [IntKind.wrap,IntKind.signed,IntKind.bits];split<;>omega
theorem zsV (n:Int):IntKind.i16.wrap n=(n+32768)%65536 - 32768:=by
 simp [IntKind.wrap,IntKind.signed,IntKind.bits];split<;>omega
theorem zt4 (n:Int):IntKind.i8.wrap n=(n+128)%256 - 128:=by
 simp [IntKind.wrap,IntKind.signed,IntKind.bits];split<;>omega
theorem zde {k:IntKind} {n:Int} {K:Int->Prop} (h:za8 k n K):K (k.wrap n):=by
 cases k<;>simp only [za8] at h
 ·rw [IntWalk.i8_in _ h.1];exact h.2
 ·rw [IntWalk.i16_in _ h.1];exact h.2
 ·rw [IntWalk.i32_in _ h.1];exact h.2
 ·rw [IntWalk.i64_in _ h.1];exact h.2
 ·rw [zt3];exact h
 ·rw [zsS];exact h
 ·rw [zsR];exact h
 ·rw [zsQ];exact h
theorem zkm {k:IntKind} {n:Int} {K:Int->Prop} (h:zeF k n K):K (k.wrap n):=by
 cases k<;>simp only [zeF] at h
 ·rw [zt4];exact h
 ·rw [zsV];exact h
 ·rw [zsU];exact h
 ·rw [zsT];exact h
 ·rw [IntWalk.u8_in _ h.1];exact h.2
 ·rw [IntWalk.u16_in _ h.1];exact h.2
 ·rw [IntWalk.u32_in _ h.1];exact h.2
 ·rw [IntWalk.u64_in _ h.1];exact h.2
def hiK:IntKind->Int
 | .i64=>9223372036854775807
 | .i32=>2147483647
 | .i16=>32767
 | .i8=>127
 | .u64=>18446744073709551615
 | .u32=>4294967295
 | .u16=>65535
 | .u8=>255
def biK:IntKind->Int
 | .i64=>64
 | .u64=>64
 | .i32=>32
 | .u32=>32
 | .i16=>16
 | .u16=>16
 | .i8=>8
 | .u8=>8
theorem zwP (k:IntKind):biK k=(k.bits:Int):=by cases k<;>rfl
theorem zmA {k:IntKind} {n:Int} (h0:0<=n) (h1:n<=hiK k):k.wrap n=n:=by
 cases k<;>simp only [hiK] at h1
 ·exact IntWalk.i8_in _ (by omega)
 ·exact IntWalk.i16_in _ (by omega)
 ·exact IntWalk.i32_in _ (by omega)
 ·exact IntWalk.i64_in _ (by omega)
 ·exact IntWalk.u8_in _ (by omega)
 ·exact IntWalk.u16_in _ (by omega)
 ·exact IntWalk.u32_in _ (by omega)
 ·exact IntWalk.u64_in _ (by omega)
def arF:BinOp->Int->Int->Int
 | .add,p,q=>p+q
 | .sub,p,q=>p - q
 | .mul,p,q=>p*q
 | _,_,_=>0
def znW:BinOp->Int->Int->Bool
 | .eql,p,q=>decide (p=q)
 | .neq,p,q=>decide (p≠q)
 | .lss,p,q=>decide (p<q)
 | .leq,p,q=>decide (p<=q)
 | .gtr,p,q=>decide (q<p)
 | .geq,p,q=>decide (q<=p)
 | _,_,_=>false
def zdJ:BinOp->Nat->Nat->Nat
 | .and,p,q=>p&&&q
 | .or,p,q=>p|||q
 | .xor,p,q=>p ^^^ q
 | .andNot,p,q=>p ^^^ (p&&&q)
 | _,_,_=>0
def zrK:BinOp->Bool
 | .add|.sub|.mul=>true
 | _=>false
def znM:BinOp->Bool
 | .eql|.neq|.lss|.leq|.gtr|.geq=>true
 | _=>false
def ziH:BinOp->Bool
 | .and|.or|.xor|.andNot=>true
 | _=>false
theorem zsW {o:BinOp} (h:zrK o=true) (P:Program) (w:World) (k:IntKind) (p q:Int) (t:TypeId) :
 (binOp o t (.int k p) (.int k q)).run P w=.ok (.int k (k.wrap (arF o p q))) w:=by
 cases o<;>simp [zrK] at h<;>simp [binOp,Op.intArith,arF]
theorem zv9 {o:BinOp} (h:znM o=true) (P:Program) (w:World) (k:IntKind) (p q:Int) (t:TypeId) :
 (binOp o t (.int k p) (.int k q)).run P w=.ok (.bool (znW o p q)) w:=by
 cases o<;>simp [znM] at h<;>simp [binOp,Op.intCmp,znW]
 all_goals first|rfl|(by_cases hpq:p=q<;>simp [hpq])
theorem zwa {o:BinOp} (ho:ziH o=true) {n a b:Nat} (ha:a<2 ^ n) (hb:b<2 ^ n):zdJ o a b<2 ^ n:=by
 cases o<;>simp [ziH] at ho
 ·exact Nat.and_lt_two_pow _ hb
 ·exact Nat.or_lt_two_pow ha hb
 ·exact Nat.xor_lt_two_pow ha hb
 ·exact Nat.xor_lt_two_pow ha (Nat.and_lt_two_pow _ hb)
theorem znX (k:IntKind) (n:Int) (h0:0<=n) (h:n<=hiK k):n.toNat<2 ^ k.bits:=by
 cases k<;>simp only [hiK,IntKind.bits] at *<;>omega
theorem zsX (w:Nat) (a b:BitVec w):(a&&&~~~b).toNat=a.toNat ^^^ (a.toNat&&&b.toNat):=by
 rw [←BitVec.toNat_and,←BitVec.toNat_xor]
 congr 1
 ext i hi
 simp
 cases a[i]<;>cases b[i]<;>rfl
theorem zq6 {o:BinOp} (h:ziH o=true) (P:Program) (w:World) (k:IntKind) (p q:Int) (t:TypeId) (hp:0<=p) (hp':p<=hiK k) (hq:0<=q) (hq':q<=hiK k) :
 (binOp o t (.int k p) (.int k q)).run P w=.ok (.int k ((zdJ o p.toNat q.toNat:Nat):Int)) w:=by
 have e1:(BitVec.ofInt k.bits p).toNat=p.toNat:=by
  have h1:=znX k p hp hp'
  rw [BitVec.toNat_ofInt]
  rw [Int.emod_eq_of_lt hp (by have : ((p.toNat : Nat) : Int) < ((2 ^ k.bits : Nat) : Int) := by exact_mod_cast h1
                               omega)]
 have e2:(BitVec.ofInt k.bits q).toNat=q.toNat:=by
  have h1:=znX k q hq hq'
  rw [BitVec.toNat_ofInt]
  rw [Int.emod_eq_of_lt hq (by have : ((q.toNat : Nat) : Int) < ((2 ^ k.bits : Nat) : Int) := by exact_mod_cast h1
                               omega)]
 have e3:k.wrap ((zdJ o p.toNat q.toNat:Nat):Int)=((zdJ o p.toNat q.toNat:Nat):Int):=by
  refine zmA (by omega) ?_
  have hs:∃ m,(2 ^ m:Int)=hiK k+1:=by
   cases k
   ·exact ⟨7,rfl⟩
   ·exact ⟨15,rfl⟩
   ·exact ⟨31,rfl⟩
   ·exact ⟨63,rfl⟩
   ·exact ⟨8,rfl⟩
   ·exact ⟨16,rfl⟩
   ·exact ⟨32,rfl⟩
   ·exact ⟨64,rfl⟩
  obtain ⟨m,hm⟩:=hs
  have hm':((2 ^ m:Nat):Int)=hiK k+1:=by rw [←hm];simp
  have:=zwa h (n:=m) (a:=p.toNat) (b:=q.toNat) (by omega) (by omega)
  omega
 cases o<;>simp [ziH] at h
 case andNot =>
  have e4:=zsX k.bits (BitVec.ofInt k.bits p) (BitVec.ofInt k.bits q)
  rw [e1,e2] at e4
  simp only [zdJ] at e3
  simp only [binOp,Op.intBits,zdJ,ne_eq,not_true_eq_false,if_false,Sem.run_pure]
  rw [e4,e3]
 all_goals
  simp [binOp,Op.intBits,zdJ,e1,e2] at *
  exact e3
def zt5 (k:IntKind) (p q:Int):Int:=k.wrap (((BitVec.ofInt k.bits p&&&BitVec.ofInt k.bits q).toNat:Nat):Int)
theorem zwb (P:Program) (w:World) (k:IntKind) (p q:Int) (t:TypeId) :
 (binOp .and t (.int k p) (.int k q)).run P w=.ok (.int k (zt5 k p q)) w:=by
 simp [binOp,Op.intBits,zt5]
theorem zwQ (P:Program) (w:World) (k:IntKind) (p q:Int) (t:TypeId) (hp:0<=p) (hp':p<=hiK k) (hq:0<q) :
 (binOp .quo t (.int k p) (.int k q)).run P w=.ok (.int k (p/q)) w/\(binOp .rem t (.int k p) (.int k q)).run P w=.ok (.int k (p%q)) w:=by
 have h1:p.tdiv q=p/q:=Int.tdiv_eq_ediv_of_nonneg hp
 have h2:p.tmod q=p%q:=Int.tmod_eq_emod_of_nonneg hp
 have h3:¬q=0:=by omega
 have h4:k.wrap (p/q)=p/q:=zmA (Int.ediv_nonneg hp (by omega)) (by have:=Int.ediv_le_self q hp;omega)
 constructor<;>simp [binOp,Op.intDiv,h3,h1,h2,h4]
theorem zwc (P:Program) (w:World) (k:IntKind) (p q:Int) (t:TypeId) (hq:q≠0) :
 (binOp .quo t (.int k p) (.int k q)).run P w=.ok (.int k (k.wrap (p.tdiv q))) w/\(binOp .rem t (.int k p) (.int k q)).run P w=.ok (.int k (p.tmod q)) w:=by
 constructor<;>simp [binOp,Op.intDiv,hq]
theorem zwd (P:Program) (w:World) (k yk:IntKind) (p q:Int) (t:TypeId) (hq:0<=q) (hq':q<=k.bits) :
 (binOp .shr t (.int k p) (.int yk q)).run P w=.ok (.int k (p/((2 ^ q.toNat:Nat):Int))) w:=by
 have h1:¬q<0:=by omega
 have h2:min q.toNat k.bits=q.toNat:=by omega
 simp [binOp,Op.shift,h1,h2]
 exact Int.fdiv_eq_ediv_of_nonneg _ (Int.pow_nonneg (by omega))
theorem zwe (P:Program) (w:World) (k yk:IntKind) (p q:Int) (t:TypeId) (hq:0<=q) (hq':q<=k.bits) :
 (binOp .shl t (.int k p) (.int yk q)).run P w=.ok (.int k (k.wrap (p*((2 ^ q.toNat:Nat):Int)))) w:=by
 have h1:¬q<0:=by omega
 have h2:min q.toNat k.bits=q.toNat:=by omega
 simp [binOp,Op.shift,h1,h2]
def ngB:Bool->Bool->Bool
 | true,b=>!b
 | false,b=>b
def uD:LK->(Value->Prop)->Prop
 | .int k,K=>∃ n:Int,K (.int k n)
 | .bool,K=>∃ b:Bool,K (.bool b)
 | .str,K=>∃ s:ByteArray,K (.string s)
 | .ptr,K=>∃ p:Option Addr,K (.pointer p)
 | .slc,K=>∃ (a:Option Addr) (n c:Nat),K (.slice a n c)
 | .map,K=>∃ r:Option Nat,K (.map r)
 | .raw,K=>∃ v:Value,K v
theorem zkn {lk:LK} {K:Value->Prop} (h:uD lk K):∃ v,K v:=by
 cases lk<;>simp only [uD] at h
 ·obtain ⟨_,h⟩:=h;exact ⟨_,h⟩
 ·obtain ⟨_,h⟩:=h;exact ⟨_,h⟩
 ·obtain ⟨_,h⟩:=h;exact ⟨_,h⟩
 ·obtain ⟨_,h⟩:=h;exact ⟨_,h⟩
 ·obtain ⟨_,_,_,h⟩:=h;exact ⟨_,h⟩
 ·obtain ⟨_,h⟩:=h;exact ⟨_,h⟩
 ·exact h
inductive NK where
 | ptr|ifc|slc|map|fn
def zdK:NK->SV->(Bool->Prop)->Prop
 | .ptr,.v (.pointer p),K=>K p.isNone
 | .ptr,.ptr ..,K=>K false
 | .ptr,.el a _,K=>K a.isNone
 | .ptr,.ek _ a _,K=>K a.isNone
 | .ifc,.v .nilIface,K=>K true
 | .ifc,.v (.iface _ _),K=>K false
 | .slc,.v (.slice a _ _),K=>K a.isNone
 | .slc,.sl _ a _ _,K=>K a.isNone
 | .map,.v (.map r),K=>K r.isNone
 | .fn,.v .nilFunc,K=>K true
 | .fn,.v (.func ..),K=>K false
 | _,_,_=>False
def yE:SV->List Value
 | .v (.agg cs)=>cs.toList
 | s=>[s.val]
def zwR:Value->Prop
 | .agg _=>False
 | .tuple _=>False
 | _=>True
def yq:List Value->Prop
 | []=>True
 | v::l=>zwR v/\yq l
theorem zt6 {v:Value} (h:zwR v):v.oneCell'=true:=by cases v<;>first|rfl|exact h.elim
theorem kJ:∀ {l:List Value},yq l->∀ v∈l,v.oneCell'=true
 | [],_,v,hv=>by cases hv
 | _ :: _,h,v,hv => by
   rcases List.mem_cons.1 hv with rfl|hv
   ·exact zt6 h.1
   ·exact kJ h.2 v hv
def nth:List Value->Nat->Option Value
 | [],_=>none
 | v::_,0=>some v
 | _::l,n+1=>nth l n
theorem zhL:∀ (l:List Value) (n:Nat),nth l n=l[n]?
 | [],n=>by simp [nth]
 | _::_,0=>by simp [nth]
 | _::l,n+1=>by simp [nth,zhL l n]
def gV (v:Option Value) (K:Value->Prop):Prop :=
 match v with
 | some v=>K v
 | none=>False
theorem zfJ {s:Option Value} {K:Value->Prop} (h:gV s K):∃ u,s=some u/\K u:=by
 cases s with
 | none=>exact h.elim
 | some u=>exact ⟨u,rfl,h⟩
def zD (cs:List Value) (off:Nat) (vs:List Value):List Value:=cs.take off++vs++cs.drop (off+vs.length)
theorem yL {cs vs:List Value} {off:Nat} (h:off+vs.length<=cs.length):(zD cs off vs).length=cs.length:=by
 simp [zD];omega
def gAs (e:Env):List X->(List SV->Prop)->Prop
 | [],K=>K []
 | x::xs,K=>gA (ev e x) fun s=>gAs e xs fun l=>K (s::l)
def gPs (e:Env):List (Nat × Nat × X)->(List (Nat × List Value)->Prop)->Prop
 | [],K=>K []
 | (off,sz,x)::xs,K=>gA (ev e x) fun s=>(yE s).length=sz/\gPs e xs fun l=>K ((off,yE s)::l)
def ud (z:List Value):List (Nat × List Value)->List Value
 | []=>z
 | (off,vs)::ps=>ud (zD z off vs) ps
def zW:List Value->List Value->Bool
 | .int _ a::xs,.int _ b::ys=>decide (a=b)&&zW xs ys
 | .bool a::xs,.bool b::ys=>decide (a=b)&&zW xs ys
 | [],[]=>true
 | _,_=>false
def y9:Value->Value->Bool
 | .int _ a,.int _ b=>decide (a=b)
 | .agg p,.agg q=>zW p.toList q.toList
 | .string p,.string q=>decide (p=q)
 | .pointer p,.pointer q=>decide (p=q)
 | _,_=>false
def uE:List (Value × Value)->Value->Option Value
 | [],_=>none
 | (k,v)::m,x=>if y9 x k then some v else uE m x
def uF:List (Value × Value)->Value->Value->List (Value × Value)
 | [],x,v=>[(x,v)]
 | (k,u)::m,x,v=>if y9 x k then (x,v)::m else (k,u)::uF m x v
def lkK (o:Option Value) (A:Value->Prop) (B:Prop):Prop:=(∀ v,o=some v->A v)/\(o=none->B)
def lkV (ok:Bool) (v:Value) (b:Bool):Value :=
 match ok with
 | true=>.tuple #[v,.bool b]
 | false=>v
inductive I where
 | mv (x:X)
 | pick (c a b:X)
 | ar (o:BinOp) (k:IntKind) (x y:X)
 | arf (o:BinOp) (k:IntKind) (x y:X)
 | dv (rem:Bool) (k:IntKind) (x y:X)
 | dvr (rem:Bool) (k:IntKind) (x y:X)
 | cmp (o:BinOp) (k:IntKind) (x y:X)
 | sh (left:Bool) (k:IntKind) (x y:X)
 | bit (o:BinOp) (k:IntKind) (x y:X)
 | bnr (k:IntKind) (x y:X)
 | eqb (neg:Bool) (x y:X)
 | eqs (neg:Bool) (x y:X)
 | eqn (nk:NK) (neg:Bool) (x:X)
 | eqa (neg:Bool) (ks:List LK) (x y:X)
 | eqp (neg:Bool) (x y:X)
 | not (x:X)
 | neg (k:IntKind) (x:X)
 | cv (k:IntKind) (x:X)
 | cvf (k:IntKind) (x:X)
 | ext (x:X) (i:Nat)
 | bld (z:List Value) (ps:List (Nat × Nat × X))
 | bsl (key T sz n:Nat) (z:List Value) (ps:List (Nat × Nat × X))
 | alc (key T:Nat) (z:List Value)
 | box (key T:Nat) (x:X)
 | ld (lk:LK) (x:X)
 | lda (n:Nat) (ks:List LK) (x:X)
 | st (n:Nat) (x y:X)
 | nil (x:X)
 | fa (off:Nat) (x:X)
 | ia (sz:Nat) (x y:X)
 | iaa (sz len:Nat) (x y:X)
 | lens (x:X)
 | lnm (x:X)
 | lent (x:X)
 | mm (max:Bool) (k:IntKind) (x y:X)
 | app (key T sz bytes:Nat) (x y:X)
 | mks (key T sz bytes:Nat) (z:List Value) (x y:X)
 | mki (T:Nat) (x:X)
 | mkf (fn:Fn) (first captured:List X)
 | call (f:Nat) (args:List X)
 | cald (x:X) (args:List X)
 | slc (sz:Nat) (x:X) (lo hi:Option X)
 | slo (sz:Nat) (x:X) (hi:Option X)
 | apz (key T sz bytes:Nat) (z:List Value) (x y:X)
 | fld (off:Nat) (lk:LK) (x:X)
 | fls (off n:Nat) (x:X)
 | cvs (x:X)
 | apc (T sz:Nat) (x y:X)
 | mkm (key:Nat) (kk:KK) (hint:Option X)
 | lku (kk:KK) (ok:Bool) (z:Value) (x y:X)
 | mup (kk:KK) (x y z:X)
 | lks (ok:Bool) (z:Value) (x y:X)
 | mus (x y z:X)
 | tas (T:Nat) (ok:Bool) (z:Value) (x:X)
 | cvb (key:Nat) (bs:List Nat)
 | cvm (x:X)
 | cpy (x y:X)
 | idx (len:Nat) (x y:X)
 | ixs (sz len:Nat) (x y:X)
 | capn (x:X)
 | cpn (sz:Nat) (x y:X)
 | xcall (f:Nat) (args:List X)
 | cat (x y:X)
 | sst (x:X) (lo hi:Option X)
 | cvt (key:Nat) (x:X)
 | raw (o:Oper)
def znN (w0:World) (fp0:List Nat) (L:List Ent) (m:List (Value × Value)) (u:Value):Prop :=
 ∀ w,R w0 fp0 L w->vA w u/\∀ p∈m,vA w p.1
def zvR (m:List (Value × Value)) (u v:Value) (m':List (Value × Value)):Prop :=
 ∀ p∈m',(p.1=u∨∃ q∈m,p.1=q.1)/\(p.2=v∨∃ q∈m,p.2=q.2)
@[reducible] def keysK (w0 : World) (fp0 : List Nat) (L : List Ent) (kk : KK) (m : List (Value × Value)) (u : Value) (K : Prop) : Prop :=
  match kk with
  | .ptr=>(∀ w,R w0 fp0 L w->zfI w u/\∀ p∈m,zfI w p.1)/\K
  | _=>K
theorem zdf {w0:World} {fp0:List Nat} {L:List Ent} {kk:KK} {m:List (Value × Value)} {u:Value} {K K':Prop} (hk:K->K') (h:keysK w0 fp0 L kk m u K):keysK w0 fp0 L kk m u K':=by
 cases kk
 ·exact hk h
 ·exact hk h
 ·exact hk h
 ·exact ⟨h.1,hk h.2⟩
theorem zsY {w0:World} {fp0:List Nat} {L:List Ent} {kk:KK} {m:List (Value × Value)} {u:Value} {K:Prop} (h:keysK w0 fp0 L kk m u K):K:=by
 cases kk
 ·exact h
 ·exact h
 ·exact h
 ·exact h.2
section
variable (P:Program) (w0:World) (fp0:List Nat)
def Rd (L:List Ent) (s:SV) (cs:List Value):Prop :=
 ∀ w,R w0 fp0 L w->∃ b off,s.val=.pointer (some ⟨b,off,none⟩)/\∀ j v,cs[j]?=some v->w.cell? ⟨b,off+j,none⟩=some v
def RdS (L:List Ent) (a:Option Addr) (len:Nat) (xs:List Value):Prop :=
 len=xs.length/\(xs=[]∨∀ w,R w0 fp0 L w->∃ b off,a=some ⟨b,off,none⟩/\∀ j v,xs[j]?=some v->w.cell? ⟨b,off+j,none⟩=some v)
def St (L:List Ent) (s:SV) (vs:List Value) (L':List Ent):Prop :=
 ∀ w,R w0 fp0 L w->∃ b off cur T,s.val=.pointer (some ⟨b,off,none⟩)/\w.heap[b]?=some (.cells cur T (0,0))/\off+vs.length<=cur.size/\R w0 fp0 L' (w.setRow b (zD cur.toList off vs).toArray)
def z8 (f:FuncId) (args:List Value) (L:List Ent) (k:SV->List Ent->Prop):Prop :=
 ∀ w,R w0 fp0 L w->Calls P f args.toArray w fun e w'=>∃ v s L',e=.returned v/\s.val=v/\R w0 fp0 L' w'/\k s L'
def zjz (f:FuncId):Bool :=
 match P.funcs[f]? with
 | some fn => fn.name != "runtime.NumGoroutine" && fn.body.isSome
 | none=>false
def zaq (L:List Ent) (sz:Nat) (s:SV) (K:Nat->List Value->Prop):Prop :=
 match s with
 | .sl key a n c => match zL key L with
   | some o=>(o.a=a/\o.n=n/\o.c=c/\o.sz=sz)/\K n o.xs
   | none=>False
 | .v (.slice a n _)=>∃ xs,RdS w0 fp0 L a (n*sz) xs/\K n xs
 | _=>False
def jB (e:Env) (o:Option X) (d:Int) (K:Int->Prop):Prop :=
 match o with
 | some x=>vM (ev e x) K
 | none=>K d
def okA (key:Nat) (a:Option Addr) (L:List Ent):Prop :=
 match zL key L with
 | some o=>o.a=a/\0<o.n
 | none=>a≠none
theorem znY {w0 w:World} {fp0:List Nat} {key:Nat} {a:Option Addr} {L:List Ent} (hR:R w0 fp0 L w) (h:okA key a L):a≠none:=by
 unfold okA at h
 split at h
 ·rename_i o ho
  obtain ⟨rfl,hn⟩:=h
  obtain ⟨L',h1,_⟩:=yj (a:=o.a) (n:=o.n) (c:=o.c) (T:=o.T) (sz:=o.sz) (xs:=o.xs) ho
  have hk:w.ownsRow 0 o.T o.sz (.slice o.a o.n o.c) o.n o.xs:=(hR.perm h1).ok _ g5q
  rcases hk.2 with ⟨h2,h3⟩|⟨g,cap,cur,h2,_⟩
  ·omega
  ·simp only [Value.slice.injEq] at h2
   rw [h2.1]
   simp
 ·exact h
def xc (a:Option Addr) (c l sz:Nat):Option Addr:=if c=l then a else a.map fun x=>x.add (l*sz)
def xd (bs:List Nat):List Value:=bs.map fun x:Nat=>Value.int .u8 (x:Int)
def zfK (b:Nat) (bs:List Nat) (w:World):Prop:=∀ j v,(xd bs)[j]?=some v->w.cell? ⟨b,j,none⟩=some v
def zrL (a:Option Addr) (xs:List Value) (w:World):Prop:=∀ j v,xs[j]?=some v->∃ g,a=some ⟨g,0,none⟩/\w.cell? ⟨g,j,none⟩=some v
def zbI (key:Nat):List Ent->List Ent
 | []=>[]
 | .own k a n c T sz xs::L=>if k=key then .abs k (Value.slice a n c).ownBlock.toList (zrL a xs)::L else .own k a n c T sz xs::zbI key L
 | .box k b cs T::L=>.box k b cs T::zbI key L
 | .mapE k b kk m::L=>.mapE k b kk m::zbI key L
 | .abs k fp ok::L=>.abs k fp ok::zbI key L
def VI (i:I) (e:Env) (L:List Ent) (k:SV->List Ent->Prop):Prop :=
 match i with
 | .mv x=>gA (ev e x) fun s=>k s L
 | .pick c a b=>jt (ev e c) fun t=>gA (ev e a) fun s=>gA (ev e b) fun u=>(t=true->k s L)/\(t=false->k u L)
 | .ar o kd x y=>yg kd (ev e x) fun p=>yg kd (ev e y) fun q=>za8 kd (arF o p q) fun r=>k (.v (.int kd r)) L
 | .arf o kd x y=>yg kd (ev e x) fun p=>yg kd (ev e y) fun q=>zeF kd (arF o p q) fun r=>k (.v (.int kd r)) L
 | .dv rem kd x y=>yg kd (ev e x) fun p=>yg kd (ev e y) fun q=>(0<=p/\p<=hiK kd/\0<q)/\k (.v (.int kd (match rem with|true=>p%q|false=>p/q))) L
 | .dvr rem kd x y=>yg kd (ev e x) fun p=>yg kd (ev e y) fun q=>q≠0/\k (.v (.int kd (match rem with|true=>p.tmod q|false=>kd.wrap (p.tdiv q)))) L
 | .cmp o kd x y=>yg kd (ev e x) fun p=>yg kd (ev e y) fun q=>k (.v (.bool (znW o p q))) L
 | .sh left kd x y => yg kd (ev e x) fun p => vM (ev e y) fun q => (0 <= q /\ q <= biK kd) /\ match left with
   | true=>za8 kd (p*((2 ^ q.toNat:Nat):Int)) fun r=>k (.v (.int kd r)) L
   | false=>k (.v (.int kd (p/((2 ^ q.toNat:Nat):Int)))) L
 | .bit o kd x y=>yg kd (ev e x) fun p=>yg kd (ev e y) fun q=>(0<=p/\p<=hiK kd/\0<=q/\q<=hiK kd)/\k (.v (.int kd ((zdJ o p.toNat q.toNat:Nat):Int))) L
 | .bnr kd x y=>yg kd (ev e x) fun p=>yg kd (ev e y) fun q=>k (.v (.int kd (zt5 kd p q))) L
 | .eqb ng x y=>jt (ev e x) fun p=>jt (ev e y) fun q=>k (.v (.bool (ngB ng (p == q)))) L
 | .eqs ng x y => gA (ev e x) fun s => gA (ev e y) fun u => match s,u with
   | .v (.string p),.v (.string q)=>k (.v (.bool (ngB ng (p == q)))) L
   | _,_=>False
 | .eqn nk ng x=>gA (ev e x) fun s=>zdK nk s fun b=>k (.v (.bool (ngB ng (b)))) L
 | .eqa ng ks x y => gA (ev e x) fun s => gA (ev e y) fun u => match s,u with
   | .v (.agg p),.v (.agg q)=>zE p.toList q.toList ks/\k (.v (.bool (ngB ng (zW p.toList q.toList)))) L
   | _,_=>False
 | .eqp ng x y=>gA (ev e x) fun s=>gA (ev e y) fun u=>∃ a b:Addr,(s.val=.pointer (some a)/\u.val=.pointer (some b)/\a.block=b.block)/\k (.v (.bool (ngB ng (decide (a=b))))) L
 | .not x=>jt (ev e x) fun b=>k (.v (.bool (!b))) L
 | .neg kd x=>yg kd (ev e x) fun p=>za8 kd (0 - p) fun r=>k (.v (.int kd r)) L
 | .cv kd x=>vM (ev e x) fun p=>za8 kd p fun r=>k (.v (.int kd r)) L
 | .cvf kd x=>vM (ev e x) fun p=>zeF kd p fun r=>k (.v (.int kd r)) L
 | .ext x i => gA (ev e x) fun s => match s with
   | .v (.tuple vs)=>gV (nth vs.toList i) fun v=>k (.v v) L
   | _=>False
 | .bld z ps=>gPs e ps fun l=>k (.v (.agg (ud z l).toArray)) L
 | .bsl key T sz n z ps=>gPs e ps fun l=>yq (ud z l)/\∀ b:Nat,k (.sl key (some ⟨b,0,none⟩) n n) (.own key (some ⟨b,0,none⟩) n n T sz (ud z l)::L)
 | .alc key T z=>∀ b:Nat,k (.ptr key b 0) (.box key b z T::L)
 | .box key T x=>gA (ev e x) fun s=>∀ b:Nat,k (.ptr key b 0) (.box key b (yE s) T::L)
 | .ld lk x => gA (ev e x) fun s => match s with
   | .ptr key b off => match kn key L with
     | some (b',cs,_)=>b'=b/\gV (nth cs off) fun v=>k (.v v) L
     | none=>uD lk fun v=>Rd w0 fp0 L s [v]/\k (.v v) L
   | .ek key a i => match zL key L with
     | some o=>o.a=a/\uD lk fun v=>o.xs[i]?=some v/\k (.v v) L
     | none=>False
   | s=>uD lk fun v=>Rd w0 fp0 L s [v]/\k (.v v) L
 | .lda n _ks x => gA (ev e x) fun s => match s with
   | .ptr key b off => match kn key L with
     | some (b',cs,_)=>(b'=b/\off+n<=cs.length)/\k (.v (.agg ((cs.drop off).take n).toArray)) L
     | none=>∃ vs:List Value,vs.length=n/\Rd w0 fp0 L s vs/\k (.v (.agg vs.toArray)) L
   | .ek key a i => match zL key L with
     | some o=>o.a=a/\∃ vs:List Value,vs.length=n/\(o.xs.drop i).take n=vs/\k (.v (.agg vs.toArray)) L
     | none=>False
   | s=>∃ vs:List Value,vs.length=n/\Rd w0 fp0 L s vs/\k (.v (.agg vs.toArray)) L
 | .st n x y => gA (ev e x) fun s => gA (ev e y) fun u => ((yE u).length = n /\ yq (yE u)) /\ match s with
   | .ptr key b off => match kn key L with
     | some (b',cs,_)=>(b'=b/\off+n<=cs.length)/\k (.v undef) (jA key (zD cs off (yE u)) L)
     | none=>∃ L',St w0 fp0 L s (yE u) L'/\k (.v undef) L'
   | .ek key a i => match zL key L with
     | some o=>(o.a=a/\i+n<=o.xs.length)/\k (.v undef) (qp key o.a o.n o.c (zD o.xs i (yE u)) L)
     | none=>False
   | s=>∃ L',St w0 fp0 L s (yE u) L'/\k (.v undef) L'
 | .nil x => gA (ev e x) fun s => match s with
   | .v (.pointer p)=>p≠none/\k s L
   | .ptr ..=>k s L
   | .el a _=>a≠none/\k s L
   | .ek key a _=>okA key a L/\k s L
   | _=>False
 | .fa off x => gA (ev e x) fun s => match s with
   | .ptr key b o=>k (.ptr key b (o+off)) L
   | .el a o=>a≠none/\k (.el a (o+off)) L
   | .ek key a o=>okA key a L/\k (.ek key a (o+off)) L
   | .v (.pointer (some ad))=>k (.v (.pointer (some (ad.add off)))) L
   | _=>False
 | .ia sz x y => gA (ev e x) fun s => vM (ev e y) fun i => match s with
   | .v (.slice a n _)=>(0<=i/\i<n)/\a≠none/\k (.el a (i.toNat*sz)) L
   | .sl key a n _=>(0<=i/\i<n)/\okA key a L/\k (.ek key a (i.toNat*sz)) L
   | _=>False
 | .iaa sz len x y => gA (ev e x) fun s => vM (ev e y) fun i => match s with
   | .v (.pointer (some ad))=>(0<=i/\i<len)/\k (.v (.pointer (some (ad.add (i.toNat*sz))))) L
   | .ptr key b o=>(0<=i/\i<len)/\k (.ptr key b (o+i.toNat*sz)) L
   | _=>False
 | .lens x => gA (ev e x) fun s => match s with
   | .v (.slice _ n _)=>k (.v (.int .i64 (n:Int))) L
   | .sl _ _ n _=>k (.v (.int .i64 (n:Int))) L
   | _=>False
 | .lent x => gA (ev e x) fun s => match s with
   | .v (.string b)=>k (.v (.int .i64 (b.size:Int))) L
   | _=>False
 | .mm mx kd x y=>yg kd (ev e x) fun p=>yg kd (ev e y) fun q=>k (.v (.int kd (match mx with|true=>if q>p then q else p|false=>if q<p then q else p))) L
 | .app key T sz bytes x y => gA (ev e x) fun s => gA (ev e y) fun u => zaq w0 fp0 L sz u fun m ys => yq ys /\ match s with
   | .sl key' a n c => match zL key' L with
     | some o=>(o.a=a/\o.n=n/\o.c=c/\o.T=T/\o.sz=sz)/\(n+m<=maxLen/\(n+m)*bytes<=140737488355328)/\∀ a' c',k (.sl key' a' (n+m) c') (qp key' a' (n+m) c' (o.xs++ys) L)
     | none=>False
   | .v (.slice none 0 0)=>(m<=maxLen/\m*bytes<=140737488355328)/\∀ a' c',k (.sl key a' m c') (.own key a' m c' T sz ys::L)
   | .vie key' a n c => match zL key' L with
     | some o=>(o.a=a/\o.c=c/\o.T=T/\o.sz=sz/\n+m<=o.n/\0<o.n)/\k (.vie key' a (n+m) c) (qp key' a o.n c (zD o.xs (n*sz) ys) L)
     | none=>False
   | _=>False
 | .mks key T sz bytes z x y=>vM (ev e x) fun l=>vM (ev e y) fun c=>(0<=l/\l<=c/\bytes*c<=281474976710656/\c<=maxLen) /\
  ∀ b:Nat,k (.sl key (some ⟨b,0,none⟩) l.toNat c.toNat) (.own key (some ⟨b,0,none⟩) l.toNat c.toNat T sz (List.replicate l.toNat z).flatten::L)
 | .cpy x y => gA (ev e x) fun s => gA (ev e y) fun u => zaq w0 fp0 L 1 u fun m ys => yq ys /\ match s with
   | .sl key' a n c => match zL key' L with
     | some o=>(o.a=a/\o.n=n/\o.c=c/\o.sz=1/\m<=n/\0<m)/\k (.v (.int .i64 (m:Int))) (qp key' a n c (zD o.xs 0 ys) L)
     | none=>False
   | _=>False
 | .idx len x y => gA (ev e x) fun s => vM (ev e y) fun i => match s with
   | .v (.agg cs)=>(0<=i/\i<len)/\∃ v,cs.toList[i.toNat]?=some v/\k (.v v) L
   | _=>False
 | .ixs sz len x y => gA (ev e x) fun s => vM (ev e y) fun i => match s with
   | .v (.agg cs)=>(0<=i/\i<len)/\k (.v (.agg ((cs.toList.drop (i.toNat*sz)).take sz).toArray)) L
   | _=>False
 | .mki T x=>gA (ev e x) fun s=>k (.v (.iface T s.val)) L
 | .mkf fn first captured=>gAs e first fun l=>gAs e captured fun l'=>k (.v (.func fn (l.map SV.val).toArray (l'.map SV.val).toArray)) L
 | .call f args=>gAs e args fun l=>z8 P w0 fp0 f (l.map SV.val) L k
 | .cald x args => gA (ev e x) fun s => gAs e args fun l => match s with
   | .v (.func (.func f) first captured)=>zjz P f=true/\z8 P w0 fp0 f (first.toList++l.map SV.val++captured.toList) L k
   | _=>False
 | .slc sz x lo hi => gA (ev e x) fun s => jB e lo 0 fun l => match s with
   | .v (.slice a n c)=>jB e hi n fun h=>(0<=l/\l<=h/\h<=c)/\k (.v (.slice (xc a c l.toNat sz) (h.toNat - l.toNat) (c - l.toNat))) L
   | .sl _ a n c=>jB e hi n fun h=>(0<=l/\l<=h/\h<=c)/\k (.v (.slice (xc a c l.toNat sz) (h.toNat - l.toNat) (c - l.toNat))) L
   | _=>False
 | .apz key T sz bytes z x y => gA (ev e x) fun s => vM (ev e y) fun q => (0 <= q /\ yq z) /\ match s with
   | .sl key' a n c => match zL key' L with
     | some o=>(o.a=a/\o.n=n/\o.c=c/\o.T=T/\o.sz=sz)/\(n+q.toNat<=maxLen/\(n+q.toNat)*bytes<=140737488355328)/\∀ a' c',k (.sl key' a' (n+q.toNat) c') (qp key' a' (n+q.toNat) c' (o.xs++(List.replicate q.toNat z).flatten) L)
     | none=>False
   | .v (.slice none 0 0)=>(q.toNat<=maxLen/\q.toNat*bytes<=140737488355328)/\∀ a' c',k (.sl key a' q.toNat c') (.own key a' q.toNat c' T sz (List.replicate q.toNat z).flatten::L)
   | .v (.slice (some _) 0 c)=>(c<q.toNat/\q.toNat<=maxLen/\q.toNat*bytes<=140737488355328)/\∀ a' c',q.toNat<=c'->k (.sl key a' q.toNat c') (.own key a' q.toNat c' T sz (List.replicate q.toNat z).flatten::L)
   | _=>False
 | .slo sz x hi => gA (ev e x) fun s => match s with
   | .sl key a n c => match zL key L with
     | some o=>jB e hi n fun h=>(o.a=a/\o.c=c/\o.sz=sz/\0<=h/\h<=o.n)/\k (.sl key a h.toNat c) (qp key a h.toNat c (o.xs.take (h.toNat*sz)) L)
     | none=>False
   | _=>False
 | .fld off _ x => gA (ev e x) fun s => match s with
   | .v (.agg cs)=>gV (nth cs.toList off) fun v=>k (.v v) L
   | _=>False
 | .fls off n x => gA (ev e x) fun s => match s with
   | .v (.agg cs)=>off+n<=cs.toList.length/\k (.v (.agg ((cs.toList.drop off).take n).toArray)) L
   | _=>False
 | .cvs x=>gA (ev e x) fun s=>zaq w0 fp0 L 1 s fun _ ys=>∃ l:List UInt8,ys=l.map (fun b:UInt8=>Value.int .u8 (b.toNat:Int))/\k (.v (.string ⟨l.toArray⟩)) L
 | .apc T sz x y => gA (ev e x) fun s => gA (ev e y) fun u => zaq w0 fp0 L sz u fun m ys => yq ys /\ match s with
   | .sl key' a n c => match zL key' L with
     | some o=>(o.a=a/\o.n=n/\o.c=c/\o.T=T/\o.sz=sz/\0<m/\n+m<=c)/\k (.sl key' a (n+m) c) (qp key' a (n+m) c (o.xs++ys) L)
     | none=>False
   | _=>False
 | .mkm key kk hint=>jB e hint 0 fun _=>∀ b:Nat,k (.mp key b) (.mapE key b kk []::L)
 | .lnm x => gA (ev e x) fun s => match s with
   | .mp key b => match vp key L with
     | some (b',_,m)=>b'=b/\k (.v (.int .i64 m.length)) L
     | none=>False
   | .v (.map none)=>k (.v (.int .i64 0)) L
   | _=>False
 | .lku kk ok z x y => gA (ev e x) fun s => gA (ev e y) fun u => match s with
   | .mp key b => match vp key L with
     | some (b',kk',m)=>(b'=b/\kk'=kk/\qj kk u.val)/\keysK w0 fp0 L kk m u.val (lkK (uE m u.val) (fun v=>k (.v (lkV ok v true)) L) (k (.v (lkV ok z false)) L))
     | none=>False
   | .v (.map none)=>qj kk u.val/\k (.v (lkV ok z false)) L
   | _=>False
 | .mup kk x y z => gA (ev e x) fun s => gA (ev e y) fun u => gA (ev e z) fun t => match s with
   | .mp key b => match vp key L with
     | some (b',kk',m)=>(b'=b/\kk'=kk/\qj kk u.val)/\keysK w0 fp0 L kk m u.val (k (.v undef) (uT key (uF m u.val t.val) L))
     | none=>False
   | _=>False
 | .lks ok z x y => gA (ev e x) fun s => gA (ev e y) fun u => match s with
   | .mp key b => match vp key L with
     | some (b',kk',m)=>(b'=b/\kk'=.ptr/\qj .ptr u.val)/\znN w0 fp0 L m u.val/\(∀ p∈m,k (.v (lkV ok p.2 true)) L)/\k (.v (lkV ok z false)) L
     | none=>False
   | _=>False
 | .mus x y z => gA (ev e x) fun s => gA (ev e y) fun u => gA (ev e z) fun t => match s with
   | .mp key b => match vp key L with
     | some (b',kk',m)=>(b'=b/\kk'=.ptr/\qj .ptr u.val)/\znN w0 fp0 L m u.val/\∀ m',zvR m u.val t.val m'->k (.v undef) (uT key m' L)
     | none=>False
   | _=>False
 | .tas T ok z x => gA (ev e x) fun s => match s with
   | .v (.iface T' v)=>(T'=T->k (.v (lkV ok v true)) L)/\(T'≠T->ok=true/\k (.v (lkV ok z false)) L)
   | .v .nilIface=>ok=true/\k (.v (lkV ok z false)) L
   | _=>False
 | .capn x => gA (ev e x) fun s => match s with
   | .sl _ _ _ c=>k (.v (.int .i64 (c:Int))) L
   | .v (.slice _ _ c)=>k (.v (.int .i64 (c:Int))) L
   | _=>False
 | .cpn sz x y => gA (ev e x) fun s => gA (ev e y) fun u => ∃ key : Nat,match zL key L with
   | some o=>∃ (kk dl dc sl sc n':Nat) (b:Option Addr) (ys:List Value),(s.val=.slice (xc o.a o.c kk sz) dl dc/\u.val=.slice b sl sc/\o.sz=sz/\(kk<=o.n/\kk+Nat.min sl dl<=o.c/\0<o.n/\n'=max o.n (kk+Nat.min sl dl)/\0<Nat.min sl dl/\0<sz)/\RdS w0 fp0 L b (Nat.min sl dl*sz) ys/\yq ys)/\k (.v (.int .i64 (Nat.min sl dl:Nat))) (qp key o.a n' o.c (zD o.xs (kk*sz) ys) L)
   | none=>False
 | .xcall f args=>gAs e args fun l=>∃ v:Value,(∀ w,R w0 fp0 L w->(callFunc f (l.map SV.val).toArray).run P w=.ok (.value v) w)/\k (.v v) L
 | .cat x y => gA (ev e x) fun s => gA (ev e y) fun u => match s,u with
   | .v (.string p),.v (.string q)=>p.size+q.size<=9223372036854775807/\k (.v (.string (p++q))) L
   | _,_=>False
 | .sst x lo hi => gA (ev e x) fun s => match s with
   | .v (.string p)=>jB e lo 0 fun l=>jB e hi p.size fun h=>(0<=l/\l<=h/\h<=p.size)/\k (.v (.string (p.extract l.toNat h.toNat))) L
   | _=>False
 | .cvt key x => gA (ev e x) fun s => match s with
   | .v (.string p)=>∀ b c:Nat,p.size<=c->(p.size<=maxLen->c<=maxLen)->k (.v (.slice (some ⟨b,0,none⟩) p.size c)) (.abs key [b] (zfK b (p.data.toList.map UInt8.toNat))::L)
   | _=>False
 | .cvb key bs=>∀ b c:Nat,k (.v (.slice (some ⟨b,0,none⟩) bs.length c)) (.abs key [b] (zfK b bs)::L)
 | .cvm x => gA (ev e x) fun s => match s with
   | .sl key a n c => match zL key L with
     | some o=>(o.a=a/\o.n=n/\o.c=c/\0<o.xs.length)/\k (.v (.slice a n c)) (zbI key L)
     | none=>False
   | _=>False
 | .raw o=>∀ (n:Nat) (ds:List Deferred) (a:Act) (w:World),Agree n ds e a->R w0 fp0 L w->∃ v w',(execOp a.eval o).run P w=.ok (.value v) w'/\∃ s L',s.val=v/\R w0 fp0 L' w'/\k s L'
end
def zhM (P:Program) (t:TypeId):Option LK :=
 match P.underlying t with
 | some (.int k)=>some (.int k)
 | some .bool=>some .bool
 | some .string=>some .str
 | some (.pointer _)=>some .ptr
 | some (.slice _)=>some .slc
 | some (.map _ _)=>some .map
 | some (.struct _)|some (.array _ _)|none=>none
 | some _=>some .raw
def znO (P:Program):Nat->TypeId->List LK
 | 0,_=>[]
 | d + 1,t => match zhM P t with
   | some lk=>[lk]
   | none => match P.underlying t with
     | some (.struct fs)=>fs.toList.flatMap fun f=>znO P d f.type
     | some (.array n e)=>(List.replicate n (znO P d e)).flatten
     | _=>[]
def zhN (P:Program) (t:TypeId):Option NK :=
 match P.underlying t with
 | some (.pointer _)=>some .ptr
 | some (.interface _)=>some .ifc
 | some (.slice _)=>some .slc
 | some (.map _ _)=>some .map
 | some (.func ..)=>some .fn
 | _=>none
def zgt:NK->Operand->Bool
 | .ifc,.const .nilIface=>true
 | .ptr,.const (.pointer none)=>true
 | .slc,.const (.slice none 0 0)=>true
 | .map,.const (.map none)=>true
 | .fn,.const .nilFunc=>true
 | _,_=>false
def jh (P:Program):List Field->Nat->Option (List LK)
 | [],_=>some []
 | f :: fs,n =>
   if f.offset = n /\ (f.name == "_") = false then
    match P.underlying f.type with
    | some (.int k)=>(jh P fs (n+1)).map (.int k::·)
    | some .bool=>(jh P fs (n+1)).map (.bool::·)
    | _=>none
   else none
def zcs (P:Program):List Field->Nat->Option (List LK)
 | [],_=>some []
 | f :: fs,n =>
   if f.offset = n /\ (f.name == "_") = false then
    match P.underlying f.type with
    | some (.int k)=>(zcs P fs (n+1)).map (.int k::·)
    | some .bool=>(zcs P fs (n+1)).map (.bool::·)
    | some (.struct gs) => if P.stoodInHeld f.type = false then
       match jh P gs.toList 0,P.info? f.type with
       | some ks,some j=>if j.size=ks.length then (zcs P fs (n+ks.length)).map (ks++·) else none
       | _,_=>none
      else none
    | _=>none
   else none
def yX (P:Program) (t:TypeId):Option KK :=
 match P.underlying t with
 | some (.int k)=>some (.int k)
 | some (.struct fs)=>if P.stoodInHeld t=false then (jh P fs.toList 0).map .agg else none
 | some .string=>some .str
 | some (.pointer el) => match P.info? el with
   | some j=>if 0<j.size then some .ptr else none
   | none=>none
 | _=>none
def zrM (P:Program) (t:TypeId):Bool :=
 match P.underlying t with
 | some (.interface _)=>true
 | some _=>false
 | none=>true
def zfL (P:Program) (fields:Array Field) (tot:Nat):List (Nat × Operand)->Option (List (Nat × Nat × X))
 | []=>some []
 | (i,x) :: ps =>
   match fields[i]? with
   | some f => match P.info? f.type with
     | some j=>if f.offset+j.size<=tot then (zfL P fields tot ps).map ((f.offset,j.size,cX x)::·) else none
     | none=>none
   | none=>none
def zhO (sz:Nat) (ps:List (Nat × Operand)):List (Nat × Nat × X):=ps.map fun p=>(p.1*sz,sz,cX p.2)
def znP (P:Program) (e:TypeId):Bool :=
 match P.underlying e,P.info? e with
 | some .bool,some j=>decide (j.size=1)
 | some (.int _),some j=>decide (j.size=1)
 | _,_=>false
def zt7 (o:BinOp) (x y:X):Option I :=
 match o with
 | .eql=>some (.eqs false x y)
 | .neq=>some (.eqs true x y)
 | .add=>some (.cat x y)
 | _=>none
def znZ (key:Nat):Operand->I
 | .const (.string bs)=>.cvb key (bs.data.toList.map UInt8.toNat)
 | x=>.cvt key (cX x)
theorem zrN (key:Nat) (x:Operand):(∃ bs,x=.const (.string bs)/\znZ key x=.cvb key (bs.data.toList.map UInt8.toNat))∨znZ key x=.cvt key (cX x):=by
 unfold znZ
 split
 ·exact .inl ⟨_,rfl,rfl⟩
 ·exact .inr rfl
def cI (P:Program) (fl:Bool) (dst:Option Nat) (op:Op):Option I :=
 match op with
 | .move x|.assign x=>some (.mv (cX x))
 | .pick c a b=>some (.pick (cX c) (cX a) (cX b))
 | .binOp o t x y _ =>
   match P.underlying t with
   | some (.int k) =>
     if zrK o then some (if fl then .arf o k (cX x) (cX y) else .ar o k (cX x) (cX y))
     else if znM o then some (.cmp o k (cX x) (cX y))
     else if ziH o then (match fl,o with
      | true,.and=>some (.bnr k (cX x) (cX y))
      | _,o=>some (.bit o k (cX x) (cX y)))
     else match o with
      | .quo=>some (if fl then .dvr false k (cX x) (cX y) else .dv false k (cX x) (cX y))
      | .rem=>some (if fl then .dvr true k (cX x) (cX y) else .dv true k (cX x) (cX y))
      | .shl=>some (.sh true k (cX x) (cX y))
      | .shr=>some (.sh false k (cX x) (cX y))
      | _=>none
   | some .bool => match o with
     | .eql=>some (.eqb false (cX x) (cX y))
     | .neq=>some (.eqb true (cX x) (cX y))
     | _=>none
   | some .string=>zt7 o (cX x) (cX y)
   | some (.array m el) =>
     match P.underlying el,P.info? el with
     | some (.int kd),some j => if j.size = 1 /\ P.eqGuardType P.depth t = false then
        match o with
        | .eql=>some (.eqa false (List.replicate m (.int kd)) (cX x) (cX y))
        | .neq=>some (.eqa true (List.replicate m (.int kd)) (cX x) (cX y))
        | _=>none
       else none
     | _,_=>none
   | some (.struct fs) =>
     if P.stoodInHeld t=false/\P.eqGuardType P.depth t=false then
      match zcs P fs.toList 0 with
      | some ks => match o with
        | .eql=>some (.eqa false ks (cX x) (cX y))
        | .neq=>some (.eqa true ks (cX x) (cX y))
        | _=>none
      | none=>none
     else none
   | _ =>
     match zhN P t with
     | some nk =>
       if zgt nk y then match o with
        | .eql=>some (.eqn nk false (cX x))
        | .neq=>some (.eqn nk true (cX x))
        | _=>none
       else match P.underlying t with
        | some (.pointer el) => match P.info? el with
          | some j => if 0 < j.size then match o with
             | .eql=>some (.eqp false (cX x) (cX y))
             | .neq=>some (.eqp true (cX x) (cX y))
             | _=>none
            else none
          | none=>none
        | _=>none
     | none=>none
 | .unOp .not _ x=>some (.not (cX x))
 | .unOp .neg t x => match P.underlying t with
   | some (.int k)=>some (.neg k (cX x))
   | _=>none
 | .unOp .xor t x => match P.underlying t with
   | some (.int .u64)=>some (.bit .xor .u64 (cX (.const (.int .u64 18446744073709551615))) (cX x))
   | _=>none
 | .convert s t x => match P.underlying s,P.underlying t with
   | some (.int _),some (.int k)=>some (if fl then .cvf k (cX x) else .cv k (cX x))
   | some (.slice e),some .string => match P.underlying e with
     | some (.int .u8)=>some (.cvs (cX x))
     | _=>none
   | some .string,some (.slice e) => match P.underlying e with
     | some (.int .u8)=>some (znZ (dst.getD 0) x)
     | _=>none
   | some (.slice _),some (.slice e) => match P.underlying e with
     | some (.int .u8)=>if s=t then some (.cvm (cX x)) else none
     | _=>none
   | _,_=>none
 | .extract x i=>some (.ext (cX x) i)
 | .build t ps => match P.underlying t,P.info? t with
   | some (.struct fs),some j => if (fs.toList.all fun f => (P.info? f.type).isSome) = false then none else match j.zero with
     | some z=>(zfL P fs z.cells.size ps.toList).map (.bld z.cells.toList ·)
     | none=>none
   | some (.array m el),some j => match P.info? el,j.zero with
     | some je,some z=>if z.cells.size=m*je.size/\(ps.toList.all fun p=>p.1<m)=true then some (.bld z.cells.toList (zhO je.size ps.toList)) else none
     | _,_=>none
   | _,_=>none
 | .buildSlice t n ps => match P.underlying t with
   | some (.slice e) => match P.info? e with
     | some j => match j.zero with
       | some z=>if n*j.size<=4096/\z.cells.size=j.size/\0<j.size/\(ps.toList.all fun p=>p.1<n)=true then some (.bsl (dst.getD 0) e j.size n (List.replicate n z.cells.toList).flatten (zhO j.size ps.toList)) else none
       | none=>none
     | none=>none
   | _=>none
 | .alloc t => match P.info? t with
   | some j => match j.zero with
     | some z=>some (.alc (dst.getD 0) t z.cells.toList)
     | none=>none
   | none=>none
 | .box t x=>some (.box (dst.getD 0) t (cX x))
 | .load t x => match zhM P t with
   | some lk=>some (.ld lk (cX x))
   | none => match P.underlying t,P.info? t with
     | some (.struct _),some j=>if 0<j.size then some (.lda j.size (znO P 5 t) (cX x)) else none
     | some (.array _ _),some j=>if 0<j.size then some (.lda j.size (znO P 5 t) (cX x)) else none
     | _,_=>none
 | .store t x y => match P.info? t with
   | some j=>if 0<j.size then some (.st j.size (cX x) (cX y)) else none
   | none=>none
 | .nilCheck x=>some (.nil (cX x))
 | .fieldAddr t x f => match P.underlying t with
   | some (.struct fs) => match fs[f]? with
     | some fd => match P.info? fd.type with
       | some j=>if 0<j.size then some (.fa fd.offset (cX x)) else none
       | none=>none
     | none=>none
   | _=>none
 | .indexAddr t x y => match P.underlying t with
   | some (.slice e) => match P.info? e with
     | some j=>some (.ia j.size (cX x) (cX y))
     | none=>none
   | some (.array len e) => match P.info? e with
     | some j=>some (.iaa j.size len (cX x) (cX y))
     | none=>none
   | _=>none
 | .index t x y => match P.underlying t with
   | some (.array len e)=>if znP P e=true then some (.idx len (cX x) (cX y)) else
    match P.underlying e,P.info? e with
    | some (.array _ _),some j=>some (.ixs j.size len (cX x) (cX y))
    | some (.struct _),some j=>some (.ixs j.size len (cX x) (cX y))
    | _,_=>none
   | _=>none
 | .makeInterface t x => match P.underlying t with
   | some (.interface _)|none=>none
   | some _=>some (.mki t (cX x))
 | .makeFunc fn first captured=>some (.mkf fn (first.toList.map cX) (captured.toList.map cX))
 | .makeSlice t x y => match P.underlying t with
   | some (.slice e) => match P.info? e with
     | some j => match j.zero with
       | some z=>if z.cells.size=j.size/\0<j.size then some (.mks (dst.getD 0) e j.size j.bytes z.cells.toList (cX x) (cX y)) else none
       | none=>none
     | none=>none
   | _=>none
 | .slice t x lo hi none => match P.underlying t with
   | some (.slice e) => match P.info? e with
     | some j => match fl,lo with
       | true,none=>some (.slo j.size (cX x) (hi.map cX))
       | _,_=>some (.slc j.size (cX x) (lo.map cX) (hi.map cX))
     | none=>none
   | some .string=>some (.sst (cX x) (lo.map cX) (hi.map cX))
   | _=>none
 | .field t x f => match P.underlying t with
   | some (.struct fs) => match fs[f]? with
     | some fd => match zhM P fd.type with
       | some lk=>some (.fld fd.offset lk (cX x))
       | none => match P.underlying fd.type,P.info? fd.type with
         | some (.struct _),some j=>if 0<j.size then some (.fls fd.offset j.size (cX x)) else none
         | _,_=>none
     | none=>none
   | _=>none
 | .makeMap t r => match P.underlying t with
   | some (.map kt _)=>(yX P kt).map fun kk=>.mkm (dst.getD 0) kk (r.map cX)
   | _=>none
 | .lookup t x y ok => match P.underlying t with
   | some (.map kt et) => match yX P kt,P.info? et with
     | some kk,some j => match j.zero with
       | some z=>some (match fl,kk with|true,.ptr=>.lks ok z (cX x) (cX y)|_,kk=>.lku kk ok z (cX x) (cX y))
       | none=>none
     | _,_=>none
   | _=>none
 | .mapUpdate t x y z => match P.underlying t with
   | some (.map kt _)=>(yX P kt).map fun kk=>match fl,kk with|true,.ptr=>.mus (cX x) (cX y) (cX z)|_,kk=>.mup kk (cX x) (cX y) (cX z)
   | _=>none
 | .insert t x y z => match P.underlying t with
   | some (.map kt _)=>(yX P kt).map fun kk=>match fl,kk with|true,.ptr=>.mus (cX x) (cX y) (cX z)|_,kk=>.mup kk (cX x) (cX y) (cX z)
   | _=>none
 | .typeAssert x _ t ok => if zrM P t = true then none else match P.info? t with
   | some j => match j.zero with
     | some z=>some (.tas t ok z (cX x))
     | none=>none
   | none=>none
 | .call c => match c.callee with
   | .value (.func f)=>if zjz P f then some (.call f (c.args.toList.map cX)) else some (.xcall f (c.args.toList.map cX))
   | .value x=>some (.cald (cX x) (c.args.toList.map cX))
   | .builtin .len => match c.args.toList,c.argTypes.toList with
     | [x],[t] => match P.underlying t with
       | some (.slice _)=>some (.lens (cX x))
       | some (.map _ _)=>some (.lnm (cX x))
       | some .string=>some (.lent (cX x))
       | _=>none
     | _,_=>none
   | .builtin .max => match c.args.toList,c.argTypes.toList with
     | [x,y],t :: _ => match P.underlying t with
       | some (.int k)=>some (.mm true k (cX x) (cX y))
       | _=>none
     | _,_=>none
   | .builtin .min => match c.args.toList,c.argTypes.toList with
     | [x,y],t :: _ => match P.underlying t with
       | some (.int k)=>some (.mm false k (cX x) (cX y))
       | _=>none
     | _,_=>none
   | .builtin .append => match c.args.toList,c.argTypes.toList with
     | [x,y],[t,u] => if t = u then match P.underlying t with
        | some (.slice e) => match P.info? e with
          | some j => match j.zero with
            | some z=>if z.cells.size=j.size/\0<j.size then some (if fl then .apc e j.size (cX x) (cX y) else .app (dst.getD 0) e j.size j.bytes (cX x) (cX y)) else none
            | none=>none
          | none=>none
        | _=>none
       else match P.underlying t,P.underlying u with
        | some (.slice e),some (.int _) => match P.info? e with
          | some j => match j.zero with
            | some z=>if z.cells.size=j.size/\0<j.size then some (.apz (dst.getD 0) e j.size j.bytes z.cells.toList (cX x) (cX y)) else none
            | none=>none
          | none=>none
        | _,_=>none
     | _,_=>none
   | .builtin .cap => match c.args.toList,c.argTypes.toList with
     | [x],[t] => match P.underlying t with
       | some (.slice _)=>some (.capn (cX x))
       | _=>none
     | _,_=>none
   | .builtin .copy => match c.args.toList,c.argTypes.toList with
     | [x,y],[t,_] => match P.underlying t with
       | some (.slice e) => match P.info? e with
         | some j=>if j.size=1 then some (.cpy (cX x) (cX y)) else some (.cpn j.size (cX x) (cX y))
         | none=>none
       | _=>none
     | _,_=>none
   | _=>none
 | _=>none
section
variable {P:Program} {w0:World} {fp0:List Nat} {n:Nat} {ds:List Deferred} {e:Env} {a:Act} {L:List Ent} {w:World} {k:SV->List Ent->Prop} {o:Oper}
def Fin (w0:World) (fp0:List Nat) (k:SV->List Ent->Prop) (v:Value) (w:World):Prop:=∃ s L',s.val=v/\R w0 fp0 L' w/\k s L'
def kK (P:Program) (w0:World) (fp0:List Nat) (o:Oper) (a:Act) (w:World) (k:SV->List Ent->Prop):Prop :=
 ∃ v w',(execOp a.eval o).run P w=.ok (.value v) w'/\Fin w0 fp0 k v w'
def zJ (P:Program) (w0:World) (fp0:List Nat) (o:Oper) (a:Act) (w:World) (k:SV->List Ent->Prop):Prop :=
 ∃ v,(execOp a.eval o).run P w=.ok (.value v) w/\Fin w0 fp0 k v w
def isQ:I->Bool
 | .alc ..|.box ..|.bsl ..|.app ..|.mks ..|.st ..|.call ..|.cald ..|.mkm ..|.mup ..|.lks ..|.mus ..|.slo ..|.apz ..|.apc ..|.cvb ..|.cvm ..|.cpy ..|.cpn ..|.xcall ..|.cvt ..|.raw _=>false
 | _=>true
def zn0 (P:Program) (w0:World) (fp0:List Nat) (o:Oper) (a:Act) (w:World) (i:I) (k:SV->List Ent->Prop):Prop :=
 zJ P w0 fp0 o a w k ∨
 (isQ i=false/\kK P w0 fp0 o a w k) ∨
 (isQ i=false/\∃ w',(execOp a.eval o).run P w=.ok .skip w'/\Fin w0 fp0 k undef w') ∨
 (isQ i=false/\∃ f args,(execOp a.eval o).run P w=.ok (.enter f args) w/\Calls P f args w fun e w'=>∃ v,e=.returned v/\Fin w0 fp0 k v w')
theorem zn (hR:R w0 fp0 L w) {v:Value} (h:(execOp a.eval o).run P w=.ok (.value v) w) {s:SV} (hs:s.val=v) (hk:k s L):zJ P w0 fp0 o a w k :=
 ⟨v,h,s,L,hs,hR,hk⟩
theorem zq7 (x:Operand) (ho:o.op=.move x∨o.op=.assign x) (hA:Agree n ds e a) (hR:R w0 fp0 L w) (h:VI P w0 fp0 (.mv (cX x)) e L k):zJ P w0 fp0 o a w k:=by
 simp only [VI] at h
 obtain ⟨s,hs,h⟩:=zw h
 have hx:=zk hA hs
 refine zn hR (v:=a.eval x) ?_ hx.symm h
 rcases ho with ho|ho<;>simp [execOp,ho]
theorem zsZ (c x y:Operand) (ho:o.op=.pick c x y) (hA:Agree n ds e a) (hR:R w0 fp0 L w) (h:VI P w0 fp0 (.pick (cX c) (cX x) (cX y)) e L k):zJ P w0 fp0 o a w k:=by
 simp only [VI] at h
 obtain ⟨t,ht,h⟩:=uC h
 obtain ⟨s,hs,h⟩:=zw h
 obtain ⟨u,hu,h⟩:=zw h
 have h1:=zk hA ht
 have h2:=zk hA hs
 have h3:=zk hA hu
 simp only [SV.val] at h1
 cases t
 ·exact zn hR (v:=a.eval y) (by simp [execOp,ho,h1,asBool]) h3.symm (h.2 rfl)
 ·exact zn hR (v:=a.eval x) (by simp [execOp,ho,h1,asBool]) h2.symm (h.1 rfl)
theorem zko (o:BinOp) (t:TypeId) (x y:Operand) (kd:IntKind) (p q:Int):(eqGuard o t x y (.int kd p) (.int kd q)).run P w=.ok () w:=by
 cases o<;>simp [eqGuard]
theorem xe {op:BinOp} {t yt:TypeId} {x y:Operand} (ho:o.op=.binOp op t x y yt) {kd:IntKind} {p q:Int} (hx:a.eval x=.int kd p) (hy:a.eval y=.int kd q) {v:Value}
 (h:(binOp op t (.int kd p) (.int kd q)).run P w=.ok v w):(execOp a.eval o).run P w=.ok (.value v) w:=by
 simp [execOp,ho,hx,hy,zko,h]
theorem zq8 {op:BinOp} {t yt:TypeId} {x y:Operand} (ho:o.op=.binOp op t x y yt) {kd:IntKind} (hop:zrK op=true) (hA:Agree n ds e a) (hR:R w0 fp0 L w)
 (h:VI P w0 fp0 (.ar op kd (cX x) (cX y)) e L k∨VI P w0 fp0 (.arf op kd (cX x) (cX y)) e L k):zJ P w0 fp0 o a w k:=by
 rcases h with h|h<;>simp only [VI] at h<;>obtain ⟨p,hp,h⟩:=qF h<;>obtain ⟨q,hq,h⟩:=qF h
 ·have h:=zde h
  exact zn hR (xe ho (zk hA hp) (zk hA hq) (zsW hop P w kd p q t)) rfl h
 ·have h:=zkm h
  exact zn hR (xe ho (zk hA hp) (zk hA hq) (zsW hop P w kd p q t)) rfl h
theorem zt8 {op:BinOp} {t yt:TypeId} {x y:Operand} (ho:o.op=.binOp op t x y yt) {kd:IntKind} (hop:znM op=true) (hA:Agree n ds e a) (hR:R w0 fp0 L w)
 (h:VI P w0 fp0 (.cmp op kd (cX x) (cX y)) e L k):zJ P w0 fp0 o a w k:=by
 simp only [VI] at h
 obtain ⟨p,hp,h⟩:=qF h
 obtain ⟨q,hq,h⟩:=qF h
 exact zn hR (xe ho (zk hA hp) (zk hA hq) (zv9 hop P w kd p q t)) rfl h
theorem zt9 {op:BinOp} {t yt:TypeId} {x y:Operand} (ho:o.op=.binOp op t x y yt) {kd:IntKind} (hop:ziH op=true) (hA:Agree n ds e a) (hR:R w0 fp0 L w)
 (h:VI P w0 fp0 (.bit op kd (cX x) (cX y)) e L k):zJ P w0 fp0 o a w k:=by
 simp only [VI] at h
 obtain ⟨p,hp,h⟩:=qF h
 obtain ⟨q,hq,⟨h1,h2,h3,h4⟩,h⟩:=qF h
 exact zn hR (xe ho (zk hA hp) (zk hA hq) (zq6 hop P w kd p q t h1 h2 h3 h4)) rfl h
theorem zua {t yt:TypeId} {x y:Operand} (ho:o.op=.binOp .and t x y yt) {kd:IntKind} (hA:Agree n ds e a) (hR:R w0 fp0 L w)
 (h:VI P w0 fp0 (.bnr kd (cX x) (cX y)) e L k):zJ P w0 fp0 o a w k:=by
 simp only [VI] at h
 obtain ⟨p,hp,h⟩:=qF h
 obtain ⟨q,hq,h⟩:=qF h
 exact zn hR (xe ho (zk hA hp) (zk hA hq) (zwb P w kd p q t)) rfl h
theorem ziI {op:BinOp} {t yt:TypeId} {x y:Operand} (ho:o.op=.binOp op t x y yt) {kd:IntKind} {rem:Bool} (hop:op=if rem then .rem else .quo) (hA:Agree n ds e a) (hR:R w0 fp0 L w)
 (h:VI P w0 fp0 (.dv rem kd (cX x) (cX y)) e L k∨VI P w0 fp0 (.dvr rem kd (cX x) (cX y)) e L k):zJ P w0 fp0 o a w k:=by
 rcases h with h|h<;>simp only [VI] at h<;>obtain ⟨p,hp,h⟩:=qF h<;>obtain ⟨q,hq,h⟩:=qF h
 ·obtain ⟨⟨h1,h2,h3⟩,h⟩:=h
  have hr:=zwQ P w kd p q t h1 h2 h3
  cases rem<;>simp only [if_true,Bool.false_eq_true,if_false] at hop<;>subst hop
  ·exact zn hR (xe ho (zk hA hp) (zk hA hq) hr.1) rfl h
  ·exact zn hR (xe ho (zk hA hp) (zk hA hq) hr.2) rfl h
 ·obtain ⟨h1,h⟩:=h
  have hr:=zwc P w kd p q t h1
  cases rem<;>simp only [if_true,Bool.false_eq_true,if_false] at hop<;>subst hop
  ·exact zn hR (xe ho (zk hA hp) (zk hA hq) hr.1) rfl h
  ·exact zn hR (xe ho (zk hA hp) (zk hA hq) hr.2) rfl h
theorem zeG (o:BinOp) (t:TypeId) (x y:Operand) (kd kd':IntKind) (p q:Int):(eqGuard o t x y (.int kd p) (.int kd' q)).run P w=.ok () w:=by
 cases o<;>simp [eqGuard]
theorem zq9 {op:BinOp} {t yt:TypeId} {x y:Operand} (ho:o.op=.binOp op t x y yt) {kd:IntKind} {left:Bool} (hop:op=if left then .shl else .shr) (hA:Agree n ds e a) (hR:R w0 fp0 L w)
 (h:VI P w0 fp0 (.sh left kd (cX x) (cX y)) e L k):zJ P w0 fp0 o a w k:=by
 simp only [VI] at h
 obtain ⟨p,hp,h⟩:=qF h
 obtain ⟨kq,q,hq,⟨h1,h2⟩,h⟩:=qG h
 rw [zwP] at h2
 have ex:=zk hA hp
 have ey:=zk hA hq
 simp only [SV.val] at ex ey
 cases left<;>simp only [if_true,Bool.false_eq_true,if_false] at hop<;>subst hop
 ·refine zn hR (s:=.v (.int kd (p/((2 ^ q.toNat:Nat):Int)))) ?_ rfl h
  simp only [execOp,ho,ex,ey,Sem.run_bind,zeG,Result.andThen_ok,zwd P w kd kq p q t h1 h2,Sem.run_pure,SV.val]
 ·simp only at h
  have h:=zde h
  refine zn hR (s:=.v (.int kd (kd.wrap (p*((2 ^ q.toNat:Nat):Int))))) ?_ rfl h
  simp only [execOp,ho,ex,ey,Sem.run_bind,zeG,Result.andThen_ok,zwe P w kd kq p q t h1 h2,Sem.run_pure,SV.val]
theorem zn1 {op:BinOp} {t yt:TypeId} {x y:Operand} (ho:o.op=.binOp op t x y yt) {ng:Bool} (hop:op=if ng then .neq else .eql) (ht:P.underlying t=some .bool) (hA:Agree n ds e a) (hR:R w0 fp0 L w)
 (h:VI P w0 fp0 (.eqb ng (cX x) (cX y)) e L k):zJ P w0 fp0 o a w k:=by
 simp only [VI] at h
 obtain ⟨p,hp,h⟩:=uC h
 obtain ⟨q,hq,h⟩:=uC h
 have ex:=zk hA hp
 have ey:=zk hA hq
 simp only [SV.val] at ex ey
 have he:(Op.equal t (.bool p) (.bool q)).run P w=.ok (p == q) w:=run_equalIn_bool' w 9999 t p q ht
 cases ng<;>simp only [if_true,Bool.false_eq_true,if_false] at hop<;>subst hop
 ·refine zn hR (s:=.v (.bool (p == q))) ?_ rfl h
  simp [execOp,ho,ex,ey,eqGuard,binOp,he,SV.val]
 ·refine zn hR (s:=.v (.bool (p != q))) ?_ rfl h
  simp [execOp,ho,ex,ey,eqGuard,binOp,he,SV.val,bne]
theorem zn2 {op:BinOp} {t yt:TypeId} {x y:Operand} (ho:o.op=.binOp op t x y yt) {ng:Bool} (hop:op=if ng then .neq else .eql) (hA:Agree n ds e a) (hR:R w0 fp0 L w)
 (h:VI P w0 fp0 (.eqs ng (cX x) (cX y)) e L k):zJ P w0 fp0 o a w k:=by
 simp only [VI] at h
 obtain ⟨s,hp,h⟩:=zw h
 obtain ⟨u,hq,h⟩:=zw h
 have ex:=zk hA hp
 have ey:=zk hA hq
 split at h
 ·simp only [SV.val] at ex ey
  cases ng<;>simp only [if_true,Bool.false_eq_true,if_false] at hop<;>subst hop
  ·refine zn hR ?_ rfl h
   simp [execOp,ho,ex,ey,eqGuard,binOp,Op.stringOp,SV.val,beq_toListBytes,ngB]
  ·refine zn hR ?_ rfl h
   simp [execOp,ho,ex,ey,eqGuard,binOp,Op.stringOp,SV.val,bne,beq_toListBytes,ngB]
 ·exact h.elim
theorem zub {t:TypeId} {x:Operand} (ho:o.op=.unOp .not t x) (hA:Agree n ds e a) (hR:R w0 fp0 L w)
 (h:VI P w0 fp0 (.not (cX x)) e L k):zJ P w0 fp0 o a w k:=by
 simp only [VI] at h
 obtain ⟨p,hp,h⟩:=uC h
 have ex:=zk hA hp
 simp only [SV.val] at ex
 refine zn hR (s:=.v (.bool (!p))) ?_ rfl h
 simp [execOp,ho,ex,Op.unary,SV.val]
theorem zuc {t:TypeId} {x:Operand} {kd:IntKind} (ho:o.op=.unOp .neg t x) (hA:Agree n ds e a) (hR:R w0 fp0 L w)
 (h:VI P w0 fp0 (.neg kd (cX x)) e L k):zJ P w0 fp0 o a w k:=by
 simp only [VI] at h
 obtain ⟨p,hp,h⟩:=qF h
 have h:=zde h
 have ex:=zk hA hp
 simp only [SV.val] at ex
 refine zn hR (s:=.v (.int kd (kd.wrap (0 - p)))) ?_ rfl h
 simp [execOp,ho,ex,Op.unary,Op.intArith,SV.val]
theorem zud {t:TypeId} {x:Operand} (ho:o.op=.unOp .xor t x) (hA:Agree n ds e a) (hR:R w0 fp0 L w)
 (h:VI P w0 fp0 (.bit .xor .u64 (cX (.const (.int .u64 18446744073709551615))) (cX x)) e L k):zJ P w0 fp0 o a w k:=by
 simp only [VI] at h
 obtain ⟨p,hp,h⟩:=qF h
 obtain ⟨q,hq,⟨h1,h2,h3,h4⟩,h⟩:=qF h
 have ep:Value.int IntKind.u64 18446744073709551615=.int .u64 p:=zk hA hp
 have ex:=zk hA hq
 simp only [SV.val] at ex
 have hr:=zq6 (o:=.xor) rfl P w .u64 p q t h1 h2 h3 h4
 injection ep with _ ep
 subst ep
 refine zn hR (s:=.v (.int .u64 ((zdJ .xor (18446744073709551615:Int).toNat q.toNat:Nat):Int))) ?_ rfl h
 have hr':(Op.intBits .xor .u64 18446744073709551615 q).run P w=.ok (.int .u64 ((zdJ .xor (18446744073709551615:Int).toNat q.toNat:Nat):Int)) w:=hr
 have hu:Op.unary .xor (.int .u64 q)=Op.intBits .xor .u64 18446744073709551615 q:=rfl
 simp [execOp,ho,ex,hu,hr',SV.val]
theorem zra {s t:TypeId} {x:Operand} {kd ks:IntKind} (ho:o.op=.convert s t x) (hs:P.underlying s=some (.int ks)) (ht:P.underlying t=some (.int kd)) (hA:Agree n ds e a) (hR:R w0 fp0 L w)
 (h:VI P w0 fp0 (.cv kd (cX x)) e L k∨VI P w0 fp0 (.cvf kd (cX x)) e L k):zJ P w0 fp0 o a w k:=by
 have hrun:∀ (kx:IntKind) (p:Int),a.eval x=.int kx p->(execOp a.eval o).run P w=.ok (.value (.int kd (kd.wrap p))) w:=fun kx p ex=>by
  simp [execOp,ho,ex,convert,run_underlying hs,run_underlying ht,Conv.intToInt]
 rcases h with h|h<;>simp only [VI] at h<;>obtain ⟨kx,p,hp,h⟩:=qG h
 ·exact zn hR (hrun kx p (zk hA hp)) rfl (zde h)
 ·exact zn hR (hrun kx p (zk hA hp)) rfl (zkm h)
theorem zue {x:Operand} {i:Nat} (ho:o.op=.extract x i) (hA:Agree n ds e a) (hR:R w0 fp0 L w)
 (h:VI P w0 fp0 (.ext (cX x) i) e L k):zJ P w0 fp0 o a w k:=by
 simp only [VI] at h
 obtain ⟨s,hp,h⟩:=zw h
 have ex:=zk hA hp
 split at h
 ·rename_i vs
  obtain ⟨v,hv,h⟩:=zfJ h
  rw [zhL,Array.getElem?_toList] at hv
  simp only [SV.val] at ex
  refine zn hR (s:=.v v) ?_ rfl h
  simp [execOp,ho,ex,Instr.extract,hv,SV.val]
 ·exact h.elim
theorem zuf {t:TypeId} {x:Operand} {d:TypeDesc} (ho:o.op=.makeInterface t x) (hd:P.underlying t=some d) (hi:∀ ms,d≠.interface ms) (hA:Agree n ds e a) (hR:R w0 fp0 L w)
 (h:VI P w0 fp0 (.mki t (cX x)) e L k):zJ P w0 fp0 o a w k:=by
 simp only [VI] at h
 obtain ⟨s,hp,h⟩:=zw h
 have ex:=zk hA hp
 refine zn hR (s:=.v (.iface t s.val)) ?_ rfl h
 cases d<;>first|exact absurd rfl (hi _)|simp [execOp,ho,ex,Instr.makeInterface,run_underlying hd,SV.val]
theorem zug {x:Operand} (ho:o.op=.nilCheck x) (hA:Agree n ds e a) (hR:R w0 fp0 L w)
 (h:VI P w0 fp0 (.nil (cX x)) e L k):zJ P w0 fp0 o a w k:=by
 simp only [VI] at h
 obtain ⟨s,hp,h⟩:=zw h
 have ex:=zk hA hp
 have key:∀ ad,s.val=.pointer (some ad)->k s L->zJ P w0 fp0 o a w k:=fun ad hs hk=>by
  refine zn hR (v:=.pointer (some ad)) ?_ hs hk
  simp [execOp,ho,ex,hs]
 split at h
 ·rename_i p
  obtain ⟨h1,h⟩:=h
  obtain ⟨ad,rfl⟩:=Option.ne_none_iff_exists'.1 h1
  exact key ad rfl h
 ·exact key _ rfl h
 ·rename_i a' _
  obtain ⟨ad,rfl⟩:=Option.ne_none_iff_exists'.1 h.1
  exact key _ rfl h.2
 ·obtain ⟨ad,rfl⟩:=Option.ne_none_iff_exists'.1 (znY hR h.1)
  exact key _ rfl h.2
 ·exact h.elim
theorem add_add (ad:Addr) (i j:Nat):(ad.add i).add j=ad.add (i+j):=by
 unfold Addr.add
 by_cases h1:i=0
 ·simp [h1]
 ·by_cases h2:j=0
  ·simp [h1,h2]
  ·have h3:¬i+j=0:=by omega
   simp [h1,h2,h3,Nat.add_assoc]
theorem yR (b off j:Nat):(⟨b,off,none⟩:Addr).add j=⟨b,off+j,none⟩:=by
 unfold Addr.add;split<;>simp_all
theorem zwf {t:TypeId} {x:Operand} {f:Nat} {fs:Array Field} {fd:Field} {j:TypeInfo} (ho:o.op=.fieldAddr t x f) (ht:P.underlying t=some (.struct fs)) (hf:fs[f]?=some fd) (hj:P.info? fd.type=some j) (hs:0<j.size)
 (hA:Agree n ds e a) (hR:R w0 fp0 L w) (h:VI P w0 fp0 (.fa fd.offset (cX x)) e L k):zJ P w0 fp0 o a w k:=by
 simp only [VI] at h
 obtain ⟨s,hp,h⟩:=zw h
 have ex:=zk hA hp
 have key:∀ ad (s':SV),s.val=.pointer (some ad)->s'.val=.pointer (some (ad.add fd.offset))->k s' L->zJ P w0 fp0 o a w k:=fun ad s' hs' hs'' hk=>by
  refine zn hR (v:=.pointer (some (ad.add fd.offset))) ?_ hs'' hk
  have hj0:¬j.size=0:=by omega
  simp [execOp,ho,ex,hs',Instr.fieldAt,run_underlying ht,hf,Instr.sureAddr,fieldPlace,sizeOf,typeInfo,hj,hj0]
 split at h
 ·exact key _ _ rfl (by simp [SV.val,yR]) h
 ·obtain ⟨h1,h⟩:=h
  obtain ⟨ad,rfl⟩:=Option.ne_none_iff_exists'.1 h1
  exact key _ _ rfl (by simp [SV.val,add_add]) h
 ·obtain ⟨h1,h⟩:=h
  obtain ⟨ad,rfl⟩:=Option.ne_none_iff_exists'.1 (znY hR h1)
  exact key _ _ rfl (by simp [SV.val,add_add]) h
 ·exact key _ _ rfl rfl h
 ·exact h.elim
theorem zuh {t el:TypeId} {len:Nat} {x y:Operand} {j:TypeInfo} (ho:o.op=.indexAddr t x y) (ht:P.underlying t=some (.array len el)) (hj:P.info? el=some j)
 (hA:Agree n ds e a) (hR:R w0 fp0 L w) (h:VI P w0 fp0 (.iaa j.size len (cX x) (cX y)) e L k):zJ P w0 fp0 o a w k:=by
 simp only [VI] at h
 obtain ⟨s,hp,h⟩:=zw h
 obtain ⟨kq,i,hq,h⟩:=qG h
 have ex:=zk hA hp
 have ey:=zk hA hq
 simp only [SV.val] at ey
 have key:∀ ad (s':SV),s.val=.pointer (some ad)->0<=i->i<(len:Int)->s'.val=.pointer (some (ad.add (i.toNat*j.size)))->k s' L->zJ P w0 fp0 o a w k:=fun ad s' hs' h1 h2 hs'' hk=>by
  refine zn hR (v:=.pointer (some (ad.add (i.toNat*j.size)))) ?_ hs'' hk
  simp [execOp,ho,ex,ey,hs',Instr.indexAt,run_underlying ht,asIntOf,sizeOf,typeInfo,hj,h1,h2,Instr.sureAddr]
 split at h
 ·exact key _ _ rfl h.1.1 h.1.2 rfl h.2
 ·exact key _ _ rfl h.1.1 h.1.2 (by simp [SV.val,yR]) h.2
 ·exact h.elim
theorem zwg {t el:TypeId} {x y:Operand} {j:TypeInfo} (ho:o.op=.indexAddr t x y) (ht:P.underlying t=some (.slice el)) (hj:P.info? el=some j)
 (hA:Agree n ds e a) (hR:R w0 fp0 L w) (h:VI P w0 fp0 (.ia j.size (cX x) (cX y)) e L k):zJ P w0 fp0 o a w k:=by
 simp only [VI] at h
 obtain ⟨s,hp,h⟩:=zw h
 obtain ⟨kq,i,hq,h⟩:=qG h
 have ex:=zk hA hp
 have ey:=zk hA hq
 simp only [SV.val] at ey
 have key:∀ ad len c (s':SV),s.val=.slice (some ad) len c->0<=i->i<(len:Int)->s'.val=.pointer (some (ad.add (i.toNat*j.size)))->k s' L->zJ P w0 fp0 o a w k:=fun ad len c s' hs' h1 h2 hs'' hk=>by
  refine zn hR (v:=.pointer (some (ad.add (i.toNat*j.size)))) ?_ hs'' hk
  simp [execOp,ho,ex,ey,hs',Instr.indexAt,run_underlying ht,asIntOf,sizeOf,typeInfo,hj,h1,h2]
 split at h
 ·obtain ⟨⟨h1,h2⟩,h3,h⟩:=h
  obtain ⟨ad,rfl⟩:=Option.ne_none_iff_exists'.1 h3
  exact key _ _ _ _ rfl h1 h2 rfl h
 ·obtain ⟨⟨h1,h2⟩,h3,h⟩:=h
  obtain ⟨ad,rfl⟩:=Option.ne_none_iff_exists'.1 (znY hR h3)
  exact key _ _ _ _ rfl h1 h2 rfl h
 ·exact h.elim
theorem zs0 {t el ty:TypeId} {x:Operand} (ho:o.op=.call { callee:=.builtin .len,args:=#[x],argTypes:=#[t] }) (ht:P.underlying t=some (.slice el))
 (hA:Agree n ds e a) (hR:R w0 fp0 L w) (h:VI P w0 fp0 (.lens (cX x)) e L k):zJ P w0 fp0 o a w k:=by
 simp only [VI] at h
 obtain ⟨s,hp,h⟩:=zw h
 have ex:=zk hA hp
 split at h
 ·simp only [SV.val] at ex
  refine zn hR ?_ rfl h
  simp [execOp,ho,ex,resolve,invoke,builtin,Builtin.len_,run_underlying ht,goInt,SV.val]
 ·simp only [SV.val] at ex
  refine zn hR ?_ rfl h
  simp [execOp,ho,ex,resolve,invoke,builtin,Builtin.len_,run_underlying ht,goInt,SV.val]
 ·exact h.elim
theorem zs1 {t:TypeId} {x:Operand} (ho:o.op=.call { callee:=.builtin .len,args:=#[x],argTypes:=#[t] }) (ht:P.underlying t=some .string)
 (hA:Agree n ds e a) (hR:R w0 fp0 L w) (h:VI P w0 fp0 (.lent (cX x)) e L k):zJ P w0 fp0 o a w k:=by
 simp only [VI] at h
 obtain ⟨s,hp,h⟩:=zw h
 have ex:=zk hA hp
 split at h
 ·simp only [SV.val] at ex
  refine zn hR ?_ rfl h
  simp [execOp,ho,ex,resolve,invoke,builtin,Builtin.len_,run_underlying ht,goInt,SV.val]
 ·exact h.elim
theorem zrb {ts:Array TypeId} {x y:Operand} {mx:Bool} {kd:IntKind} (ho:o.op=.call { callee:=.builtin (if mx then .max else .min),args:=#[x,y],argTypes:=ts })
 (hA:Agree n ds e a) (hR:R w0 fp0 L w) (h:VI P w0 fp0 (.mm mx kd (cX x) (cX y)) e L k):zJ P w0 fp0 o a w k:=by
 simp only [VI] at h
 obtain ⟨p,hp,h⟩:=qF h
 obtain ⟨q,hq,h⟩:=qF h
 have ex:=zk hA hp
 have ey:=zk hA hq
 simp only [SV.val] at ex ey
 cases mx
 ·refine zn hR ?_ rfl h
  simp [execOp,ho,ex,ey,resolve,invoke,builtin,Builtin.min_,Builtin.min2,SV.val]
 ·refine zn hR ?_ rfl h
  simp [execOp,ho,ex,ey,resolve,invoke,builtin,Builtin.max_,Builtin.max2,SV.val]
end
section
variable {P:Program} {w0:World} {fp0:List Nat} {n:Nat} {ds:List Deferred} {e:Env} {a:Act} {L:List Ent} {w:World} {k:SV->List Ent->Prop} {o:Oper}
theorem zaE {e:Env} {a:Act} {n:Nat} {ds:List Deferred} (hA:Agree n ds e a):∀ {xs:List Operand} {K:List SV->Prop},gAs e (xs.map cX) K->∃ l,xs.map a.eval=l.map SV.val/\K l
 | [],K,h=>⟨[],rfl,h⟩
 | x :: xs,K,h => by
   obtain ⟨s,hs,h⟩:=zw h
   obtain ⟨l,hl,h⟩:=zaE hA (xs:=xs) h
   exact ⟨s::l,by simp [zk hA hs,hl],h⟩
theorem zdE {xs:Array Operand} {f:Operand->Value} {l:List Value} (h:xs.toList.map f=l):xs.map f=l.toArray:=by
 subst h;apply Array.ext';simp
theorem uG (s:SV):s.val.cells.toList=yE s:=by
 cases s with
 | v x=>cases x<;>rfl
 | _=>rfl
theorem zjA {key b:Nat} {cs:List Value} {T:TypeId} (hR:R w0 fp0 L w) (h:kn key L=some (b,cs,T)):w.heap[b]?=some (.cells cs.toArray T (0,0)):=by
 obtain ⟨L',h1,_⟩:=uB h
 exact (hR.perm h1).ok _ g5q
theorem zdL {key b off:Nat} {cs:List Value} {T:TypeId} (hR:R w0 fp0 L w) (h:kn key L=some (b,cs,T)):w.cell? ⟨b,off,none⟩=cs[off]?:=by
 rw [cell_of_row w b off _ T (0,0) (zjA hR h)]
 simp
theorem qW {key:Nat} {o:Own} (hR:R w0 fp0 L w) (h:zL key L=some o):w.ownsRow 0 o.T o.sz (.slice o.a o.n o.c) o.n o.xs:=by
 obtain ⟨L',h1,_⟩:=yj (a:=o.a) (n:=o.n) (c:=o.c) (T:=o.T) (sz:=o.sz) (xs:=o.xs) h
 exact (hR.perm h1).ok _ g5q
theorem kT {T sz:Nat} {a:Option Addr} {n c:Nat} {xs:List Value} (h:w.ownsRow 0 T sz (.slice a n c) n xs) (hx:0<xs.length) :
 ∃ g cur,a=some ⟨g,0,none⟩/\w.heap[g]?=some (.cells cur T (0,0))/\xs.length<=cur.size/\cur.size=c*sz/\n<=c/\c<=maxLen/\cur.toList.take xs.length=xs:=by
 obtain ⟨h1,h2⟩:=h
 rcases h2 with ⟨h2,h3⟩|⟨g,cap,cur,hv,hg,hh,h3,h4,h5,h6⟩
 ·subst h3
  simp at h1
  simp [h1] at hx
 ·simp only [Value.slice.injEq] at hv
  obtain ⟨rfl,_,rfl⟩:=hv
  refine ⟨g,cur,rfl,hh,?_,h5,h3,h4,by rw [h1];exact h6⟩
  rw [h1,h5]
  exact Nat.mul_le_mul_right _ h3
theorem kz {key:Nat} {o:Own} {j:Nat} {v:Value} (hR:R w0 fp0 L w) (h:zL key L=some o) (hv:o.xs[j]?=some v):∃ g,o.a=some ⟨g,0,none⟩/\w.cell? ⟨g,j,none⟩=some v:=by
 have hj:j<o.xs.length:=(List.getElem?_eq_some_iff.1 hv).1
 obtain ⟨g,cur,ha,hg,hl,_,_,_,ht⟩:=kT (qW hR h) (by omega)
 refine ⟨g,ha,?_⟩
 rw [cell_of_row w g j cur o.T (0,0) hg,←hv,←ht,List.getElem?_take,if_pos hj,Array.getElem?_toList]
theorem zs2 {t:TypeId} {ad:Addr} {v:Value} {lk:LK} (ht:zhM P t=some lk) (hc:w.cell? ad=some v):(loadVar t ad).run P w=.ok v w:=by
 unfold zhM at ht
 cases hu:P.underlying t with
 | none=>simp [hu] at ht
 | some d=>cases d<;>simp [hu] at ht<;>simp [loadVar,isAgg,run_underlying hu,hc]
theorem zwh {t:TypeId} {x:Operand} {lk:LK} (ho:o.op=.load t x) (ht:zhM P t=some lk)
 (hA:Agree n ds e a) (hR:R w0 fp0 L w) (h:VI P w0 fp0 (.ld lk (cX x)) e L k):zJ P w0 fp0 o a w k:=by
 simp only [VI] at h
 obtain ⟨s,hp,h⟩:=zw h
 have ex:=zk hA hp
 have key:∀ (ad:Addr) (v:Value),s.val=.pointer (some ad)->w.cell? ad=some v->k (.v v) L->zJ P w0 fp0 o a w k:=fun ad v hs hc hk=>by
  refine zn hR (v:=v) ?_ rfl hk
  simp [execOp,ho,ex,hs,Instr.loadAt,Instr.sureAddr,zs2 ht hc]
 have gen:(uD lk fun v=>Rd w0 fp0 L s [v]/\k (.v v) L)->zJ P w0 fp0 o a w k:=fun h=>by
  obtain ⟨v,hrd,hk⟩:=zkn h
  obtain ⟨b,off,hs,hc⟩:=hrd w hR
  exact key _ v hs (by simpa using hc 0 v rfl) hk
 split at h
 ·rename_i kk b off
  split at h
  ·rename_i b' cs T hb
   obtain ⟨rfl,h⟩:=h
   obtain ⟨v,hv,h⟩:=zfJ h
   rw [zhL] at hv
   exact key ⟨b',off,none⟩ v rfl (by rw [zdL hR hb,hv]) h
  ·exact gen h
 ·rename_i kk a' i
  split at h
  ·rename_i ow hb
   obtain ⟨rfl,h⟩:=h
   obtain ⟨v,hv,h⟩:=zkn h
   obtain ⟨g,ha,hc⟩:=kz hR hb hv
   exact key ⟨g,i,none⟩ v (by simp [SV.val,ha,yR]) hc h
  ·exact h.elim
 ·exact gen h
theorem zhP {t:TypeId} {b off:Nat} {vs:List Value} {j:TypeInfo} (ht:(∃ fs,P.underlying t=some (.struct fs))∨∃ m el,P.underlying t=some (.array m el)) (hj:P.info? t=some j) (hl:vs.length=j.size)
 (hc:∀ i v,vs[i]?=some v->w.cell? ⟨b,off+i,none⟩=some v):(loadVar t ⟨b,off,none⟩).run P w=.ok (.agg vs.toArray) w:=by
 have h1:=run_loadCells_list (P:=P) w ⟨b,off,none⟩ vs (fun i v hv=>by rw [yR];exact hc i v hv)
 rw [hl] at h1
 rcases ht with ⟨fs,ht⟩|⟨m,el,ht⟩<;>simp [loadVar,isAgg,run_underlying ht,sizeOf,typeInfo,hj,h1]
theorem zn3 {ks:List LK} {t:TypeId} {x:Operand} {j:TypeInfo} (ho:o.op=.load t x) (ht:(∃ fs,P.underlying t=some (.struct fs))∨∃ m el,P.underlying t=some (.array m el)) (hj:P.info? t=some j) (hpos:0<j.size)
 (hA:Agree n ds e a) (hR:R w0 fp0 L w) (h:VI P w0 fp0 (.lda j.size ks (cX x)) e L k):zJ P w0 fp0 o a w k:=by
 simp only [VI] at h
 obtain ⟨s,hp,h⟩:=zw h
 have ex:=zk hA hp
 have key:∀ (b off:Nat) (vs:List Value),s.val=.pointer (some ⟨b,off,none⟩)->vs.length=j.size->(∀ i v,vs[i]?=some v->w.cell? ⟨b,off+i,none⟩=some v)->k (.v (.agg vs.toArray)) L->zJ P w0 fp0 o a w k:=fun b off vs hs hl hc hk=>by
  refine zn hR (v:=.agg vs.toArray) ?_ rfl hk
  simp [execOp,ho,ex,hs,Instr.loadAt,Instr.sureAddr,zhP ht hj hl hc]
 have gen:(∃ vs:List Value,vs.length=j.size/\Rd w0 fp0 L s vs/\k (.v (.agg vs.toArray)) L)->zJ P w0 fp0 o a w k:=fun h=>by
  obtain ⟨vs,hl,hrd,hk⟩:=h
  obtain ⟨b,off,hs,hc⟩:=hrd w hR
  exact key _ _ vs hs hl hc hk
 split at h
 ·rename_i kk b off
  split at h
  ·rename_i b' cs T hb
   obtain ⟨⟨rfl,h1⟩,h⟩:=h
   refine key b' off _ rfl (by simp;omega) (fun i v hv=>?_) h
   rw [zdL hR hb]
   rw [List.getElem?_take] at hv
   split at hv
   ·simpa using hv
   ·cases hv
  ·exact gen h
 ·rename_i kk a' i
  split at h
  ·rename_i ow hb
   obtain ⟨rfl,vs,hl,hvs,h⟩:=h
   have h0:0<vs.length:=by omega
   ·have hc:∀ q v,vs[q]?=some v->ow.xs[i+q]?=some v:=fun q v hv=>by
     rw [←hvs,List.getElem?_take] at hv
     split at hv
     ·simpa using hv
     ·cases hv
    obtain ⟨v0,hv0⟩:∃ v,vs[0]?=some v:=⟨vs[0],by simp [h0]⟩
    obtain ⟨g,ha,_⟩:=kz hR hb (hc 0 v0 hv0)
    refine key g i vs (by simp [SV.val,ha,yR]) hl (fun q v hv=>?_) h
    obtain ⟨g',ha',hcell⟩:=kz hR hb (hc q v hv)
    rw [ha] at ha'
    simp only [g3q,Addr.mk.injEq,and_true] at ha'
    rw [ha']
    exact hcell
  ·exact h.elim
 ·exact gen h
theorem ze1 {cur cs vs:List Value} {off:Nat} (ht:cur.take cs.length=cs) (h:off+vs.length<=cs.length):(zD cur off vs).take cs.length=zD cs off vs:=by
 apply List.ext_getElem?
 intro i
 have hcur:∀ j,j<cs.length->cur[j]?=cs[j]?:=fun j hj=>by rw [←ht,List.getElem?_take,if_pos (by simpa [ht] using hj)]
 have hle:cs.length<=cur.length:=by have:=congrArg List.length ht;simp at this;omega
 have h1:(cur.take off).length=off:=by simp;omega
 have h2:(cs.take off).length=off:=by simp;omega
 simp only [zD]
 rw [List.getElem?_take]
 by_cases hi:i<cs.length
 ·rw [if_pos hi,List.append_assoc,List.append_assoc,List.getElem?_append (l₁:=cur.take off),List.getElem?_append (l₁:=cs.take off),h1,h2]
  by_cases h3:i<off
  ·rw [if_pos h3,if_pos h3,List.getElem?_take,List.getElem?_take,if_pos h3,if_pos h3];exact hcur i hi
  ·rw [if_neg h3,if_neg h3,List.getElem?_append,List.getElem?_append (l₁:=vs) (l₂:=cs.drop _)]
   by_cases h4:i - off<vs.length
   ·rw [if_pos h4,if_pos h4]
   ·rw [if_neg h4,if_neg h4,List.getElem?_drop,List.getElem?_drop]
    exact hcur _ (by omega)
 ·rw [if_neg hi,List.getElem?_eq_none]
  simp;omega
theorem zui {key b:Nat} {cs cs':List Value} {T:TypeId} (hR:R w0 fp0 L w) (hb:kn key L=some (b,cs,T)):R w0 fp0 (jA key cs' L) (w.setRow b cs'.toArray):=by
 obtain ⟨L',h1,h2⟩:=uB hb
 have hR':=hR.perm h1
 have hg:w.heap[b]?=some (.cells cs.toArray T (0,0)):=zjA hR hb
 refine (R.write (w':=w.setRow b cs'.toArray) (e':=.box key b cs' T) hR' (fun x hx=>hx) (by simp [Ent.fp]) (setRow_heap w b _ _ T (0,0) hg) (by simp) rfl rfl rfl (Nat.le_refl _) (fun x hx=>setRow_other w b x _ (by simpa [Ent.fp] using hx))).perm (h2 cs').symm
theorem zjB {key:Nat} {ow:Own} {xs':List Value} {g:Nat} {cur:Array Value} (hR:R w0 fp0 L w) (hb:zL key L=some ow) (ha:ow.a=some ⟨g,0,none⟩) (hg:w.heap[g]?=some (.cells cur ow.T (0,0)))
 (hl:xs'.length=ow.xs.length) {cur':Array Value} (hc:cur'.size=cur.size) (ht:cur'.toList.take ow.xs.length=xs'):R w0 fp0 (qp key ow.a ow.n ow.c xs' L) (w.setRow g cur'):=by
 have hrow:=qW hR hb
 obtain ⟨L',h1,h2⟩:=yj (a:=ow.a) (n:=ow.n) (c:=ow.c) (T:=ow.T) (sz:=ow.sz) (xs:=ow.xs) hb
 have hR':=hR.perm h1
 refine (R.write (w':=w.setRow g cur') (e':=.own key ow.a ow.n ow.c ow.T ow.sz xs') hR' (fun x hx=>hx) (by simp [Ent.fp,ha,Value.ownBlock]) ?_ (by simp) rfl rfl rfl (Nat.le_refl _) (fun x hx=>setRow_other w g x _ (by simpa [Ent.fp,ha,Value.ownBlock] using hx))).perm (h2 _ _ _ _).symm
 obtain ⟨r1,r2⟩:=hrow
 refine ⟨by rw [hl];exact r1,?_⟩
 rcases r2 with ⟨r2,_⟩|⟨g',cap,cur0,hv,_,hh,r3,r4,r5,r6⟩
 ·rw [ha] at r2;simp at r2
 ·rw [ha] at hv
  simp only [Value.slice.injEq,g3q,Addr.mk.injEq,and_true,true_and] at hv
  obtain ⟨rfl,rfl⟩:=hv
  rw [hg] at hh
  simp only [g3q,Obj.cells.injEq,and_true] at hh
  subst hh
  refine .inr ⟨g,_,cur',by rw [ha],Nat.zero_le _,setRow_heap w g _ _ ow.T (0,0) hg,r3,r4,by rw [hc];exact r5,?_⟩
  rw [←r1];exact ht
theorem zwi {t:TypeId} {b off:Nat} {u:Value} {j:TypeInfo} {cur:Array Value} {T:TypeId} (hj:P.info? t=some j) (hl:u.cells.size=j.size) (h1:∀ v∈u.cells.toList,v.oneCell'=true)
 (hg:w.heap[b]?=some (.cells cur T (0,0))) (hf:off+u.cells.toList.length<=cur.size) :
 (storeVar t ⟨b,off,none⟩ u).run P w=.ok () (w.setRow b (zD cur.toList off u.cells.toList).toArray):=by
 have h2:=run_storeCells_at P b off T u.cells.toList 0 cur w hg (by simpa using hf) h1
 simp only [Nat.add_zero] at h2
 simp only [storeVar,sizeOf,typeInfo,hj,Sem.run_bind,run_program,Result.andThen_ok,Sem.run_pure,hl,ne_eq,not_true_eq_false,if_false,zD]
 exact h2
theorem zwj {t:TypeId} {x y:Operand} {j:TypeInfo} (ho:o.op=.store t x y) (hj:P.info? t=some j) (hpos:0<j.size)
 (hA:Agree n ds e a) (hR:R w0 fp0 L w) (h:VI P w0 fp0 (.st j.size (cX x) (cX y)) e L k):∃ w',(execOp a.eval o).run P w=.ok .skip w'/\Fin w0 fp0 k undef w':=by
 simp only [VI] at h
 obtain ⟨s,hp,h'⟩:=zw h
 clear h
 obtain ⟨u,hq,⟨h1,h2⟩,h⟩:=zw h'
 clear h'
 have ex:=zk hA hp
 have ey:=zk hA hq
 have hsz:u.val.cells.size=j.size:=by rw [←Array.length_toList,uG];exact h1
 have hone:∀ v∈u.val.cells.toList,v.oneCell'=true:=by rw [uG];exact kJ h2
 have key:∀ (b off:Nat) (cur:Array Value) (T:TypeId) (L':List Ent),s.val=.pointer (some ⟨b,off,none⟩)->w.heap[b]?=some (.cells cur T (0,0))->off+(yE u).length<=cur.size ->
  R w0 fp0 L' (w.setRow b (zD cur.toList off (yE u)).toArray)->k (.v undef) L'->∃ w',(execOp a.eval o).run P w=.ok .skip w'/\Fin w0 fp0 k undef w':=fun b off cur T L' hs hg hf hR' hk=>by
  have hrun:=zwi (P:=P) (w:=w) (off:=off) hj hsz hone hg (by rw [uG];exact hf)
  rw [uG] at hrun
  refine ⟨_,?_,.v undef,L',rfl,hR',hk⟩
  simp [execOp,ho,ex,ey,hs,Instr.storeAt,Instr.sureAddr,hrun]
 have gen:(∃ L',St w0 fp0 L s (yE u) L'/\k (.v undef) L')->∃ w',(execOp a.eval o).run P w=.ok .skip w'/\Fin w0 fp0 k undef w':=fun h=>by
  obtain ⟨L',hst,hk⟩:=h
  obtain ⟨b,off,cur,T,hs,hg,hf,hR'⟩:=hst w hR
  exact key b off cur T L' hs hg hf hR' hk
 split at h
 ·rename_i kk b off
  split at h
  ·rename_i b' cs T hb
   obtain ⟨⟨rfl,h3⟩,h⟩:=h
   have hg:=zjA hR hb
   refine key b' off _ T _ rfl hg (by simp;omega) ?_ h
   simpa using zui (cs':=zD cs off (yE u)) hR hb
  ·exact gen h
 ·rename_i kk a' i
  split at h
  ·rename_i ow hb
   obtain ⟨⟨rfl,h3⟩,h⟩:=h
   by_cases h0:0<ow.xs.length
   ·obtain ⟨g,cur,ha,hg,hle,_,_,_,ht⟩:=kT (qW hR hb) h0
    refine key g i cur ow.T _ (by simp [SV.val,ha,yR]) hg (by omega) ?_ h
    refine zjB hR hb ha hg (yL (by omega)) (by simp [yL (cs:=cur.toList) (vs:=yE u) (off:=i) (by simp;omega)]) ?_
    simp only [List.toList_toArray]
    exact ze1 ht (by omega)
   ·have hz:ow.xs.length=0:=by omega
    omega
  ·exact h.elim
 ·exact gen h
theorem zuj {t:TypeId} {j:TypeInfo} {z:Value} {key:Nat} (ho:o.op=.alloc t) (hj:P.info? t=some j) (hz:j.zero=some z)
 (hA:Agree n ds e a) (hR:R w0 fp0 L w) (h:VI P w0 fp0 (.alc key t z.cells.toList) e L k):kK P w0 fp0 o a w k:=by
 simp only [VI] at h
 refine ⟨.pointer (some ⟨w.heap.size,0,none⟩),w.alloc (.cells z.cells t),?_,.ptr key w.heap.size 0,_,rfl,?_,h w.heap.size⟩
 ·simp [execOp,ho,Instr.alloc,zeroValue,typeInfo,hj,hz,newVar,newRow]
 ·simpa using hR.box key z.cells.toList t
theorem zuk {t:TypeId} {x:Operand} {key:Nat} (ho:o.op=.box t x)
 (hA:Agree n ds e a) (hR:R w0 fp0 L w) (h:VI P w0 fp0 (.box key t (cX x)) e L k):kK P w0 fp0 o a w k:=by
 simp only [VI] at h
 obtain ⟨s,hp,h⟩:=zw h
 have ex:=zk hA hp
 refine ⟨.pointer (some ⟨w.heap.size,0,none⟩),w.alloc (.cells s.val.cells t),?_,.ptr key w.heap.size 0,_,rfl,?_,h w.heap.size⟩
 ·simp [execOp,ho,ex,Instr.box,newVar,newRow]
 ·have:=hR.box key (yE s) t
  rw [←uG] at this ⊢
  simpa using this
theorem zul {fn:Fn} {fi ca:Array Operand} (ho:o.op=.makeFunc fn fi ca)
 (hA:Agree n ds e a) (hR:R w0 fp0 L w) (h:VI P w0 fp0 (.mkf fn (fi.toList.map cX) (ca.toList.map cX)) e L k):zJ P w0 fp0 o a w k:=by
 simp only [VI] at h
 obtain ⟨l,hl,h⟩:=zaE hA h
 obtain ⟨l',hl',h⟩:=zaE hA h
 refine zn hR ?_ rfl h
 have e1:fi.map a.eval=(l.map SV.val).toArray:=zdE hl
 have e2:ca.map a.eval=(l'.map SV.val).toArray:=zdE hl'
 simp only [execOp,ho,Instr.makeFunc,SV.val,e1,e2,Sem.run_bind,Sem.run_pure,Result.andThen_ok]
theorem zhQ {f:FuncId} (h:zjz P f=true) (args:Array Value):(callFunc f args).run P w=.ok (.enter f args) w:=by
 unfold zjz at h
 split at h
 ·rename_i fn hf
  simp only [Bool.and_eq_true,bne_iff_ne,ne_eq] at h
  cases hb:fn.body with
  | none=>simp [hb] at h
  | some c=>simp [callFunc,hf,h.1,hb]
 ·cases h
theorem zmB {f:FuncId} {args:List Value} (hrun:(execOp a.eval o).run P w=.ok (.enter f args.toArray) w) (hR:R w0 fp0 L w) {i:I} (hi:isQ i=false) (h:z8 P w0 fp0 f args L k):zn0 P w0 fp0 o a w i k :=
 .inr (.inr (.inr ⟨hi,f,_,hrun,(h w hR).mono fun e w' ⟨v,s,L',he,hs,hR',hk⟩=>⟨v,he,s,L',hs,hR',hk⟩⟩))
theorem zs3 {c:Call} {f:FuncId} (ho:o.op=.call c) (hc:c.callee=.value (.func f)) (hf:zjz P f=true)
 (hA:Agree n ds e a) (hR:R w0 fp0 L w) (h:VI P w0 fp0 (.call f (c.args.toList.map cX)) e L k):zn0 P w0 fp0 o a w (.call f (c.args.toList.map cX)) k:=by
 simp only [VI] at h
 obtain ⟨l,hl,h⟩:=zaE hA h
 refine zmB ?_ hR rfl h
 have e1:c.args.map a.eval=(l.map SV.val).toArray:=zdE hl
 simp [execOp,ho,resolve,hc,Act.eval,Deferred.ofValue,invoke,e1,zhQ hf]
theorem zs4 {c:Call} {x:Operand} (ho:o.op=.call c) (hc:c.callee=.value x)
 (hA:Agree n ds e a) (hR:R w0 fp0 L w) (h:VI P w0 fp0 (.cald (cX x) (c.args.toList.map cX)) e L k):zn0 P w0 fp0 o a w (.cald (cX x) (c.args.toList.map cX)) k:=by
 simp only [VI] at h
 obtain ⟨s,hp,h⟩:=zw h
 have ex:=zk hA hp
 obtain ⟨l,hl,h⟩:=zaE hA h
 split at h
 ·rename_i f first captured
  obtain ⟨hf,h⟩:=h
  refine zmB ?_ hR rfl h
  have e1:c.args.map a.eval=(l.map SV.val).toArray:=zdE hl
  simp only [SV.val] at ex
  simp [execOp,ho,resolve,hc,ex,Deferred.ofValue,invoke,e1,zhQ hf]
 ·exact h.elim
theorem zwk {t el:TypeId} (hd:P.underlying t=some (.pointer el)) (d:Nat) (p:Option Addr):(Op.equalIn (d+1) t (.pointer p) (.pointer none)).run P w=.ok p.isNone w:=by
 cases p<;>simp [Op.equalIn,run_underlying hd]
theorem zs5 {t el:TypeId} (hd:P.underlying t=some (.pointer el)) (p:Option Addr):(Op.equal t (.pointer p) (.pointer none)).run P w=.ok p.isNone w:=zwk hd 9999 p
theorem zwl {t el:TypeId} (hd:P.underlying t=some (.slice el)) (d:Nat) (p:Option Addr) (n c:Nat):(Op.equalIn (d+1) t (.slice p n c) (.slice none 0 0)).run P w=.ok p.isNone w:=by
 cases p<;>simp [Op.equalIn,run_underlying hd]
theorem zkp {t el:TypeId} (hd:P.underlying t=some (.slice el)) (p:Option Addr) (n c:Nat):(Op.equal t (.slice p n c) (.slice none 0 0)).run P w=.ok p.isNone w:=zwl hd 9999 p n c
theorem zwm {t ke el:TypeId} (hd:P.underlying t=some (.map ke el)) (d:Nat) (p:Option Nat):(Op.equalIn (d+1) t (.map p) (.map none)).run P w=.ok p.isNone w:=by
 cases p<;>simp [Op.equalIn,run_underlying hd]
theorem zs6 {t ke el:TypeId} (hd:P.underlying t=some (.map ke el)) (p:Option Nat):(Op.equal t (.map p) (.map none)).run P w=.ok p.isNone w:=zwm hd 9999 p
theorem zwn {t:TypeId} {ms:Array (String × TypeId)} (hd:P.underlying t=some (.interface ms)) (d:Nat) (u:TypeId) (v:Value):(Op.equalIn (d+1) t (.iface u v) .nilIface).run P w=.ok false w/\(Op.equalIn (d+1) t .nilIface .nilIface).run P w=.ok true w:=by
 constructor<;>simp [Op.equalIn,run_underlying hd]
theorem zkq {t:TypeId} {ms:Array (String × TypeId)} (hd:P.underlying t=some (.interface ms)) (u:TypeId) (v:Value):(Op.equal t (.iface u v) .nilIface).run P w=.ok false w/\(Op.equal t .nilIface .nilIface).run P w=.ok true w:=zwn hd 9999 u v
theorem zwS {t:TypeId} {ps rs:Array TypeId} {vr:Bool} (hd:P.underlying t=some (.func ps rs vr)) (d:Nat) (fn:Fn) (a b:Array Value):(Op.equalIn (d+1) t (.func fn a b) .nilFunc).run P w=.ok false w/\(Op.equalIn (d+1) t .nilFunc .nilFunc).run P w=.ok true w:=by
 constructor<;>simp [Op.equalIn,run_underlying hd]
theorem znQ {t:TypeId} {ps rs:Array TypeId} {vr:Bool} (hd:P.underlying t=some (.func ps rs vr)) (fn:Fn) (a b:Array Value):(Op.equal t (.func fn a b) .nilFunc).run P w=.ok false w/\(Op.equal t .nilFunc .nilFunc).run P w=.ok true w:=zwS hd 9999 fn a b
theorem zn4 {op:BinOp} {t yt:TypeId} {x y:Operand} (ho:o.op=.binOp op t x y yt) {ng:Bool} {nk:NK} (hop:op=if ng then .neq else .eql) (hnk:zhN P t=some nk) (hy:zgt nk y=true) (hA:Agree n ds e a) (hR:R w0 fp0 L w)
 (h:VI P w0 fp0 (.eqn nk ng (cX x)) e L k):zJ P w0 fp0 o a w k:=by
 simp only [VI] at h
 obtain ⟨s,hp,h'⟩:=zw h
 clear h
 have ex:=zk hA hp
 have fin:∀ (b:Bool) (yv:Value),y=.const yv->k (.v (.bool (ngB ng b))) L->(eqGuard op t x y s.val yv).run P w=.ok () w->(binOp .eql t s.val yv).run P w=.ok (.bool b) w->(binOp .neq t s.val yv).run P w=.ok (.bool (!b)) w->zJ P w0 fp0 o a w k:=fun b yv hyv hk hg h1 h2=>by
  subst hyv
  have ey:a.eval (.const yv)=yv:=rfl
  cases ng<;>simp only [if_true,Bool.false_eq_true,if_false] at hop<;>subst hop
  ·exact zn hR (v:=.bool b) (s:=.v (.bool b)) (by simp only [execOp,ho,ex,ey,hg,h1,Sem.run_bind,Result.andThen_ok,Sem.run_pure]) rfl hk
  ·exact zn hR (v:=.bool (!b)) (s:=.v (.bool (!b))) (by simp only [execOp,ho,ex,ey,hg,h2,Sem.run_bind,Result.andThen_ok,Sem.run_pure]) rfl hk
 have und:∃ d,P.underlying t=some d:=by
  unfold zhN at hnk
  cases hu:P.underlying t with
  | none=>simp [hu] at hnk
  | some d=>exact ⟨d,rfl⟩
 obtain ⟨d,hd⟩:=und
 cases nk with
 | ptr =>
   cases d<;>simp [zhN,hd] at hnk
   unfold zgt at hy
   split at hy<;>first|contradiction|skip
   have hg:∀ p,(eqGuard op t x (.const (.pointer none)) (.pointer p) (.pointer none)).run P w=.ok () w:=fun p=>by cases op<;>simp [eqGuard]
   have hb:∀ p,(binOp .eql t (.pointer p) (.pointer none)).run P w=.ok (.bool p.isNone) w:=fun p=>by simp [binOp,zs5 hd]
   have hb':∀ p,(binOp .neq t (.pointer p) (.pointer none)).run P w=.ok (.bool !p.isNone) w:=fun p=>by simp [binOp,zs5 hd]
   unfold zdK at h'
   split at h'<;>first|contradiction|skip
   ·exact fin _ _ rfl h' (hg _) (hb _) (hb' _)
   ·exact fin _ _ rfl h' (hg _) (hb _) (hb' _)
   ·exact fin _ _ rfl h' (hg _) ((hb _).trans (by rw [Option.isNone_map])) ((hb' _).trans (by rw [Option.isNone_map]))
   ·exact fin _ _ rfl h' (hg _) ((hb _).trans (by rw [Option.isNone_map])) ((hb' _).trans (by rw [Option.isNone_map]))
 | ifc =>
   cases d<;>simp [zhN,hd] at hnk
   unfold zgt at hy
   split at hy<;>first|contradiction|skip
   unfold zdK at h'
   split at h'<;>first|contradiction|skip
   ·refine fin true _ rfl h' (by cases op<;>simp [eqGuard,SV.val]) (by simp [binOp,SV.val,(zkq hd 0 .nilIface).2]) (by simp [binOp,SV.val,(zkq hd 0 .nilIface).2])
   ·refine fin false _ rfl h' (by cases op<;>simp [eqGuard,SV.val]) (by simp [binOp,SV.val,(zkq hd _ _).1]) (by simp [binOp,SV.val,(zkq hd _ _).1])
 | slc =>
   cases d<;>simp [zhN,hd] at hnk
   unfold zgt at hy
   split at hy<;>first|contradiction|skip
   unfold zdK at h'
   split at h'<;>first|contradiction|skip
   ·exact fin _ _ rfl h' (by cases op<;>simp [eqGuard,SV.val]) (by simp [binOp,SV.val,zkp hd]) (by simp [binOp,SV.val,zkp hd])
   ·exact fin _ _ rfl h' (by cases op<;>simp [eqGuard,SV.val]) (by simp [binOp,SV.val,zkp hd]) (by simp [binOp,SV.val,zkp hd])
 | map =>
   cases d<;>simp [zhN,hd] at hnk
   unfold zgt at hy
   split at hy<;>first|contradiction|skip
   unfold zdK at h'
   split at h'<;>first|contradiction|skip
   exact fin _ _ rfl h' (by cases op<;>simp [eqGuard,SV.val]) (by simp [binOp,SV.val,zs6 hd]) (by simp [binOp,SV.val,zs6 hd])
 | fn =>
   cases d<;>simp [zhN,hd] at hnk
   unfold zgt at hy
   split at hy<;>first|contradiction|skip
   unfold zdK at h'
   split at h'<;>first|contradiction|skip
   ·refine fin true _ rfl h' (by cases op<;>simp [eqGuard,SV.val]) (by simp [binOp,SV.val,(znQ hd default #[] #[]).2]) (by simp [binOp,SV.val,(znQ hd default #[] #[]).2])
   ·refine fin false _ rfl h' (by cases op<;>simp [eqGuard,SV.val]) (by simp [binOp,SV.val,(znQ hd _ _ _).1]) (by simp [binOp,SV.val,(znQ hd _ _ _).1])
end
section
variable {P:Program} {w0:World} {fp0:List Nat} {n:Nat} {ds:List Deferred} {e:Env} {a:Act} {L:List Ent} {w:World} {k:SV->List Ent->Prop} {o:Oper}
theorem zn5 (off:Nat):∀ (vs:List Value) (i:Nat) (cs:Array Value),off+i+vs.length<=cs.size ->
 ((vs.zipIdx i).foldl (fun (cs:Array Value) (p:Value × Nat)=>cs.setIfInBounds (off+p.2) p.1) cs).toList=zD cs.toList (off+i) vs
 | [],i,cs,h=>by simp [zD]
 | v :: vs,i,cs,h => by
   simp only [List.zipIdx_cons,List.foldl_cons]
   simp only [List.length_cons] at h
   rw [zn5 off vs (i+1) _ (by simp;omega)]
   simp only [zD,Array.toList_setIfInBounds,List.length_cons]
   have hlt:off+i<cs.toList.length:=by simp;omega
   have e1:(cs.toList.set (off+i) v).take (off+(i+1))=cs.toList.take (off+i)++[v]:=by
    rw [show off+(i+1)=(off+i)+1 from rfl,List.take_add_one,List.take_set_of_le (by omega),List.getElem?_set_self hlt]
    rfl
   have e2:(cs.toList.set (off+i) v).drop (off+(i+1)+vs.length)=cs.toList.drop (off+i+(vs.length+1)):=by
    rw [List.drop_set_of_lt (by omega)]
    congr 1;omega
   rw [e1,e2]
   simp
def zbJ (place:Nat->Option (Nat × Nat)) (tot:Nat):List (Nat × Value)->List (Nat × List Value)->Prop
 | [],[]=>True
 | p::ps,q::qs=>(∃ sz,place p.1=some (q.1,sz)/\p.2.cells.toList=q.2/\q.2.length=sz/\q.1+sz<=tot)/\zbJ place tot ps qs
 | _,_=>False
theorem ziJ (place:Nat->Option (Nat × Nat)):∀ (ps:List (Nat × Value)) (qs:List (Nat × List Value)) (cells:Array Value),
 zbJ place cells.size ps qs->Instr.fill place cells ps=some (ud cells.toList qs).toArray
 | [],[],cells,_=>by simp [Instr.fill,ud]
 | [],_::_,_,h=>h.elim
 | _::_,[],_,h=>h.elim
 | (i,v) :: ps,(off,vs) :: qs,cells,h => by
   obtain ⟨⟨sz,h1,h2,h3,h4⟩,h⟩:=h
   simp only at h1 h2 h3 h4
   have hsz:v.cells.size=sz:=by rw [←Array.length_toList,h2,h3]
   have hf:(v.cells.zipIdx.foldl (fun cs (c,j)=>cs.setIfInBounds (off+j) c) cells).toList=zD cells.toList off vs:=by
    rw [←Array.foldl_toList,Array.toList_zipIdx,h2]
    have:=zn5 off vs 0 cells (by omega)
    simpa using this
   have hs:(v.cells.zipIdx.foldl (fun cs (c,j)=>cs.setIfInBounds (off+j) c) cells).size=cells.size:=by
    rw [←Array.length_toList,hf,yL (by simp;omega)];simp
   have hcond:(decide (v.cells.size≠sz)||decide (off+v.cells.size>cells.size))=false:=by simp [hsz];omega
   simp only [Instr.fill,h1,hcond,Bool.false_eq_true,if_false,ud]
   rw [ziJ place ps qs _ (by rw [hs];exact h),hf]
theorem zkr {fs:Array Field} {tot:Nat} (hA:Agree n ds e a) {place:Nat->Option (Nat × Nat)} (hpl:∀ (i:Nat) (f:Field) (j:TypeInfo),fs[i]?=some f->P.info? f.type=some j->place i=some (f.offset,j.size)) :
 ∀ {ps:List (Nat × Operand)} {l:List (Nat × Nat × X)} {K:List (Nat × List Value)->Prop},zfL P fs tot ps=some l->gPs e l K->∃ qs,zbJ place tot (ps.map fun p=>(p.1,a.eval p.2)) qs/\K qs
 | [],l,K,hc,h=>by simp only [zfL,g3q] at hc;subst hc;exact ⟨[],trivial,h⟩
 | (i,x) :: ps,l,K,hc,h => by
   simp only [zfL] at hc
   split at hc
   ·rename_i f hf
    split at hc
    ·rename_i j hj
     split at hc
     ·rename_i hle
      obtain ⟨l',hl',rfl⟩:=Option.map_eq_some_iff.1 hc
      obtain ⟨s,hs,hlen,h⟩:=zw h
      obtain ⟨qs,hq,hk⟩:=zkr hA hpl hl' h
      refine ⟨(f.offset,yE s)::qs,⟨⟨j.size,hpl i f j hf hj,?_,hlen,hle⟩,hq⟩,hk⟩
      simp only [zk hA hs,uG]
     ·cases hc
    ·cases hc
   ·cases hc
theorem zhR {sz m:Nat} (hA:Agree n ds e a):∀ {ps:List (Nat × Operand)} {K:List (Nat × List Value)->Prop},(ps.all fun p=>p.1<m)=true->gPs e (zhO sz ps) K ->
 ∃ qs,zbJ (fun i=>some (i*sz,sz)) (m*sz) (ps.map fun p=>(p.1,a.eval p.2)) qs/\K qs
 | [],K,_,h=>⟨[],trivial,h⟩
 | (i,x) :: ps,K,hm,h => by
   simp only [List.all_cons,Bool.and_eq_true,decide_eq_true_eq] at hm
   obtain ⟨s,hs,hlen,h⟩:=zw h
   obtain ⟨qs,hq,hk⟩:=zhR hA hm.2 h
   refine ⟨(i*sz,yE s)::qs,⟨⟨sz,rfl,?_,hlen,?_⟩,hq⟩,hk⟩
   ·simp only [zk hA hs,uG]
   ·have:=Nat.mul_le_mul_right sz (show i+1<=m by omega)
    rw [Nat.add_mul,Nat.one_mul] at this
    exact this
theorem zja:∀ (fs:List Field),(fs.all fun f=>(P.info? f.type).isSome)=true ->
 ∃ pl:List (Nat × Nat),fs.mapM (fun f:Field=>(P.info? f.type).map fun i=>(f.offset,i.size))=some pl/\∀ (i:Nat) (f:Field) (j:TypeInfo),fs[i]?=some f->P.info? f.type=some j->pl[i]?=some (f.offset,j.size)
 | [],_=>⟨[],by simp,fun i f j h=>by simp at h⟩
 | f :: fs,h => by
   simp only [List.all_cons,Bool.and_eq_true] at h
   obtain ⟨j0,hj0⟩:=Option.isSome_iff_exists.1 h.1
   obtain ⟨pl,hpl,hat⟩:=zja fs h.2
   refine ⟨(f.offset,j0.size)::pl,by simp [List.mapM_cons,hj0,hpl],fun i g j hg hj=>?_⟩
   cases i with
   | zero =>
     simp only [List.getElem?_cons_zero,g3q] at hg ⊢
     subst hg
     rw [hj0] at hj
     cases hj
     rfl
   | succ i=>exact hat i g j (by simpa using hg) hj
theorem zum {t:TypeId} {fs:Array Field} {ps:Array (Nat × Operand)} {j:TypeInfo} {z:Value} {l:List (Nat × Nat × X)} (ho:o.op=.build t ps) (ht:P.underlying t=some (.struct fs)) (hj:P.info? t=some j) (hz:j.zero=some z)
 (hall:(fs.toList.all fun f=>(P.info? f.type).isSome)=true) (hc:zfL P fs z.cells.size ps.toList=some l)
 (hA:Agree n ds e a) (hR:R w0 fp0 L w) (h:VI P w0 fp0 (.bld z.cells.toList l) e L k):zJ P w0 fp0 o a w k:=by
 simp only [VI] at h
 obtain ⟨pl,hpl,hpl'⟩:=zja (P:=P) fs.toList hall
 obtain ⟨qs,hq,hk⟩:=zkr hA (place:=(pl.toArray[·]?)) (fun i f j hf hj=>by simpa using hpl' i f j (by simpa using hf) hj) hc h
 have hf:=ziJ _ _ _ z.cells hq
 refine zn hR (v:=.agg (ud z.cells.toList qs).toArray) ?_ rfl hk
 have e1:(ps.map fun p=>(p.1,a.eval p.2)).toList=ps.toList.map fun p=>(p.1,a.eval p.2):=by simp
 have hb:P.built t (ps.map fun p=>(p.1,a.eval p.2)).toList=some (ud z.cells.toList qs).toArray:=by
  unfold Program.built
  simp only [hj,ht,hz,hpl,e1]
  exact hf
 have hrun:=run_build (P:=P) w t _ _ hb
 simp only [execOp,ho,Sem.run_bind,hrun,Result.andThen_ok,Sem.run_pure]
theorem zun {t el:TypeId} {m:Nat} {ps:Array (Nat × Operand)} {j je:TypeInfo} {z:Value} (ho:o.op=.build t ps) (ht:P.underlying t=some (.array m el)) (hj:P.info? t=some j) (hje:P.info? el=some je) (hz:j.zero=some z)
 (h1:z.cells.size=m*je.size) (h4:(ps.toList.all fun p=>p.1<m)=true)
 (hA:Agree n ds e a) (hR:R w0 fp0 L w) (h:VI P w0 fp0 (.bld z.cells.toList (zhO je.size ps.toList)) e L k):zJ P w0 fp0 o a w k:=by
 simp only [VI] at h
 obtain ⟨qs,hq,hk⟩:=zhR hA h4 h
 have hq':zbJ (fun i=>some (i*je.size,je.size)) z.cells.size (ps.toList.map fun p=>(p.1,a.eval p.2)) qs:=by rw [h1];exact hq
 have hf:=ziJ _ _ _ z.cells hq'
 refine zn hR (v:=.agg (ud z.cells.toList qs).toArray) ?_ rfl hk
 have e1:(ps.map fun p=>(p.1,a.eval p.2)).toList=ps.toList.map fun p=>(p.1,a.eval p.2):=by simp
 simp only [execOp,ho,Instr.build,run_underlying ht,sizeOf,typeInfo,hje,hj,zeroValue,hz,Sem.run_bind,run_program,Result.andThen_ok,Sem.run_pure,e1,hf]
theorem zdM (z:Array Value) (m sz:Nat) (hz:z.size=sz) (hs:0<sz):((Array.range (m*sz)).map (z[·%z.size]!)).toList=(List.replicate m z.toList).flatten:=by
 apply List.ext_getElem?
 intro i
 have hlen:(List.replicate m z.toList).flatten.length=m*sz:=by simp [hz]
 by_cases hi:i<m*sz
 ·have h1:i%sz<z.size:=by rw [hz];exact Nat.mod_lt _ hs
  have h2:i/sz<m:=Nat.div_lt_of_lt_mul (by rwa [Nat.mul_comm])
  have key:∀ (m i:Nat),i<m*sz->(List.replicate m z.toList).flatten[i]?=z.toList[i%sz]?:=by
   intro m
   induction m with
   | zero=>intro i hi;simp at hi
   | succ m ih =>
     intro i hi
     rw [List.replicate_succ,List.flatten_cons,List.getElem?_append]
     simp only [Array.length_toList,hz]
     by_cases h:i<sz
     ·rw [if_pos h,Nat.mod_eq_of_lt h]
     ·rw [if_neg h,ih (i - sz) (by rw [Nat.add_mul] at hi;omega),←Nat.mod_eq_sub_mod (by omega)]
  rw [key m i hi]
  simp [hi,hz]
  rw [getElem!_pos z (i%sz) h1,Array.getElem?_eq_getElem h1]
 ·rw [List.getElem?_eq_none (by simpa using hi),List.getElem?_eq_none (by omega)]
theorem zhS:∀ (qs:List (Nat × List Value)) (z:List Value),(∀ q∈qs,q.1+q.2.length<=z.length)->(ud z qs).length=z.length
 | [],z,_=>rfl
 | (off,vs) :: qs,z,h => by
   have h1:=h (off,vs) g5q
   have h2:=yL h1
   simp only [ud]
   rw [zhS qs _ (fun q hq=>by rw [h2];exact h q (g4q _ hq)),h2]
theorem zks {place:Nat->Option (Nat × Nat)} {tot:Nat}:∀ {ps:List (Nat × Value)} {qs:List (Nat × List Value)},zbJ place tot ps qs->∀ q∈qs,q.1+q.2.length<=tot
 | [],[],_,q,hq=>by cases hq
 | [],_::_,h,_,_=>h.elim
 | _::_,[],h,_,_=>h.elim
 | _ :: ps,q0 :: qs,h,q,hq => by
   obtain ⟨⟨sz,_,_,h3,h4⟩,h⟩:=h
   rcases List.mem_cons.1 hq with rfl|hq
   ·rw [h3];exact h4
   ·exact zks h q hq
theorem zuo {t el key:TypeId} {m:Nat} {ps:Array (Nat × Operand)} {j:TypeInfo} {z:Value} (ho:o.op=.buildSlice t m ps) (ht:P.underlying t=some (.slice el)) (hj:P.info? el=some j) (hz:j.zero=some z)
 (h1:m*j.size<=4096) (h2:z.cells.size=j.size) (h3:0<j.size) (h4:(ps.toList.all fun p=>p.1<m)=true)
 (hA:Agree n ds e a) (hR:R w0 fp0 L w) (h:VI P w0 fp0 (.bsl key el j.size m (List.replicate m z.cells.toList).flatten (zhO j.size ps.toList)) e L k):kK P w0 fp0 o a w k:=by
 simp only [VI] at h
 obtain ⟨qs,hq,hone,hk⟩:=zhR hA h4 h
 have hzc:=zdM z.cells m j.size h2 h3
 have hq':zbJ (fun i=>some (i*j.size,j.size)) ((Array.range (m*j.size)).map (z.cells[·%z.cells.size]!)).size (ps.toList.map fun p=>(p.1,a.eval p.2)) qs:=by simpa using hq
 have hf:=ziJ _ _ _ _ hq'
 rw [hzc] at hf
 have e1:(ps.map fun p=>(p.1,a.eval p.2)).toList=ps.toList.map fun p=>(p.1,a.eval p.2):=by simp
 have hlen:(ud (List.replicate m z.cells.toList).flatten qs).length=m*j.size:=by
  rw [zhS qs _ (fun q hq''=>by simp [h2];exact zks hq q hq'')];simp [h2]
 refine ⟨.slice (some ⟨w.heap.size,0,none⟩) m m,w.alloc (.cells (ud (List.replicate m z.cells.toList).flatten qs).toArray el),?_,.sl key (some ⟨w.heap.size,0,none⟩) m m,_,rfl,?_,hk w.heap.size⟩
 ·have c1:¬2 ^ 24<m*j.size:=by omega
  by_cases hm0:m*j.size=0
  ·have hm:m=0:=by rcases Nat.mul_eq_zero.1 hm0 with h|h<;>omega
   subst hm
   have hps:ps.toList=[]:=by
    cases hl:ps.toList with
    | nil=>rfl
    | cons p l=>rw [hl] at h4;simp at h4
   have hqs:qs=[]:=by
    cases qs with
    | nil=>rfl
    | cons q l=>rw [hps] at hq;exact hq.elim
   subst hqs
   have e2:ps.map (fun p=>(p.1,a.eval p.2))=#[]:=by apply Array.ext';simp [hps]
   simp only [execOp,ho,Instr.buildSlice,e2]
   simp [run_underlying ht,sizeOf,typeInfo,hj,zeroValue,hz,Instr.fill,newRow,ud,Array.range_zero']
  ·simp only [execOp,ho,Instr.buildSlice,run_underlying ht,sizeOf,typeInfo,hj,zeroValue,hz,Sem.run_bind,run_program,Result.andThen_ok,Sem.run_pure,Sem.run_ite,if_neg c1,if_neg hm0,e1,hf,newRow,run_newObj]
   rfl
 ·refine hR.alloc _ _ rfl ⟨hlen,.inr ⟨w.heap.size,m,_,rfl,Nat.zero_le _,heap_alloc_new w _,Nat.le_refl _,?_,by simpa using hlen,?_⟩⟩
  ·have:m<=m*j.size:=Nat.le_mul_of_pos_right _ h3
   unfold maxLen;omega
  ·simp only [List.toList_toArray]
   exact List.take_of_length_le (by omega)
theorem zrc {t ty el:TypeId} {j:TypeInfo} {z:Value} (ht:P.underlying t=some (.slice el)) (hj:P.info? el=some j) (hz:j.zero=some z) (hzs:z.cells.size=j.size) (hpos:0<j.size)
 {a:Option Addr} {n c:Nat} {xs:List Value} (hown:w.ownsRow 0 el j.size (.slice a n c) n xs) {b:Option Addr} {m cb:Nat} {ys:List Value} (hl:ys.length=m*j.size) (hb:ys=[]∨∃ ad,b=some ad/\∀ i u,ys[i]?=some u->w.cell? (ad.add i)=some u)
 (h1:∀ u∈ys,u.oneCell'=true) (h63:n+m<=maxLen) (hbytes:(n+m)*j.bytes<=140737488355328) :
 ∃ a' c' w',(Builtin.append_ #[t,t] ty #[.slice a n c,.slice b m cb]).run P w = .ok (.slice a' (n + m) c') w' /\ w'.ownsRow 0 el j.size (.slice a' (n + m) c') (n + m) (xs ++ ys) /\ w.grownBy w' (Value.slice a n c).ownBlock /\
   (∀ g,(Value.slice a' (n+m) c').ownBlock=some g->(Value.slice a n c).ownBlock=some g∨(w.heap.size<=g/\g<w'.heap.size))/\w.drawn<=w'.drawn:=by
 have hgref:w.grownBy w (Value.slice a n c).ownBlock:=⟨rfl,rfl,rfl,Nat.le_refl _,fun _ _ _=>rfl⟩
 cases b with
 | none =>
   have hy:ys=[]:=by
    rcases hb with h|⟨ad,h,_⟩
    ·exact h
    ·cases h
   subst hy
   have hm:m=0:=by
    rcases Nat.eq_zero_or_pos m with h|h
    ·exact h
    ·have:=Nat.mul_pos h hpos;simp at hl;omega
   subst hm
   refine ⟨a,c,w,?_,by simpa using hown,hgref,fun g hg=>.inl hg,Nat.le_refl _⟩
   rcases hown.2 with ⟨h2,h3⟩|⟨g,cap,cur,h2,_,_,hnc,_⟩
   ·simp only [Value.slice.injEq] at h2
    obtain ⟨rfl,rfl,rfl⟩:=h2
    simp [Builtin.append_,run_underlying ht,sizeOf,typeInfo,hj,Builtin.lenOf,Builtin.firstCells]
   ·simp only [Value.slice.injEq] at h2
    obtain ⟨rfl,_,rfl⟩:=h2
    simp [Builtin.append_,run_underlying ht,sizeOf,typeInfo,hj,Builtin.lenOf,Builtin.firstCells,hnc,storeCells]
 | some ad =>
   have hcell:∀ i u,ys[i]?=some u->w.cell? (ad.add i)=some u:=by
    rcases hb with h|⟨ad',h,hc⟩
    ·subst h;intro i u hu;simp at hu
    ·cases h;exact hc
   obtain ⟨v',w',hrun,hown',hgrow,hnil⟩:=run_append_own (P:=P) w 0 t ty el j z j.size j.bytes ht hj hz rfl rfl hzs hpos (.slice a n c) n xs hown ad m cb ys hl hcell h1 h63 hbytes (Nat.zero_le _)
   have hsmall:n+m<=9223372036854775807:=by simp only [maxLen] at h63;omega
   have hv':∃ a' c',v'=.slice a' (n+m) c':=by
    rcases hown'.2 with ⟨h2,h3⟩|⟨g,cap,cur,h2,_⟩
    ·exact ⟨none,0,by rw [h2,h3]⟩
    ·exact ⟨_,_,h2⟩
   obtain ⟨a',c',rfl⟩:=hv'
   have hlt:∀ g,(Value.slice a' (n+m) c').ownBlock=some g->g<w'.heap.size:=fun g hg=>(hown'.lt g hg).2
   have hdr:w.drawn<=w'.drawn:=by
    rcases hown.2 with ⟨h2,h3⟩|⟨g0,cap,cur,h2,_,hgg,hnc,hcm,hcs,htake⟩
    ·simp only [Value.slice.injEq] at h2
     obtain ⟨rfl,rfl,rfl⟩:=h2
     rcases Nat.eq_zero_or_pos m with h|h
     ·subst h
      have hr0:(Builtin.append_ #[t,t] ty #[.slice none 0 0,.slice (some ad) 0 cb]).run P w=.ok (.slice none 0 0) w:=by
       simp [Builtin.append_,run_underlying ht,sizeOf,typeInfo,hj,Builtin.lenOf,Builtin.firstCells,loadCells,loadCellsFrom]
      rw [hrun] at hr0
      simp only [Result.ok.injEq] at hr0
      rw [hr0.2];exact Nat.le_refl _
     ·have hr:=run_append_nil (P:=P) w t ty el j z ht hj hz ad m cb ys hl hcell h (by omega) (by simp only [Nat.zero_add] at hbytes;omega)
      rw [hrun] at hr
      simp only [Result.ok.injEq] at hr
      rw [hr.2];exact Nat.le_succ _
    ·simp only [Value.slice.injEq] at h2
     obtain ⟨rfl,_,rfl⟩:=h2
     by_cases hroom:n+m<=c
     ·have hfit:n*j.size+ys.length<=cur.size:=by rw [hl,hcs,←Nat.add_mul];exact Nat.mul_le_mul_right _ hroom
      have hr:=run_append_room (P:=P) w t ty el j ht hj g0 n c cur hgg ad m cb ys hl hcell h1 hroom hfit
      rw [hrun] at hr
      simp only [Result.ok.injEq] at hr
      rw [hr.2];exact Nat.le_refl _
     ·have holds:∀ i u,xs[i]?=some u->w.cell? ((⟨g0,0,none⟩:Addr).add i)=some u:=hown.cells (g:=g0) rfl
      have hr:=run_append_grow (P:=P) w t ty el j z ht hj hz ⟨g0,0,none⟩ n c xs hown.1 holds ad m cb ys hl hcell (by omega) (by omega) (growslice_fits (by omega) hbytes)
      rw [hrun] at hr
      simp only [Result.ok.injEq] at hr
      rw [hr.2];exact Nat.le_succ _
   refine ⟨a',c',w',hrun,hown',hgrow,fun g hg=>?_,hdr⟩
   have hglt:=hlt g hg
   rcases hown.2 with ⟨h2,h3⟩|⟨g0,cap,cur,h2,_,hgg,hnc,hcm,hcs,htake⟩
   ·simp only [Value.slice.injEq] at h2
    obtain ⟨rfl,rfl,rfl⟩:=h2
    rcases Nat.eq_zero_or_pos m with h|h
    ·subst h
     have:=hnil.2 ⟨rfl,rfl⟩
     simp only [Value.slice.injEq] at this
     obtain ⟨rfl,_⟩:=this
     simp [Value.ownBlock] at hg
    ·have hr:=run_append_nil (P:=P) w t ty el j z ht hj hz ad m cb ys hl hcell h (by omega) (by simp only [Nat.zero_add] at hbytes;omega)
     rw [hrun] at hr
     simp only [Result.ok.injEq,Value.slice.injEq] at hr
     obtain ⟨⟨rfl,_⟩,rfl⟩:=hr
     simp only [Value.ownBlock,g3q] at hg
     exact .inr ⟨by omega,by omega⟩
   ·simp only [Value.slice.injEq] at h2
    obtain ⟨rfl,_,rfl⟩:=h2
    by_cases hroom:n+m<=c
    ·have hfit:n*j.size+ys.length<=cur.size:=by rw [hl,hcs,←Nat.add_mul];exact Nat.mul_le_mul_right _ hroom
     have hr:=run_append_room (P:=P) w t ty el j ht hj g0 n c cur hgg ad m cb ys hl hcell h1 hroom hfit
     rw [hrun] at hr
     simp only [Result.ok.injEq,Value.slice.injEq] at hr
     obtain ⟨⟨rfl,_⟩,_⟩:=hr
     exact .inl hg
    ·have holds:∀ i u,xs[i]?=some u->w.cell? ((⟨g0,0,none⟩:Addr).add i)=some u:=hown.cells (g:=g0) rfl
     have hr:=run_append_grow (P:=P) w t ty el j z ht hj hz ⟨g0,0,none⟩ n c xs hown.1 holds ad m cb ys hl hcell (by omega) (by omega) (growslice_fits (by omega) hbytes)
     rw [hrun] at hr
     simp only [Result.ok.injEq,Value.slice.injEq] at hr
     obtain ⟨⟨rfl,_⟩,rfl⟩:=hr
     simp only [Value.ownBlock,g3q] at hg
     exact .inr ⟨by omega,by omega⟩
theorem ziK {key:Nat} {ow:Own} {a':Option Addr} {m c':Nat} {ys:List Value} {w':World} (hR:R w0 fp0 L w) (hb:zL key L=some ow) (hown:w'.ownsRow 0 ow.T ow.sz (.slice a' (ow.n+m) c') (ow.n+m) (ow.xs++ys)) (hg:w.grownBy w' (Value.slice ow.a ow.n ow.c).ownBlock)
 (hfd:(∀ g,(Value.slice a' (ow.n+m) c').ownBlock=some g->(Value.slice ow.a ow.n ow.c).ownBlock=some g∨(w.heap.size<=g/\g<w'.heap.size))/\w.drawn<=w'.drawn):R w0 fp0 (qp key a' (ow.n+m) c' (ow.xs++ys) L) w':=by
 obtain ⟨hf,hd⟩:=hfd
 obtain ⟨L',h1,h2⟩:=yj (a:=ow.a) (n:=ow.n) (c:=ow.c) (T:=ow.T) (sz:=ow.sz) (xs:=ow.xs) hb
 have hR':=hR.perm h1
 refine (R.grow (w':=w') (e':=.own key a' (ow.n+m) c' ow.T ow.sz (ow.xs++ys)) hR' (fun b hb=>?_) ?_ hown hg.size hg.os hg.tape hg.output hd (fun b hlt hb=>?_)).perm (h2 _ _ _ _).symm
 ·simp only [Ent.fp,Option.mem_toList] at hb ⊢
  exact hf b hb
 ·simp only [Ent.fp]
  cases (Value.slice a' (ow.n+m) c').ownBlock<;>simp
 ·refine hg.block b hlt fun h=>hb ?_
  simp only [Ent.fp,Option.mem_toList]
  exact h.symm
theorem zcd {sz:Nat} {s:SV} {K:Nat->List Value->Prop} (hR:R w0 fp0 L w) (h:zaq w0 fp0 L sz s K):∃ b m cb ys,s.val=.slice b m cb/\ys.length=m*sz/\(ys=[]∨∃ ad,b=some ad/\∀ i u,ys[i]?=some u->w.cell? (ad.add i)=some u)/\K m ys:=by
 unfold zaq at h
 split at h
 ·rename_i key a m c
  split at h
  ·rename_i ow hb
   obtain ⟨⟨rfl,rfl,rfl,rfl⟩,h⟩:=h
   refine ⟨ow.a,ow.n,ow.c,ow.xs,rfl,(qW hR hb).1,?_,h⟩
   rcases Nat.eq_zero_or_pos ow.xs.length with h0|h0
   ·exact .inl (List.eq_nil_of_length_eq_zero h0)
   ·refine .inr ?_
    obtain ⟨v,hv⟩:∃ v,ow.xs[0]?=some v:=⟨ow.xs[0],by simp [h0]⟩
    obtain ⟨g,ha,_⟩:=kz hR hb hv
    refine ⟨_,ha,fun i u hu=>?_⟩
    obtain ⟨g',ha',hc⟩:=kz hR hb hu
    rw [ha] at ha'
    simp only [g3q,Addr.mk.injEq,and_true] at ha'
    subst ha'
    rw [yR,Nat.zero_add]
    exact hc
  ·exact h.elim
 ·rename_i a m c
  obtain ⟨ys,⟨hl,hrd⟩,h⟩:=h
  refine ⟨a,m,c,ys,rfl,hl.symm,?_,h⟩
  rcases hrd with h0|hrd
  ·exact .inl h0
  ·obtain ⟨b,off,ha,hc⟩:=hrd w hR
   exact .inr ⟨_,ha,fun i u hu=>by rw [yR];exact hc i u hu⟩
 ·exact h.elim
theorem zup {t ty el key:TypeId} {x y:Operand} {j:TypeInfo} {z:Value} (ho:o.op=.call { callee:=.builtin .append,args:=#[x,y],argTypes:=#[t,t] }) (ht:P.underlying t=some (.slice el)) (hj:P.info? el=some j) (hz:j.zero=some z)
 (hzs:z.cells.size=j.size) (hpos:0<j.size) (hA:Agree n ds e a) (hR:R w0 fp0 L w) (h:VI P w0 fp0 (.app key el j.size j.bytes (cX x) (cX y)) e L k):kK P w0 fp0 o a w k:=by
 simp only [VI] at h
 obtain ⟨s,hp,h'⟩:=zw h
 clear h
 obtain ⟨u,hq,h''⟩:=zw h'
 clear h'
 obtain ⟨b,m,cb,ys,hu,hl,hc,hone,h⟩:=zcd hR h''
 clear h''
 have ex:=zk hA hp
 have ey:=zk hA hq
 rw [hu] at ey
 have fin:∀ (a':Option Addr) (c':Nat × Nat) (w':World) (sv:Value),s.val=sv->(Builtin.append_ #[t,t] o.type #[sv,.slice b m cb]).run P w=.ok (.slice a' c'.1 c'.2) w'->Fin w0 fp0 k (.slice a' c'.1 c'.2) w'->kK P w0 fp0 o a w k:=fun a' c' w' sv hs hr hf=>by
  refine ⟨_,w',?_,hf⟩
  subst hs
  simp only [execOp,ho,resolve,invoke,builtin,Sem.run_bind,Sem.run_pure,Result.andThen_ok,List.map_toArray,List.map_cons,List.map_nil,ex,ey,hr]
 split at h
 ·rename_i key' a1 n1 c1
  split at h
  ·rename_i ow hb
   obtain ⟨⟨rfl,rfl,rfl,hT,hS⟩,⟨h63,hby⟩,hk⟩:=h
   have hrow:=qW hR hb
   rw [hT,hS] at hrow
   obtain ⟨a',c',w',hrun,hown,hg,hf⟩:=zrc (P:=P) (ty:=o.type) ht hj hz hzs hpos hrow hl hc (kJ hone) h63 hby
   refine fin a' (ow.n+m,c') w' _ rfl hrun ⟨.sl key' a' (ow.n+m) c',_,rfl,ziK hR hb (by rw [hT,hS];exact hown) hg hf,hk a' c'⟩
  ·exact h.elim
 ·obtain ⟨⟨h63,hby⟩,hk⟩:=h
  have hrow:w.ownsRow 0 el j.size (.slice none 0 0) 0 []:=World.ownsRow_nil _ _ _ _
  obtain ⟨a',c',w',hrun,hown,hg,hf⟩:=zrc (P:=P) (ty:=o.type) ht hj hz hzs hpos hrow hl hc (kJ hone) (by omega) (by simpa using hby)
  have hR':=hR.ownNil key el j.size
  have hb':zL key (.own key none 0 0 el j.size []::L)=some ⟨none,0,0,el,j.size,[]⟩:=by simp [zL]
  have hfin:=ziK (a':=a') (m:=m) (c':=c') (ys:=ys) hR' hb' hown hg hf
  simp only [qp,if_true,Nat.zero_add,List.nil_append] at hfin
  refine fin a' (m,c') w' _ rfl (by simpa [SV.val] using hrun) ⟨.sl key a' m c',_,rfl,hfin,hk a' c'⟩
 ·rename_i key' a1 v1 c1
  split at h
  ·rename_i ow hb
   obtain ⟨⟨rfl,rfl,hT,hS,hroom,hn0⟩,hk⟩:=h
   have hrow:=qW hR hb
   obtain ⟨hxl,hrow2⟩:=hrow
   rcases hrow2 with ⟨hv,hn⟩|⟨g,cap,cur,hv,_,hg,hncap,hcm,hcs,htake⟩
   ·omega
   simp only [Value.slice.injEq] at hv
   obtain ⟨ha,_,hcap⟩:=hv
   subst hcap
   rw [hS] at hxl htake hcs
   have hfx:v1*j.size+ys.length<=ow.xs.length:=by rw [hl,hxl,←Nat.add_mul];exact Nat.mul_le_mul_right _ hroom
   have hxc:ow.xs.length<=cur.size:=by rw [hxl,hcs];exact Nat.mul_le_mul_right _ hncap
   have hset:R w0 fp0 (qp key' ow.a ow.n ow.c (zD ow.xs (v1*j.size) ys) L) (w.setRow g (zD cur.toList (v1*j.size) ys).toArray):=by
    refine zjB hR hb ha hg (yL hfx) (by simp [yL (cs:=cur.toList) (vs:=ys) (off:=v1*j.size) (by simp;omega)]) ?_
    simp only [List.toList_toArray]
    exact ze1 (by rw [hxl];exact htake) hfx
   cases b with
   | none =>
     have hy:ys=[]:=by
      rcases hc with h|⟨ad,h,_⟩
      ·exact h
      ·cases h
     subst hy
     have hm:m=0:=by
      rcases Nat.eq_zero_or_pos m with h|h
      ·exact h
      ·have:=Nat.mul_pos h hpos;simp at hl;omega
     subst hm
     have hsx:zD ow.xs (v1*j.size) []=ow.xs:=by simp [zD]
     obtain ⟨L',h1,h2⟩:=yj (a:=ow.a) (n:=ow.n) (c:=ow.c) (T:=ow.T) (sz:=ow.sz) (xs:=ow.xs) hb
     have hself:R w0 fp0 (qp key' ow.a ow.n ow.c ow.xs L) w:=(hR.perm h1).perm (h2 _ _ _ _).symm
     rw [hsx] at hk
     refine fin ow.a (v1,ow.c) w _ rfl ?_ ⟨.vie key' ow.a v1 ow.c,_,rfl,hself,hk⟩
     rw [ha]
     simp [SV.val,ha,Builtin.append_,run_underlying ht,sizeOf,typeInfo,hj,Builtin.lenOf,Builtin.firstCells,show v1<=ow.c by omega,storeCells]
   | some ad =>
     have hcell:∀ i u,ys[i]?=some u->w.cell? (ad.add i)=some u:=by
      rcases hc with h|⟨ad',h,hc⟩
      ·subst h;intro i u hu;simp at hu
      ·cases h;exact hc
     have hrun:=run_append_room (P:=P) w t o.type el j ht hj g v1 ow.c cur (hT ▸ hg) ad m cb ys hl hcell (kJ hone) (by omega) (by omega)
     refine fin ow.a (v1+m,ow.c) _ _ rfl ?_ ⟨.vie key' ow.a (v1+m) ow.c,_,rfl,hset,hk⟩
     rw [ha]
     simp only [SV.val,ha]
     exact hrun
  ·exact h.elim
 ·exact h.elim
theorem zuq {t el key:TypeId} {x y:Operand} {j:TypeInfo} {z:Value} (ho:o.op=.makeSlice t x y) (ht:P.underlying t=some (.slice el)) (hj:P.info? el=some j) (hz:j.zero=some z)
 (hzs:z.cells.size=j.size) (hpos:0<j.size) (hA:Agree n ds e a) (hR:R w0 fp0 L w) (h:VI P w0 fp0 (.mks key el j.size j.bytes z.cells.toList (cX x) (cX y)) e L k):kK P w0 fp0 o a w k:=by
 simp only [VI] at h
 obtain ⟨kl,l,hl,h⟩:=qG h
 obtain ⟨kc,c,hc,⟨h0,h1,h2,h3⟩,hk⟩:=qG h
 have ex:=zk hA hl
 have ey:=zk hA hc
 simp only [SV.val] at ex ey
 have hcm:c.toNat<=maxLen:=by omega
 have h63:c<=9223372036854775807:=by unfold maxLen at h3;omega
 have hrun:=run_make (P:=P) w t el j z ht hj hz kl kc l c h0 h1 h2 h63
 refine ⟨_,w.alloc (.cells (madeCells z.cells (c.toNat*j.size)) el),?_,.sl key (some ⟨w.heap.size,0,none⟩) l.toNat c.toNat,_,rfl,?_,hk w.heap.size⟩
 ·simp only [execOp,ho,ex,ey,Sem.run_bind,hrun,Result.andThen_ok,Sem.run_pure,SV.val]
 ·refine hR.alloc _ _ rfl ⟨by simp [hzs],.inr ⟨w.heap.size,c.toNat,_,rfl,Nat.zero_le _,heap_alloc_new w _,by omega,hcm,by simp [madeCells],?_⟩⟩
  have e1:(madeCells z.cells (c.toNat*j.size)).toList=(List.replicate c.toNat z.cells.toList).flatten:=zdM z.cells c.toNat j.size hzs hpos
  rw [e1]
  have e2:List.replicate c.toNat z.cells.toList=List.replicate l.toNat z.cells.toList++List.replicate (c.toNat - l.toNat) z.cells.toList:=by
   rw [List.replicate_append_replicate];congr 1;omega
  rw [e2,List.flatten_append]
  have e3:(List.replicate l.toNat z.cells.toList).flatten.length=l.toNat*j.size:=by simp [hzs]
  rw [←e3]
  exact List.take_left
end
section
variable {P:Program} {w0:World} {fp0:List Nat} {n:Nat} {ds:List Deferred} {e:Env} {a:Act} {L:List Ent} {w:World} {k:SV->List Ent->Prop} {o:Oper}
theorem zn6 {t el:TypeId} {x:Operand} {lo hi:Option Operand} {j:TypeInfo} (ho:o.op=.slice t x lo hi none) (ht:P.underlying t=some (.slice el)) (hj:P.info? el=some j)
 (hA:Agree n ds e a) (hR:R w0 fp0 L w) (h:VI P w0 fp0 (.slc j.size (cX x) (lo.map cX) (hi.map cX)) e L k):zJ P w0 fp0 o a w k:=by
 simp only [VI] at h
 obtain ⟨s,hp,h⟩:=zw h
 have ex:=zk hA hp
 have hlo:∀ {K:Int->Prop},jB e (lo.map cX) 0 K->∃ l:Int,K l/\(lo=none/\l=0∨∃ y kl,lo=some y/\a.eval y=.int kl l):=fun {K} hh=>by
  cases lo with
  | none=>exact ⟨0,hh,.inl ⟨rfl,rfl⟩⟩
  | some y =>
    obtain ⟨kl,l,hl,hh⟩:=qG hh
    exact ⟨l,hh,.inr ⟨y,kl,rfl,zk hA hl⟩⟩
 have hhi:∀ {m:Nat} {K:Int->Prop},jB e (hi.map cX) m K->∃ l:Int,K l/\(hi=none/\l=m∨∃ y kl,hi=some y/\a.eval y=.int kl l):=fun {m K} hh=>by
  cases hi with
  | none=>exact ⟨m,hh,.inl ⟨rfl,rfl⟩⟩
  | some y =>
    obtain ⟨kl,l,hl,hh⟩:=qG hh
    exact ⟨l,hh,.inr ⟨y,kl,rfl,zk hA hl⟩⟩
 obtain ⟨l,h,hl⟩:=hlo h
 have key:∀ (ad:Option Addr) (m c:Nat),s.val=.slice ad m c->jB e (hi.map cX) m (fun h=>(0<=l/\l<=h/\h<=c)/\k (.v (.slice (xc ad c l.toNat j.size) (h.toNat - l.toNat) (c - l.toNat))) L)->zJ P w0 fp0 o a w k:=fun ad m c hs hh=>by
  obtain ⟨hv,⟨⟨c1,c2,c3⟩,hk⟩,hz⟩:=hhi hh
  clear hh h hlo hhi
  refine zn hR (v:=.slice (xc ad c l.toNat j.size) (hv.toNat - l.toNat) (c - l.toNat)) ?_ rfl hk
  have sb:∀ (kk:IntKind) (i:Int) (y:Nat) (code:BoundsCode),0<=i->i<=y->(Instr.sliceBound (.int kk i) y code).run P w=.ok i.toNat w:=fun kk i y code h0 h1=>run_sliceBound w kk i y code h0 h1
  have hb:(Instr.sliceBounds true m c (lo.map a.eval) (hi.map a.eval) none).run P w=.ok (l.toNat,hv.toNat,c) w:=by
   have hle:l<=((hv.toNat:Nat):Int):=by omega
   rcases hl with ⟨rfl,rfl⟩|⟨y,kl,rfl,hy⟩<;>rcases hz with ⟨rfl,rfl⟩|⟨y',kh,rfl,hy'⟩
   ·simp [Instr.sliceBounds]
   ·simp only [Instr.sliceBounds,Option.map_none,Option.map_some,hy',Sem.run_bind,Sem.run_pure,Result.andThen_ok,sb kh hv c _ (by omega) c3,if_true];simp
   ·simp only [Instr.sliceBounds,Option.map_none,Option.map_some,hy,Sem.run_bind,Sem.run_pure,Result.andThen_ok]
    rw [sb kl l m _ c1 c2];simp
   ·simp only [Instr.sliceBounds,Option.map_none,Option.map_some,hy,hy',Sem.run_bind,Sem.run_pure,Result.andThen_ok,sb kh hv c _ (by omega) c3,if_true]
    rw [sb kl l hv.toNat _ c1 hle];simp
  simp only [execOp,ho,Instr.sliceAt,Instr.slice,run_underlying ht,ex,hs,Option.map_none,Sem.run_bind,Result.andThen_ok,hb,sizeOf,typeInfo,hj,run_program,Sem.run_pure,xc]
 split at h
 ·exact key _ _ _ rfl h
 ·exact key _ _ _ rfl h
 ·exact h.elim
theorem zur {t:TypeId} {x:Operand} {f:Nat} {fs:Array Field} {fd:Field} {lk:LK} (ho:o.op=.field t x f) (ht:P.underlying t=some (.struct fs)) (hf:fs[f]?=some fd) (hlk:zhM P fd.type=some lk)
 (hA:Agree n ds e a) (hR:R w0 fp0 L w) (h:VI P w0 fp0 (.fld fd.offset lk (cX x)) e L k):zJ P w0 fp0 o a w k:=by
 simp only [VI] at h
 obtain ⟨s,hp,h⟩:=zw h
 have ex:=zk hA hp
 split at h
 ·rename_i cs
  obtain ⟨v,hv,h⟩:=zfJ h
  rw [zhL,Array.getElem?_toList] at hv
  simp only [SV.val] at ex
  refine zn hR (s:=.v v) ?_ rfl h
  have hpart:(part fd.type cs fd.offset).run P w=.ok v w:=by
   unfold zhM at hlk
   cases hu:P.underlying fd.type with
   | none=>simp [hu] at hlk
   | some d=>cases d<;>simp [hu] at hlk<;>simp [part,isAgg,run_underlying hu,hv]
  simp only [execOp,ho,Instr.field,run_underlying ht,Sem.run_bind,Result.andThen_ok,hf,ex,asAgg,Sem.run_pure,hpart,SV.val]
 ·exact h.elim
theorem kU {xs ys:List Value} (h:zE xs ys []):xs=[]/\ys=[]:=by
 unfold zE at h
 split at h
 ·rename_i heq;cases heq
 ·rename_i heq;cases heq
 ·exact ⟨rfl,rfl⟩
 ·exact h.elim
theorem y6 {xs ys:List Value} {kd:IntKind} {ks:List LK} (h:zE xs ys (.int kd::ks)):∃ p q xs' ys',xs=.int kd p::xs'/\ys=.int kd q::ys'/\zE xs' ys' ks:=by
 unfold zE at h
 split at h
 ·rename_i heq
  simp only [List.cons.injEq,LK.int.injEq] at heq
  obtain ⟨rfl,rfl⟩:=heq
  obtain ⟨⟨rfl,rfl⟩,h⟩:=h
  exact ⟨_,_,_,_,rfl,rfl,h⟩
 ·rename_i heq;cases heq
 ·rename_i heq;cases heq
 ·exact h.elim
theorem xf {xs ys:List Value} {ks:List LK} (h:zE xs ys (.bool::ks)):∃ p q xs' ys',xs=.bool p::xs'/\ys=.bool q::ys'/\zE xs' ys' ks:=by
 unfold zE at h
 split at h
 ·rename_i heq;cases heq
 ·rename_i heq
  simp only [List.cons.injEq,true_and] at heq
  subst heq
  exact ⟨_,_,_,_,rfl,rfl,h⟩
 ·rename_i heq;cases heq
 ·exact h.elim
theorem yz {xs:Array Value} {m:Nat} {v:Value} {l:List Value} (h:xs.toList.drop m=v::l):xs[m]?=some v/\xs.toList.drop (m+1)=l:=by
 constructor
 ·have:=congrArg (fun l=>l[0]?) h
  simpa using this
 ·have:=congrArg List.tail h
  simpa using this
theorem za9 {d:Nat} {xs ys:Array Value}:∀ (fs:List Field) (m:Nat) (ks:List LK),jh P fs m=some ks->zE (xs.toList.drop m) (ys.toList.drop m) ks ->
 (Op.eqFields (d+1) xs ys fs).run P w=.ok (zW (xs.toList.drop m) (ys.toList.drop m)) w
 | [],m,ks,hk,hok => by
   simp only [jh,g3q] at hk
   subst hk
   obtain ⟨h1,h2⟩:=kU hok
   rw [h1,h2]
   simp [Op.eqFields,zW]
 | f :: fs,m,ks,hk,hok => by
   simp only [jh] at hk
   split at hk
   ·rename_i hcond
    obtain ⟨hoff,hname⟩:=hcond
    have hnm : f.name ≠ "_" := by simpa using hname
    split at hk
    ·rename_i kd hu
     obtain ⟨ks',hks',rfl⟩:=Option.map_eq_some_iff.1 hk
     obtain ⟨p,q,lx,ly,hx,hy,hok'⟩:=y6 hok
     obtain ⟨ex,ex'⟩:=yz hx
     obtain ⟨ey,ey'⟩:=yz hy
     have ih:=za9 (d:=d) (xs:=xs) (ys:=ys) fs (m+1) ks' hks' (by rw [ex',ey'];exact hok')
     rw [ex',ey'] at ih
     rw [hx,hy]
     have p1:(part f.type xs f.offset).run P w=.ok (.int kd p) w:=by simp [part,isAgg,run_underlying hu,hoff,ex]
     have p2:(part f.type ys f.offset).run P w=.ok (.int kd q) w:=by simp [part,isAgg,run_underlying hu,hoff,ey]
     simp only [Op.eqFields,if_pos hnm,Sem.run_bind,p1,p2,Result.andThen_ok,run_equalIn_int w d _ _ _ p q hu,zW]
     by_cases hpq:p=q
     ·simp [hpq,ih]
     ·simp [hpq]
    ·rename_i hu
     obtain ⟨ks',hks',rfl⟩:=Option.map_eq_some_iff.1 hk
     obtain ⟨p,q,lx,ly,hx,hy,hok'⟩:=xf hok
     obtain ⟨ex,ex'⟩:=yz hx
     obtain ⟨ey,ey'⟩:=yz hy
     have ih:=za9 (d:=d) (xs:=xs) (ys:=ys) fs (m+1) ks' hks' (by rw [ex',ey'];exact hok')
     rw [ex',ey'] at ih
     rw [hx,hy]
     have p1:(part f.type xs f.offset).run P w=.ok (.bool p) w:=by simp [part,isAgg,run_underlying hu,hoff,ex]
     have p2:(part f.type ys f.offset).run P w=.ok (.bool q) w:=by simp [part,isAgg,run_underlying hu,hoff,ey]
     simp only [Op.eqFields,if_pos hnm,Sem.run_bind,p1,p2,Result.andThen_ok,run_equalIn_bool' w d _ p q hu,zW]
     by_cases hpq:p=q
     ·simp [hpq,ih]
     ·simp [hpq]
    ·cases hk
   ·cases hk
theorem zbK:∀ {xs ys:List Value} {ks ks':List LK},zE xs ys (ks++ks')->zE (xs.take ks.length) (ys.take ks.length) ks/\zE (xs.drop ks.length) (ys.drop ks.length) ks'/\zW xs ys=(zW (xs.take ks.length) (ys.take ks.length)&&zW (xs.drop ks.length) (ys.drop ks.length))
 | xs,ys,[],ks',h => by
   refine ⟨by simp [zE],by simpa using h,by simp [zW]⟩
 | xs,ys,k :: ks,ks',h => by
   cases k with
   | int kd =>
     obtain ⟨p,q,xs',ys',rfl,rfl,h'⟩:=y6 h
     obtain ⟨h1,h2,h3⟩:=zbK h'
     refine ⟨?_,?_,?_⟩
     ·simp only [List.length_cons,List.take_succ_cons,zE,true_and];exact h1
     ·simpa using h2
     ·simp only [List.length_cons,List.take_succ_cons,List.drop_succ_cons,zW,h3,Bool.and_assoc]
   | bool =>
     obtain ⟨p,q,xs',ys',rfl,rfl,h'⟩:=xf h
     obtain ⟨h1,h2,h3⟩:=zbK h'
     refine ⟨?_,?_,?_⟩
     ·simp only [List.length_cons,List.take_succ_cons,zE];exact h1
     ·simpa using h2
     ·simp only [List.length_cons,List.take_succ_cons,List.drop_succ_cons,zW,h3,Bool.and_assoc]
   | _ =>
     exfalso
     cases xs<;>cases ys<;>simp [zE] at h
theorem zdN (xs:Array Value) (m n:Nat):(xs.extract m (m+n)).toList=(xs.toList.drop m).take n:=by
 simp [Array.toList_extract,List.extract_eq_take_drop]
theorem zdg {d:Nat} {xs ys:Array Value}:∀ (fs:List Field) (m:Nat) (ks:List LK),zcs P fs m=some ks->zE (xs.toList.drop m) (ys.toList.drop m) ks ->
 (Op.eqFields (d+3) xs ys fs).run P w=.ok (zW (xs.toList.drop m) (ys.toList.drop m)) w
 | [],m,ks,hk,hok => by
   simp only [zcs,g3q] at hk
   subst hk
   obtain ⟨h1,h2⟩:=kU hok
   rw [h1,h2]
   simp [Op.eqFields,zW]
 | f :: fs,m,ks,hk,hok => by
   simp only [zcs] at hk
   split at hk
   ·rename_i hcond
    obtain ⟨hoff,hname⟩:=hcond
    have hnm : f.name ≠ "_" := by simpa using hname
    split at hk
    ·rename_i kd hu
     obtain ⟨ks',hks',rfl⟩:=Option.map_eq_some_iff.1 hk
     obtain ⟨p,q,lx,ly,hx,hy,hok'⟩:=y6 hok
     obtain ⟨ex,ex'⟩:=yz hx
     obtain ⟨ey,ey'⟩:=yz hy
     have ih:=zdg (d:=d) (xs:=xs) (ys:=ys) fs (m+1) ks' hks' (by rw [ex',ey'];exact hok')
     rw [ex',ey'] at ih
     rw [hx,hy]
     have p1:(part f.type xs f.offset).run P w=.ok (.int kd p) w:=by simp [part,isAgg,run_underlying hu,hoff,ex]
     have p2:(part f.type ys f.offset).run P w=.ok (.int kd q) w:=by simp [part,isAgg,run_underlying hu,hoff,ey]
     simp only [Op.eqFields,if_pos hnm,Sem.run_bind,p1,p2,Result.andThen_ok,run_equalIn_int w _ _ _ _ p q hu,zW]
     by_cases hpq:p=q
     ·simp [hpq,ih]
     ·simp [hpq]
    ·rename_i hu
     obtain ⟨ks',hks',rfl⟩:=Option.map_eq_some_iff.1 hk
     obtain ⟨p,q,lx,ly,hx,hy,hok'⟩:=xf hok
     obtain ⟨ex,ex'⟩:=yz hx
     obtain ⟨ey,ey'⟩:=yz hy
     have ih:=zdg (d:=d) (xs:=xs) (ys:=ys) fs (m+1) ks' hks' (by rw [ex',ey'];exact hok')
     rw [ex',ey'] at ih
     rw [hx,hy]
     have p1:(part f.type xs f.offset).run P w=.ok (.bool p) w:=by simp [part,isAgg,run_underlying hu,hoff,ex]
     have p2:(part f.type ys f.offset).run P w=.ok (.bool q) w:=by simp [part,isAgg,run_underlying hu,hoff,ey]
     simp only [Op.eqFields,if_pos hnm,Sem.run_bind,p1,p2,Result.andThen_ok,run_equalIn_bool' w _ _ p q hu,zW]
     by_cases hpq:p=q
     ·simp [hpq,ih]
     ·simp [hpq]
    ·rename_i gs hu
     split at hk
     ·rename_i hst
      split at hk
      ·rename_i ks1 j hk1 hj
       split at hk
       ·rename_i hsz
        obtain ⟨ks',hks',rfl⟩:=Option.map_eq_some_iff.1 hk
        obtain ⟨h1,h2,h3⟩:=zbK hok
        have ih:=zdg (d:=d) (xs:=xs) (ys:=ys) fs (m+ks1.length) ks' hks' (by rw [List.drop_drop,List.drop_drop] at h2;exact h2)
        have p1:(part f.type xs f.offset).run P w=.ok (.agg (xs.extract m (m+ks1.length))) w:=by simp [part,isAgg,run_underlying hu,hoff,sizeOf,typeInfo,hj,hsz]
        have p2:(part f.type ys f.offset).run P w=.ok (.agg (ys.extract m (m+ks1.length))) w:=by simp [part,isAgg,run_underlying hu,hoff,sizeOf,typeInfo,hj,hsz]
        have hft:P.underlying f.type=some (.struct (P.fieldsOf f.type)):=by simp [Program.fieldsOf,hu]
        have hfe:P.fieldsOf f.type=gs:=by simp [Program.fieldsOf,hu]
        have hin:=za9 (P:=P) (w:=w) (d:=d+1) (xs:=xs.extract m (m+ks1.length)) (ys:=ys.extract m (m+ks1.length)) gs.toList 0 ks1 hk1 (by simpa only [List.drop_zero,zdN] using h1)
        rw [List.drop_zero,List.drop_zero,zdN,zdN] at hin
        rw [List.drop_drop,List.drop_drop] at h3
        simp only [Op.eqFields,if_pos hnm,Sem.run_bind,p1,p2,Result.andThen_ok]
        rw [show d+3=(d+2)+1 from rfl,run_equalIn_struct w (d+2) f.type _ _ hft hst,hfe]
        rw [show d+2=d+1+1 from rfl,hin]
        simp only [Result.andThen_ok]
        rw [h3]
        by_cases hpq:zW ((xs.toList.drop m).take ks1.length) ((ys.toList.drop m).take ks1.length)=true
        ·rw [hpq]
         simp only [Bool.not_true,Bool.false_eq_true,if_false,Bool.true_and]
         exact ih
        ·simp only [Bool.not_eq_true] at hpq
         rw [hpq]
         simp
       ·cases hk
      ·cases hk
     ·cases hk
    ·cases hk
   ·cases hk
theorem zn7 {op:BinOp} {t yt:TypeId} {x y:Operand} {fs:Array Field} {ks:List LK} (ho:o.op=.binOp op t x y yt) {ng:Bool} (hop:op=if ng then .neq else .eql) (ht:P.underlying t=some (.struct fs)) (hs:P.stoodInHeld t=false) (hg:P.eqGuardType P.depth t=false) (hks:zcs P fs.toList 0=some ks)
 (hA:Agree n ds e a) (hR:R w0 fp0 L w) (h:VI P w0 fp0 (.eqa ng ks (cX x) (cX y)) e L k):zJ P w0 fp0 o a w k:=by
 simp only [VI] at h
 obtain ⟨s,hp,h'⟩:=zw h
 clear h
 obtain ⟨u,hq,h⟩:=zw h'
 clear h'
 have ex:=zk hA hp
 have ey:=zk hA hq
 split at h
 ·rename_i p q
  obtain ⟨hok,hk⟩:=h
  simp only [SV.val] at ex ey
  have hft:P.underlying t=some (.struct (P.fieldsOf t)):=by simp [Program.fieldsOf,ht]
  have hfe:P.fieldsOf t=fs:=by simp [Program.fieldsOf,ht]
  have he:(Op.equalIn 10000 t (.agg p) (.agg q)).run P w=.ok (zW p.toList q.toList) w:=by
   rw [show (10000:Nat)=9999+1 from rfl,run_equalIn_struct w 9999 t p q hft hs,hfe]
   have:=zdg (P:=P) (w:=w) (d:=9996) (xs:=p) (ys:=q) fs.toList 0 ks hks (by simpa using hok)
   simpa using this
  have hgd:=run_eqGuard_agg (P:=P) w op t x y p q hg
  cases ng<;>simp only [if_true,Bool.false_eq_true,if_false] at hop<;>subst hop
  ·refine zn hR (s:=.v (.bool (ngB false (zW p.toList q.toList)))) ?_ rfl hk
   simp only [execOp,ho,ex,ey,Sem.run_bind,hgd,Result.andThen_ok,run_eql_struct,he,Sem.run_pure,SV.val,ngB]
  ·refine zn hR (s:=.v (.bool (ngB true (zW p.toList q.toList)))) ?_ rfl hk
   simp only [execOp,ho,ex,ey,Sem.run_bind,hgd,Result.andThen_ok,run_neq_struct,he,Sem.run_pure,SV.val,ngB]
 ·exact h.elim
theorem zjb {d:Nat} {el:TypeId} {kd:IntKind} {xs ys:Array Value} (hu:P.underlying el=some (.int kd)):∀ (m i:Nat),zE (xs.toList.drop i) (ys.toList.drop i) (List.replicate m (.int kd)) ->
 (Op.eqItems (d+1) el 1 xs ys (List.range' i m)).run P w=.ok (zW (xs.toList.drop i) (ys.toList.drop i)) w
 | 0,i,hok => by
   obtain ⟨h1,h2⟩:=kU hok
   rw [h1,h2]
   simp [Op.eqItems,zW]
 | m + 1,i,hok => by
   rw [List.replicate_succ] at hok
   obtain ⟨p,q,lx,ly,hx,hy,hok'⟩:=y6 hok
   obtain ⟨ex,ex'⟩:=yz hx
   obtain ⟨ey,ey'⟩:=yz hy
   have ih:=zjb (d:=d) (xs:=xs) (ys:=ys) hu m (i+1) (by rw [ex',ey'];exact hok')
   rw [ex',ey'] at ih
   rw [hx,hy]
   have p1:(part el xs (i*1)).run P w=.ok (.int kd p) w:=by simp [part,isAgg,run_underlying hu,ex]
   have p2:(part el ys (i*1)).run P w=.ok (.int kd q) w:=by simp [part,isAgg,run_underlying hu,ey]
   rw [List.range'_succ]
   simp only [Op.eqItems,Sem.run_bind,p1,p2,Result.andThen_ok,run_equalIn_int w d _ _ _ p q hu,zW]
   by_cases hpq:p=q
   ·simp [hpq,ih]
   ·simp [hpq]
theorem zn8 {op:BinOp} {t yt el:TypeId} {x y:Operand} {m:Nat} {kd:IntKind} {j:TypeInfo} (ho:o.op=.binOp op t x y yt) {ng:Bool} (hop:op=if ng then .neq else .eql) (ht:P.underlying t=some (.array m el)) (hu:P.underlying el=some (.int kd)) (hj:P.info? el=some j) (hs:j.size=1) (hg:P.eqGuardType P.depth t=false)
 (hA:Agree n ds e a) (hR:R w0 fp0 L w) (h:VI P w0 fp0 (.eqa ng (List.replicate m (.int kd)) (cX x) (cX y)) e L k):zJ P w0 fp0 o a w k:=by
 simp only [VI] at h
 obtain ⟨s,hp,h'⟩:=zw h
 clear h
 obtain ⟨u,hq,h⟩:=zw h'
 clear h'
 have ex:=zk hA hp
 have ey:=zk hA hq
 split at h
 ·rename_i p q
  obtain ⟨hok,hk⟩:=h
  simp only [SV.val] at ex ey
  have he:(Op.equalIn 10000 t (.agg p) (.agg q)).run P w=.ok (zW p.toList q.toList) w:=by
   rw [show (10000:Nat)=9999+1 from rfl,run_equalIn_array w 9999 p q ht hj]
   have hc:P.cellsOf el=1:=by simp [Program.cellsOf,hj,hs]
   have:=zjb (P:=P) (w:=w) (d:=9998) (xs:=p) (ys:=q) hu m 0 (by simpa using hok)
   rw [hc,List.range_eq_range']
   simpa using this
  have hgd:=run_eqGuard_agg (P:=P) w op t x y p q hg
  cases ng<;>simp only [if_true,Bool.false_eq_true,if_false] at hop<;>subst hop
  ·refine zn hR (s:=.v (.bool (ngB false (zW p.toList q.toList)))) ?_ rfl hk
   simp only [execOp,ho,ex,ey,Sem.run_bind,hgd,Result.andThen_ok,run_eql_struct,he,Sem.run_pure,SV.val,ngB]
  ·refine zn hR (s:=.v (.bool (ngB true (zW p.toList q.toList)))) ?_ rfl hk
   simp only [execOp,ho,ex,ey,Sem.run_bind,hgd,Result.andThen_ok,run_neq_struct,he,Sem.run_pure,SV.val,ngB]
 ·exact h.elim
theorem zus {t el:TypeId} {j:TypeInfo} (hd:P.underlying t=some (.pointer el)) (hj:P.info? el=some j) (hpos:¬j.size=0) (d:Nat) (p q:Addr) (hb:p.block=q.block):(Op.equalIn (d+1) t (.pointer (some p)) (.pointer (some q))).run P w=.ok (decide (p=q)) w:=by
 have:(p == q)=decide (p=q):=by by_cases h:p=q<;>simp [h]
 simp [Op.equalIn,run_underlying hd,sizeOf,typeInfo,hj,hpos,sameAddr,hb,this]
theorem zn9 {op:BinOp} {t yt el:TypeId} {x y:Operand} {j:TypeInfo} (ho:o.op=.binOp op t x y yt) {ng:Bool} (hop:op=if ng then .neq else .eql) (ht:P.underlying t=some (.pointer el)) (hj:P.info? el=some j) (hpos:0<j.size)
 (hA:Agree n ds e a) (hR:R w0 fp0 L w) (h:VI P w0 fp0 (.eqp ng (cX x) (cX y)) e L k):zJ P w0 fp0 o a w k:=by
 simp only [VI] at h
 obtain ⟨s,hp,h⟩:=zw h
 obtain ⟨u,hq,p,q,⟨h1,h2,h3⟩,hk⟩:=zw h
 have ex:=(zk hA hp).trans h1
 have ey:=(zk hA hq).trans h2
 have he:(Op.equal t (.pointer (some p)) (.pointer (some q))).run P w=.ok (decide (p=q)) w:=zus ht hj (by omega) 9999 p q h3
 have hgd:(eqGuard op t x y (.pointer (some p)) (.pointer (some q))).run P w=.ok () w:=by cases op<;>simp [eqGuard]
 cases ng<;>simp only [if_true,Bool.false_eq_true,if_false] at hop<;>subst hop
 ·refine zn hR (s:=.v (.bool (ngB false (decide (p=q))))) ?_ rfl hk
  simp [execOp,ho,ex,ey,hgd,binOp,he,SV.val,ngB]
 ·refine zn hR (s:=.v (.bool (ngB true (decide (p=q))))) ?_ rfl hk
  simp [execOp,ho,ex,ey,hgd,binOp,he,SV.val,ngB]
end
section
variable {P:Program} {w0:World} {fp0:List Nat} {n:Nat} {ds:List Deferred} {e:Env} {a:Act} {L:List Ent} {w:World} {k:SV->List Ent->Prop} {o:Oper}
theorem zce:∀ {ks:List LK} {xs ys:List Value},zE xs xs ks->zE ys ys ks->zE xs ys ks
 | [],xs,ys,hx,hy => by
   obtain ⟨rfl,_⟩:=kU hx
   obtain ⟨rfl,_⟩:=kU hy
   trivial
 | .int kd :: ks,xs,ys,hx,hy => by
   obtain ⟨p,q,xs',_,rfl,h2,h3⟩:=y6 hx
   obtain ⟨p',q',ys',_,rfl,h5,h6⟩:=y6 hy
   simp only [List.cons.injEq] at h2 h5
   rw [←h2.2] at h3
   rw [←h5.2] at h6
   exact ⟨⟨rfl,rfl⟩,zce h3 h6⟩
 | .bool :: ks,xs,ys,hx,hy => by
   obtain ⟨p,q,xs',_,rfl,h2,h3⟩:=xf hx
   obtain ⟨p',q',ys',_,rfl,h5,h6⟩:=xf hy
   simp only [List.cons.injEq] at h2 h5
   rw [←h2.2] at h3
   rw [←h5.2] at h6
   exact zce (ks:=ks) h3 h6
 | .str::ks,xs,ys,hx,hy=>by unfold zE at hx;split at hx<;>simp_all
 | .ptr::ks,xs,ys,hx,hy=>by unfold zE at hx;split at hx<;>simp_all
 | .slc::ks,xs,ys,hx,hy=>by unfold zE at hx;split at hx<;>simp_all
 | .map::ks,xs,ys,hx,hy=>by unfold zE at hx;split at hx<;>simp_all
 | .raw::ks,xs,ys,hx,hy=>by unfold zE at hx;split at hx<;>simp_all
theorem zgu:∀ {ks:List LK} {xs ys:List Value},zE xs ys ks->zW xs ys=true->xs=ys
 | [],xs,ys,hx,_ => by
   obtain ⟨rfl,rfl⟩:=kU hx
   rfl
 | .int kd :: ks,xs,ys,hx,h => by
   obtain ⟨p,q,xs',ys',rfl,rfl,h3⟩:=y6 hx
   simp only [zW,Bool.and_eq_true,decide_eq_true_eq] at h
   rw [h.1,zgu h3 h.2]
 | .bool :: ks,xs,ys,hx,h => by
   obtain ⟨p,q,xs',ys',rfl,rfl,h3⟩:=xf hx
   simp only [zW,Bool.and_eq_true,decide_eq_true_eq] at h
   rw [h.1,zgu h3 h.2]
 | .str::ks,xs,ys,hx,hy=>by unfold zE at hx;split at hx<;>simp_all
 | .ptr::ks,xs,ys,hx,hy=>by unfold zE at hx;split at hx<;>simp_all
 | .slc::ks,xs,ys,hx,hy=>by unfold zE at hx;split at hx<;>simp_all
 | .map::ks,xs,ys,hx,hy=>by unfold zE at hx;split at hx<;>simp_all
 | .raw::ks,xs,ys,hx,hy=>by unfold zE at hx;split at hx<;>simp_all
theorem zdO:∀ {ks:List LK} {xs:List Value},zE xs xs ks->zW xs xs=true
 | [],xs,hx => by
   obtain ⟨rfl,_⟩:=kU hx
   rfl
 | .int kd :: ks,xs,hx => by
   obtain ⟨p,q,xs',ys',rfl,h2,h3⟩:=y6 hx
   simp only [List.cons.injEq] at h2
   rw [←h2.2] at h3
   simp [zW,zdO h3]
 | .bool :: ks,xs,hx => by
   obtain ⟨p,q,xs',ys',rfl,h2,h3⟩:=xf hx
   simp only [List.cons.injEq] at h2
   rw [←h2.2] at h3
   simp [zW,zdO h3]
 | .str::ks,xs,hx=>by unfold zE at hx;split at hx<;>simp_all
 | .ptr::ks,xs,hx=>by unfold zE at hx;split at hx<;>simp_all
 | .slc::ks,xs,hx=>by unfold zE at hx;split at hx<;>simp_all
 | .map::ks,xs,hx=>by unfold zE at hx;split at hx<;>simp_all
 | .raw::ks,xs,hx=>by unfold zE at hx;split at hx<;>simp_all
theorem zs7 {kk:KK} {x y:Value} (hx:qj kk x) (hy:qj kk y):y9 x y=true↔x=y:=by
 cases kk with
 | str =>
   obtain ⟨p,rfl⟩:=hx
   obtain ⟨q,rfl⟩:=hy
   simp [y9]
 | ptr =>
   obtain ⟨p,rfl⟩:=hx
   obtain ⟨q,rfl⟩:=hy
   simp [y9]
 | int kd =>
   obtain ⟨p,rfl⟩:=hx
   obtain ⟨q,rfl⟩:=hy
   simp [y9]
 | agg ks =>
   obtain ⟨p,rfl,hx⟩:=hx
   obtain ⟨q,rfl,hy⟩:=hy
   simp only [y9]
   constructor
   ·intro h
    have:=zgu (zce hx hy) h
    rw [Array.ext' this]
   ·intro h
    simp only [Value.agg.injEq] at h
    subst h
    exact zdO hx
theorem zbL:∀ {ks:List LK} {xs:List Value} (m:Nat),zE xs xs ks->(xs.zip xs).all (fun (x,y)=>Instr.sameBits m x y)=true
 | [],xs,m,hx => by
   obtain ⟨rfl,_⟩:=kU hx
   rfl
 | .int kd :: ks,xs,m,hx => by
   obtain ⟨p,q,xs',ys',rfl,h2,h3⟩:=y6 hx
   simp only [List.cons.injEq] at h2
   rw [←h2.2] at h3
   have:=zbL m h3
   cases m<;>simp_all [Instr.sameBits]
 | .bool :: ks,xs,m,hx => by
   obtain ⟨p,q,xs',ys',rfl,h2,h3⟩:=xf hx
   simp only [List.cons.injEq] at h2
   rw [←h2.2] at h3
   have:=zbL m h3
   cases m<;>simp_all [Instr.sameBits]
 | .str::ks,xs,m,hx=>by unfold zE at hx;split at hx<;>simp_all
 | .ptr::ks,xs,m,hx=>by unfold zE at hx;split at hx<;>simp_all
 | .slc::ks,xs,m,hx=>by unfold zE at hx;split at hx<;>simp_all
 | .map::ks,xs,m,hx=>by unfold zE at hx;split at hx<;>simp_all
 | .raw::ks,xs,m,hx=>by unfold zE at hx;split at hx<;>simp_all
theorem ziL (p q:ByteArray):(p == q)=decide (p=q):=by
 by_cases h:p=q
 ·rw [(MapKept.bytes_beq p q).2 h];simp [h]
 ·have:¬(p == q)=true:=fun hh=>h ((MapKept.bytes_beq p q).1 hh)
  simp [h,this]
theorem zs8 {kk:KK} {x:Value} (hx:qj kk x):(Instr.keyThatStays x x).run P w=.ok x w:=by
 have:Instr.sameBits 10000 x x=true:=by
  cases kk with
  | str=>obtain ⟨p,rfl⟩:=hx;simp [Instr.sameBits,ziL]
  | ptr=>obtain ⟨p,rfl⟩:=hx;simp [Instr.sameBits]
  | int kd =>
    obtain ⟨p,rfl⟩:=hx
    simp [Instr.sameBits]
  | agg ks =>
    obtain ⟨p,rfl,hx⟩:=hx
    rw [show (10000:Nat)=9999+1 from rfl]
    simp only [Instr.sameBits,beq_self_eq_true,Bool.true_and]
    exact zbL 9999 hx
 simp [Instr.keyThatStays,this]
theorem zeH {t:TypeId} {kd:IntKind} (h:yX P t=some (.int kd)):P.underlying t=some (.int kd):=by
 unfold yX at h
 split at h
 ·simp only [g3q,KK.int.injEq] at h;subst h;assumption
 ·split at h
  ·obtain ⟨_,_,h⟩:=Option.map_eq_some_iff.1 h;cases h
  ·cases h
 ·cases h
 ·split at h
  ·split at h<;>cases h
  ·cases h
 ·cases h
theorem zeI {t:TypeId} (h:yX P t=some .str):P.underlying t=some .string:=by
 unfold yX at h
 split at h
 ·cases h
 ·split at h
  ·obtain ⟨_,_,h⟩:=Option.map_eq_some_iff.1 h;cases h
  ·cases h
 ·assumption
 ·split at h
  ·split at h<;>cases h
  ·cases h
 ·cases h
theorem zaT {t:TypeId} (h:yX P t=some .ptr):∃ el j,P.underlying t=some (.pointer el)/\P.info? el=some j/\0<j.size:=by
 unfold yX at h
 split at h
 ·cases h
 ·split at h
  ·obtain ⟨_,_,h⟩:=Option.map_eq_some_iff.1 h;cases h
  ·cases h
 ·cases h
 ·rename_i el hu
  split at h
  ·rename_i j hj
   split at h
   ·rename_i hs;exact ⟨el,j,hu,hj,hs⟩
   ·cases h
  ·cases h
 ·cases h
theorem zeJ {t:TypeId} {ks:List LK} (h:yX P t=some (.agg ks)):∃ fs,P.underlying t=some (.struct fs)/\P.stoodInHeld t=false/\jh P fs.toList 0=some ks:=by
 unfold yX at h
 split at h
 ·cases h
 ·rename_i fs hu
  split at h
  ·rename_i hs
   obtain ⟨ks',h1,h2⟩:=Option.map_eq_some_iff.1 h
   simp only [KK.agg.injEq] at h2
   subst h2
   exact ⟨fs,hu,hs,h1⟩
  ·cases h
 ·cases h
 ·split at h
  ·split at h<;>cases h
  ·cases h
 ·cases h
def ze2 (w:World) (kk:KK) (x:Value):Prop:=kk=.ptr->zfI w x
theorem zqh (d:Nat) {t:TypeId} (h:P.underlying t=some .string) (p q:ByteArray):(Op.equalIn (d+1) t (.string p) (.string q)).run P w=.ok (decide (p=q)) w:=by
 simp [Op.equalIn,run_underlying h,ziL]
theorem zqi (d:Nat) {t el:TypeId} {j:TypeInfo} (hu:P.underlying t=some (.pointer el)) (hj:P.info? el=some j) (hne:¬j.size=0) (p q:Addr) (wx:zfI w (.pointer (some p))) (wy:zfI w (.pointer (some q))) :
 (Op.equalIn (d+1) t (.pointer (some p)) (.pointer (some q))).run P w=.ok (decide (p=q)) w:=by
 by_cases hpq:p=q
 ·subst hpq
  simp [Op.equalIn,run_underlying hu,sizeOf,typeInfo,hj,hne,run_sameAddr_same]
 ·obtain ⟨ca,ta,ha⟩:=wx p rfl
  obtain ⟨cb,tb,hb⟩:=wy q rfl
  simp [Op.equalIn,run_underlying hu,sizeOf,typeInfo,hj,hne,run_sameAddr_other w hpq ha hb,hpq]
theorem zs9 {t:TypeId} {kk:KK} {x y:Value} (ht:yX P t=some kk) (hx:qj kk x) (hy:qj kk y) (wx:ze2 w kk x) (wy:ze2 w kk y):(Op.equal t x y).run P w=.ok (y9 x y) w:=by
 cases kk with
 | str =>
   obtain ⟨p,rfl⟩:=hx
   obtain ⟨q,rfl⟩:=hy
   exact zqh 9999 (zeI ht) p q
 | ptr =>
   obtain ⟨p,rfl⟩:=hx
   obtain ⟨q,rfl⟩:=hy
   obtain ⟨el,j,hu,hj,hs⟩:=zaT ht
   simp only [y9,g3q]
   exact zqi 9999 hu hj (by omega) p q (wx rfl) (wy rfl)
 | int kd =>
   obtain ⟨p,rfl⟩:=hx
   obtain ⟨q,rfl⟩:=hy
   have:=run_equalIn_int (P:=P) w 9999 t kd kd p q (zeH ht)
   simp only [y9]
   exact this
 | agg ks =>
   obtain ⟨p,rfl,hx⟩:=hx
   obtain ⟨q,rfl,hy⟩:=hy
   obtain ⟨fs,hu,hs,hk⟩:=zeJ ht
   have hft:P.underlying t=some (.struct (P.fieldsOf t)):=by simp [Program.fieldsOf,hu]
   have hfe:P.fieldsOf t=fs:=by simp [Program.fieldsOf,hu]
   have he:(Op.equalIn 10000 t (.agg p) (.agg q)).run P w=.ok (zW p.toList q.toList) w:=by
    rw [show (10000:Nat)=9999+1 from rfl,run_equalIn_struct w 9999 t p q hft hs,hfe]
    have:=za9 (P:=P) (w:=w) (d:=9998) (xs:=p) (ys:=q) fs.toList 0 ks hk (by simpa using zce hx hy)
    simpa using this
   exact he
theorem zdP {m:Nat} {em:Bool} {cs:Array Value}:∀ (fs:List Field) (i:Nat) (ks:List LK),jh P fs i=some ks->zE (cs.toList.drop i) (cs.toList.drop i) ks ->
 (forIn fs PUnit.unit (fun f _=>do
  if f.name ≠ "_" then Instr.checkKey em (m + 1) f.type (← part f.type cs f.offset)
  pure (ForInStep.yield PUnit.unit)):Sem PUnit).run P w=.ok PUnit.unit w
 | [],i,ks,hk,hok=>by simp
 | f :: fs,i,ks,hk,hok => by
   simp only [jh] at hk
   split at hk
   ·rename_i hcond
    obtain ⟨hoff,hname⟩:=hcond
    have hnm : f.name ≠ "_" := by simpa using hname
    split at hk
    ·rename_i kd hu
     obtain ⟨ks',hks',rfl⟩:=Option.map_eq_some_iff.1 hk
     obtain ⟨p,q,lx,ly,hx,hy,hok'⟩:=y6 hok
     obtain ⟨ex,ex'⟩:=yz hx
     obtain ⟨ey,ey'⟩:=yz hy
     have ih:=zdP (m:=m) (em:=em) (cs:=cs) fs (i+1) ks' hks' (by rw [ex'];rw [ex'] at ey';rw [←ey'] at hok';exact hok')
     have p1:(part f.type cs f.offset).run P w=.ok (.int kd p) w:=by simp [part,isAgg,run_underlying hu,hoff,ex]
     have c1:(Instr.checkKey em (m+1) f.type (.int kd p)).run P w=.ok () w:=by simp [Instr.checkKey,run_underlying hu]
     simp only [List.forIn_cons,if_pos hnm,Sem.run_bind,p1,Result.andThen_ok,c1,Sem.run_pure]
     exact ih
    ·rename_i hu
     obtain ⟨ks',hks',rfl⟩:=Option.map_eq_some_iff.1 hk
     obtain ⟨p,q,lx,ly,hx,hy,hok'⟩:=xf hok
     obtain ⟨ex,ex'⟩:=yz hx
     obtain ⟨ey,ey'⟩:=yz hy
     have ih:=zdP (m:=m) (em:=em) (cs:=cs) fs (i+1) ks' hks' (by rw [ex'];rw [ex'] at ey';rw [←ey'] at hok';exact hok')
     have p1:(part f.type cs f.offset).run P w=.ok (.bool p) w:=by simp [part,isAgg,run_underlying hu,hoff,ex]
     have c1:(Instr.checkKey em (m+1) f.type (.bool p)).run P w=.ok () w:=by simp [Instr.checkKey,run_underlying hu]
     simp only [List.forIn_cons,if_pos hnm,Sem.run_bind,p1,Result.andThen_ok,c1,Sem.run_pure]
     exact ih
    ·cases hk
   ·cases hk
theorem zrO {t:TypeId} {kk:KK} {x:Value} (em:Bool) (m:Nat) (ht:yX P t=some kk) (hx:qj kk x):(Instr.checkKey em (m+1+1) t x).run P w=.ok () w:=by
 cases kk with
 | str =>
   obtain ⟨p,rfl⟩:=hx
   simp [Instr.checkKey,run_underlying (zeI ht)]
 | ptr =>
   obtain ⟨p,rfl⟩:=hx
   obtain ⟨el,j,hu,hj,hs⟩:=zaT ht
   simp [Instr.checkKey,run_underlying hu]
 | int kd =>
   obtain ⟨p,rfl⟩:=hx
   simp [Instr.checkKey,run_underlying (zeH ht)]
 | agg ks =>
   obtain ⟨p,rfl,hx⟩:=hx
   obtain ⟨fs,hu,hs,hk⟩:=zeJ ht
   have:=zdP (P:=P) (w:=w) (m:=m) (em:=em) (cs:=p) fs.toList 0 ks hk (by simpa using hx)
   rw [Instr.checkKey]
   simp only [run_underlying hu,Sem.run_bind,Result.andThen_ok]
   rw [←Array.forIn_toList]
   simp only [bind_pure_comp,map_pure,bind_assoc,pure_bind] at this ⊢
   rw [this]
   rfl
theorem zct {t:TypeId} {kk:KK} {x:Value} (em:Bool) (ht:yX P t=some kk) (hx:qj kk x):(Instr.checkKey em 10000 t x).run P w=.ok () w:=zrO em 9998 ht hx
def yM:List MapEntry->Value->Nat->Option (Nat × Value)
 | [],_,_=>none
 | e::es,x,i=>if y9 x e.key then some (i,e.val) else yM es x (i+1)
theorem ze3 {t:TypeId} {kk:KK} {x:Value} (ht:yX P t=some kk) (hx:qj kk x) (wx:ze2 w kk x):∀ (es:List MapEntry) (i:Nat),(∀ e∈es,qj kk e.key)->(∀ e∈es,ze2 w kk e.key)->(Instr.findAsking t x es i).run P w=.ok (yM es x i) w
 | [],i,_,_=>by simp [Instr.findAsking,yM]
 | e :: es,i,h,hw => by
   have h1:=zs9 (P:=P) (w:=w) ht hx (h e g5q) wx (hw e g5q)
   have ih:=ze3 ht hx wx es (i+1) (fun e he=>h e (g4q _ he)) (fun e he=>hw e (g4q _ he))
   simp only [Instr.findAsking,Sem.run_bind,h1,Result.andThen_ok,yM]
   cases y9 x e.key
   ·simpa using ih
   ·simp
theorem zhT {kd:IntKind} {x:Value} (hx:qj (.int kd) x):∀ (es:List MapEntry) (i:Nat),(∀ e∈es,qj (.int kd) e.key)->Instr.findNow (.int kd) x es i=some (yM es x i)
 | [],i,_=>by simp [Instr.findNow,yM]
 | e :: es,i,h => by
   have ih:=zhT hx es (i+1) (fun e he=>h e (g4q _ he))
   obtain ⟨q,hq⟩:=h e g5q
   obtain ⟨p,rfl⟩:=hx
   simp only [Instr.findNow,hq,Instr.sameNow,if_true,yM,y9]
   by_cases hpq:p=q
   ·simp [hpq]
   ·have:(p == q)=false:=by simp [hpq]
    simp [this,hpq,ih]
theorem zhU {x:Value} (hx:qj .str x):∀ (es:List MapEntry) (i:Nat),(∀ e∈es,qj .str e.key)->Instr.findNow .string x es i=some (yM es x i)
 | [],i,_=>by simp [Instr.findNow,yM]
 | e :: es,i,h => by
   have ih:=zhU hx es (i+1) (fun e he=>h e (g4q _ he))
   obtain ⟨q,hq⟩:=h e g5q
   obtain ⟨p,rfl⟩:=hx
   simp only [Instr.findNow,hq,Instr.sameNow,yM,y9,ziL]
   by_cases hpq:p=q
   ·simp [hpq]
   ·simp [hpq,ih]
theorem zoa {t:TypeId} {kk:KK} {x:Value} (ht:yX P t=some kk) (hx:qj kk x) (wx:ze2 w kk x) (es:List MapEntry) (h:∀ e∈es,qj kk e.key) (hw:∀ e∈es,ze2 w kk e.key):(Instr.findKey t x es).run P w=.ok (yM es x 0) w:=by
 cases kk with
 | int kd =>
   simp [Instr.findKey,run_underlying (zeH ht),zhT hx es 0 h]
 | str =>
   simp [Instr.findKey,run_underlying (zeI ht),zhU hx es 0 h]
 | agg ks =>
   have hask:=ze3 (P:=P) (w:=w) ht hx wx es 0 h hw
   obtain ⟨fs,hu,hs,hk⟩:=zeJ ht
   cases es with
   | nil=>simp [Instr.findKey,run_underlying hu,Instr.findNow,yM]
   | cons e es =>
     simp only [Instr.findKey,run_underlying hu,Sem.run_bind,Result.andThen_ok,Instr.findNow,Instr.sameNow]
     exact hask
 | ptr =>
   have hask:=ze3 (P:=P) (w:=w) ht hx wx es 0 h hw
   obtain ⟨el,j,hu,hj,hs⟩:=zaT ht
   cases es with
   | nil=>simp [Instr.findKey,run_underlying hu,Instr.findNow,yM]
   | cons e es =>
     simp only [Instr.findKey,run_underlying hu,Sem.run_bind,Result.andThen_ok,Instr.findNow,Instr.sameNow]
     exact hask
theorem zkt {kk:KK} {m:List (Value × Value)} {u:Value} {K:Prop} (hR:R w0 fp0 L w) (h:keysK w0 fp0 L kk m u K):ze2 w kk u/\(∀ p∈m,ze2 w kk p.1)/\K:=by
 cases kk
 ·exact ⟨fun e=>(by cases e),fun _ _ e=>(by cases e),h⟩
 ·exact ⟨fun e=>(by cases e),fun _ _ e=>(by cases e),h⟩
 ·exact ⟨fun e=>(by cases e),fun _ _ e=>(by cases e),h⟩
 ·exact ⟨fun _=>(h.1 w hR).1,fun p hp _=>(h.1 w hR).2 p hp,h.2⟩
theorem zmC {x:Value}:∀ (es:List MapEntry) (i:Nat),uE (es.map fun e=>(e.key,e.val)) x=(yM es x i).map (·.2)
 | [],i=>by simp [uE,yM]
 | e :: es,i => by
   simp only [List.map_cons,uE,yM]
   cases y9 x e.key
   ·simpa using zmC es (i+1)
   ·simp
theorem zku {kk:KK} {x:Value} (hx:qj kk x):∀ (es:List MapEntry) (i:Nat) {j:Nat} {v:Value},(∀ e∈es,qj kk e.key)->yM es x i=some (j,v) ->
 ∃ m e,j=i+m/\es[m]?=some e/\e.key=x/\e.val=v/\∀ u,uF (es.map fun e=>(e.key,e.val)) x u=(es.modify m fun e=>{ e with key:=x,val:=u }).map fun e=>(e.key,e.val)
 | [],i,j,v,_,h=>by cases h
 | e :: es,i,j,v,hk,h => by
   simp only [yM] at h
   by_cases hq:y9 x e.key=true
   ·rw [if_pos hq] at h
    simp only [g3q,Prod.mk.injEq] at h
    obtain ⟨rfl,rfl⟩:=h
    refine ⟨0,e,rfl,rfl,((zs7 hx (hk e g5q)).1 hq).symm,rfl,fun u=>?_⟩
    simp [uF,hq,List.modify_cons]
   ·rw [if_neg hq] at h
    obtain ⟨m,e',h1,h2,h3,h4,h5⟩:=zku hx es (i+1) (fun e he=>hk e (g4q _ he)) h
    refine ⟨m+1,e',by omega,by simpa using h2,h3,h4,fun u=>?_⟩
    simp only [List.map_cons,uF,if_neg hq,h5,List.modify_succ_cons]
theorem zkv {x:Value}:∀ (es:List MapEntry) (i:Nat),yM es x i=none->∀ u,uF (es.map fun e=>(e.key,e.val)) x u=(es.map fun e=>(e.key,e.val))++[(x,u)]
 | [],i,h,u=>by simp [uF]
 | e :: es,i,h,u => by
   simp only [yM] at h
   by_cases hq:y9 x e.key=true
   ·rw [if_pos hq] at h;cases h
   ·rw [if_neg hq] at h
    simp only [List.map_cons,uF,if_neg hq,zkv es (i+1) h u,List.cons_append]
theorem zlz {kk:KK} {x u:Value} (hx:qj kk x):∀ (m:List (Value × Value)),(∀ p∈m,qj kk p.1)->∀ p∈uF m x u,qj kk p.1
 | [],_,p,hp => by
   simp only [uF,List.mem_singleton] at hp
   subst hp;exact hx
 | (k',u') :: m,h,p,hp => by
   simp only [uF] at hp
   split at hp
   ·rcases List.mem_cons.1 hp with rfl|hp
    ·exact hx
    ·exact h p (g4q _ hp)
   ·rcases List.mem_cons.1 hp with rfl|hp
    ·exact h _ g5q
    ·exact zlz hx m (fun p hp=>h p (g4q _ hp)) p hp
theorem zdF {key b:Nat} {kk:KK} {m:List (Value × Value)} (hR:R w0 fp0 L w) (h:vp key L=some (b,kk,m)):(Ent.mapE key b kk m).ok w:=by
 obtain ⟨L',h1,_⟩:=j4 h
 exact (hR.perm h1).ok _ g5q
theorem zut {t kt et:TypeId} {x:Operand} (ho:o.op=.call { callee:=.builtin .len,args:=#[x],argTypes:=#[t] }) (ht:P.underlying t=some (.map kt et))
 (hA:Agree n ds e a) (hR:R w0 fp0 L w) (h:VI P w0 fp0 (.lnm (cX x)) e L k):zJ P w0 fp0 o a w k:=by
 simp only [VI] at h
 obtain ⟨s,hp,h⟩:=zw h
 have ex:=zk hA hp
 split at h
 ·split at h
  ·rename_i b' kk' m hm
   obtain ⟨rfl,h⟩:=h
   obtain ⟨es,clock,hb,hes,_⟩:=zdF hR hm
   have hlen:es.size=m.length:=by rw [←hes,g8q,Array.length_toList]
   simp only [SV.val] at ex
   refine zn hR (v:=.int .i64 m.length) ?_ rfl h
   simp [execOp,ho,ex,resolve,invoke,builtin,Builtin.len_,run_underlying ht,goInt,MapKept.run_getObj_map hb,hlen]
  ·exact h.elim
 ·simp only [SV.val] at ex
  refine zn hR ?_ rfl h
  simp [execOp,ho,ex,resolve,invoke,builtin,Builtin.len_,run_underlying ht,goInt,SV.val]
 ·exact h.elim
theorem zuu {t kt et:TypeId} {x y:Operand} {ok:Bool} {kk:KK} {j:TypeInfo} {z:Value} (ho:o.op=.lookup t x y ok) (ht:P.underlying t=some (.map kt et)) (hk:yX P kt=some kk) (hj:P.info? et=some j) (hz:j.zero=some z)
 (hA:Agree n ds e a) (hR:R w0 fp0 L w) (h:VI P w0 fp0 (.lku kk ok z (cX x) (cX y)) e L k):zJ P w0 fp0 o a w k:=by
 simp only [VI] at h
 obtain ⟨s,hp,h'⟩:=zw h
 clear h
 obtain ⟨u,hq,h⟩:=zw h'
 clear h'
 have ex:=zk hA hp
 have ey:=zk hA hq
 have hzv:(zeroValue et).run P w=.ok z w:=by simp [zeroValue,typeInfo,hj,hz]
 split at h
 ·rename_i key b
  split at h
  ·rename_i b' kk' m hm
   obtain ⟨⟨rfl,rfl,hku⟩,h⟩:=h
   obtain ⟨wku,wks,h1,h2⟩:=zkt hR h
   obtain ⟨es,clock,hb,hes,hks⟩:=zdF hR hm
   have hks':∀ e∈es.toList,qj kk' e.key:=fun e he=>hks (e.key,e.val) (by rw [←hes];exact List.mem_map_of_mem he)
   have wks':∀ e∈es.toList,ze2 w kk' e.key:=fun e he=>wks (e.key,e.val) (by rw [←hes];exact List.mem_map_of_mem he)
   have hf:=zoa (P:=P) (w:=w) hk hku wku es.toList hks' wks'
   have hg:=zmC (x:=u.val) es.toList 0
   rw [hes] at hg
   have hc:=zct (P:=P) (w:=w) es.isEmpty hk hku
   cases hfm:yM es.toList u.val 0 with
   | none =>
     rw [hfm] at hf hg
     refine zn hR (v:=lkV ok z false) (s:=.v (lkV ok z false)) ?_ rfl (h2 (by rw [hg];rfl))
     simp only [SV.val] at ex
     cases ok<;>simp [execOp,ho,ex,ey,Instr.lookup,run_underlying ht,MapKept.run_getObj_map hb,hc,hf,hzv,lkV]
   | some p =>
     rw [hfm] at hf hg
     refine zn hR (v:=lkV ok p.2 true) (s:=.v (lkV ok p.2 true)) ?_ rfl (h1 p.2 (by rw [hg];rfl))
     simp only [SV.val] at ex
     cases ok<;>simp [execOp,ho,ex,ey,Instr.lookup,run_underlying ht,MapKept.run_getObj_map hb,hc,hf,lkV]
  ·exact h.elim
 ·obtain ⟨hku,h⟩:=h
  have hc:=zct (P:=P) (w:=w) true hk hku
  have hf:(Instr.findKey kt u.val []).run P w=.ok (yM [] u.val 0) w:=by
   obtain ⟨d,hd⟩:∃ d,P.underlying kt=some d:=by
    cases kk with
    | int kd=>exact ⟨_,zeH hk⟩
    | str=>exact ⟨_,zeI hk⟩
    | agg ks=>obtain ⟨fs,hu,_⟩:=zeJ hk;exact ⟨_,hu⟩
    | ptr=>obtain ⟨el,j,hu,_⟩:=zaT hk;exact ⟨_,hu⟩
   simp [Instr.findKey,run_underlying hd,Instr.findNow,yM]
  refine zn hR (v:=lkV ok z false) (s:=.v (lkV ok z false)) ?_ rfl h
  simp only [SV.val] at ex
  cases ok<;>simp [execOp,ho,ex,ey,Instr.lookup,run_underlying ht,hc,hf,hzv,lkV,yM]
 ·exact h.elim
theorem zgv {key b:Nat} {kk:KK} {m m':List (Value × Value)} {es:Array MapEntry} {clock:Nat} (hR:R w0 fp0 L w) (h:vp key L=some (b,kk,m)) (hes:es.toList.map (fun e=>(e.key,e.val))=m') (hks:∀ p∈m',qj kk p.1) :
 R w0 fp0 (uT key m' L) { w with heap:=w.heap.setIfInBounds b (.map es clock) }:=by
 obtain ⟨es0,c0,hb,_,_⟩:=zdF hR h
 obtain ⟨L',h1,h2⟩:=j4 h
 have hs:=MapKept.heap_set (o':=.map es clock) hb
 refine R.perm (R.write (e':=.mapE key b kk m') (hR.perm h1) (by simp [Ent.fp]) (by simp [Ent.fp]) ⟨es,clock,hs.1,hes,hks⟩ (by simp) rfl rfl rfl (Nat.le_refl _) (fun b' hb'=>hs.2 b' (by simpa [Ent.fp] using hb'))) (h2 m').symm
theorem zob {t kt et:TypeId} {x y z:Operand} {kk:KK} (ho:o.op=.mapUpdate t x y z∨o.op=.insert t x y z) (ht:P.underlying t=some (.map kt et)) (hk:yX P kt=some kk)
 (hA:Agree n ds e a) (hR:R w0 fp0 L w) (h:VI P w0 fp0 (.mup kk (cX x) (cX y) (cX z)) e L k):∃ w',(execOp a.eval o).run P w=.ok .skip w'/\Fin w0 fp0 k undef w':=by
 simp only [VI] at h
 obtain ⟨s,hp,h'⟩:=zw h
 clear h
 obtain ⟨u,hq,h''⟩:=zw h'
 clear h'
 obtain ⟨v,hr,h⟩:=zw h''
 clear h''
 have ex:=zk hA hp
 have ey:=zk hA hq
 have ez:=zk hA hr
 split at h
 ·rename_i key b
  split at h
  ·rename_i b' kk' m hm
   obtain ⟨⟨rfl,rfl,hku⟩,h⟩:=h
   obtain ⟨wku,wks,h⟩:=zkt hR h
   obtain ⟨es,clock,hb,hes,hks⟩:=zdF hR hm
   have hks':∀ e∈es.toList,qj kk' e.key:=fun e he=>hks (e.key,e.val) (by rw [←hes];exact List.mem_map_of_mem he)
   have wks':∀ e∈es.toList,ze2 w kk' e.key:=fun e he=>wks (e.key,e.val) (by rw [←hes];exact List.mem_map_of_mem he)
   have hf:=zoa (P:=P) (w:=w) hk hku wku es.toList hks' wks'
   have hc:=zct (P:=P) (w:=w) false hk hku
   simp only [SV.val] at ex
   cases hfm:yM es.toList u.val 0 with
   | none =>
     rw [hfm] at hf
     have hms:=zkv es.toList 0 hfm v.val
     rw [hes] at hms
     refine ⟨{ w with heap:=w.heap.setIfInBounds b' (.map (es.push { key:=u.val,val:=v.val,born:=clock }) (clock+1)) },?_,.v undef,_,rfl,?_,h⟩
     ·rcases ho with ho|ho<;>simp [execOp,ho,ex,ey,ez,Instr.mapUpdate,run_underlying ht,MapKept.run_getObj_map hb,hc,hf,MapKept.run_setObj_map _ hb]
     ·exact zgv hR hm (by simp [hms,hes]) (zlz hku m hks)
   | some p =>
     obtain ⟨i,v0⟩:=p
     rw [hfm] at hf
     obtain ⟨q,e0,h1,h2,h3,h4,h5⟩:=zku hku es.toList 0 hks' hfm
     have hi:i=q:=by omega
     subst hi
     have hms:=h5 v.val
     rw [hes] at hms
     have hst:=zs8 (P:=P) (w:=w) hku
     have hget:es[i]?=some e0:=by rw [←Array.getElem?_toList];exact h2
     refine ⟨{ w with heap:=w.heap.setIfInBounds b' (.map (es.modify i fun e=>{ e with key:=u.val,val:=v.val }) clock) },?_,.v undef,_,rfl,?_,h⟩
     ·rcases ho with ho|ho<;>simp [execOp,ho,ex,ey,ez,Instr.mapUpdate,run_underlying ht,MapKept.run_getObj_map hb,hc,hf,MapKept.run_setObj_map _ hb,hget,h3,hst]
     ·exact zgv hR hm (by rw [hms,Array.toList_modify]) (zlz hku m hks)
  ·exact h.elim
 ·exact h.elim
theorem zuv {t kt et:TypeId} {r:Option Operand} {kk:KK} {key:Nat} (ho:o.op=.makeMap t r) (ht:P.underlying t=some (.map kt et)) 
 (hA:Agree n ds e a) (hR:R w0 fp0 L w) (h:VI P w0 fp0 (.mkm key kk (r.map cX)) e L k):kK P w0 fp0 o a w k:=by
 simp only [VI] at h
 refine ⟨.map (some w.heap.size),w.alloc (.map #[] 0),?_,.mp key w.heap.size,.mapE key w.heap.size kk []::L,rfl,?_,?_⟩
 ·cases r with
  | none=>simp [execOp,ho,Instr.makeMap]
  | some y =>
    obtain ⟨kl,l,hl,h⟩:=qG h
    have ey:=zk hA hl
    simp only [SV.val] at ey
    simp [execOp,ho,Instr.makeMap,run_underlying ht,ey,asInt,asIntOf]
 ·exact hR.alloc _ _ rfl ⟨#[],0,heap_alloc_new w _,rfl,by simp⟩
 ·cases r with
  | none=>exact h _
  | some y =>
    obtain ⟨kl,l,hl,h⟩:=qG h
    exact h _
theorem zuw {x:Operand} {xt t:TypeId} {ok:Bool} {j:TypeInfo} {z:Value} (ho:o.op=.typeAssert x xt t ok) (ht:zrM P t=false) (hj:P.info? t=some j) (hz:j.zero=some z)
 (hA:Agree n ds e a) (hR:R w0 fp0 L w) (h:VI P w0 fp0 (.tas t ok z (cX x)) e L k):zJ P w0 fp0 o a w k:=by
 simp only [VI] at h
 obtain ⟨s,hp,h'⟩:=zw h
 clear h
 have ex:=zk hA hp
 have hzv:(zeroValue t).run P w=.ok z w:=by simp [zeroValue,typeInfo,hj,hz]
 obtain ⟨d,hd,hni⟩:∃ d,P.underlying t=some d/\∀ m,d≠.interface m:=by
  unfold zrM at ht
  split at ht
  ·cases ht
  ·rename_i d hni hd
   exact ⟨d,hd,fun m hm=>hni m hm⟩
  ·cases ht
 split at h'
 ·rename_i T v
  simp only [SV.val] at ex
  by_cases hT:T=t
  ·subst hT
   refine zn hR (v:=lkV ok v true) (s:=.v (lkV ok v true)) ?_ rfl (h'.1 rfl)
   cases d<;>first|exact absurd rfl (hni _)|(cases ok<;>simp [execOp,ho,ex,Instr.typeAssert,run_underlying hd,lkV])
  ·obtain ⟨rfl,h'⟩:=h'.2 hT
   refine zn hR (v:=lkV true z false) (s:=.v (lkV true z false)) ?_ rfl h'
   cases d<;>first|exact absurd rfl (hni _)|simp [execOp,ho,ex,Instr.typeAssert,run_underlying hd,hT,hzv,lkV]
 ·obtain ⟨rfl,h'⟩:=h'
  simp only [SV.val] at ex
  refine zn hR (v:=lkV true z false) (s:=.v (lkV true z false)) ?_ rfl h'
  cases d<;>first|exact absurd rfl (hni _)|simp [execOp,ho,ex,Instr.typeAssert,run_underlying hd,hzv,lkV]
 ·exact h'.elim
theorem zjc {e:TypeId} {size m:Nat} {a:Option Addr} {n c:Nat} {xs:List Value} (h:w.ownsRow 0 e size (.slice a n c) n xs) (hm:m<=n):w.ownsRow 0 e size (.slice a m c) m (xs.take (m*size)):=by
 obtain ⟨h1,h2⟩:=h
 have hle:m*size<=n*size:=Nat.mul_le_mul_right _ hm
 refine ⟨by simp;omega,?_⟩
 rcases h2 with ⟨h2,rfl⟩|⟨g,cap,cur,hv,hg,hh,h3,h4,h5,h6⟩
 ·simp only [Value.slice.injEq] at h2
  obtain ⟨rfl,_,rfl⟩:=h2
  have:m=0:=by omega
  subst this
  exact .inl ⟨rfl,rfl⟩
 ·simp only [Value.slice.injEq] at hv
  obtain ⟨rfl,_,rfl⟩:=hv
  refine .inr ⟨g,_,cur,rfl,hg,hh,by omega,h4,h5,?_⟩
  rw [←h6,List.take_take,Nat.min_eq_left hle]
theorem zux {t el:TypeId} {x:Operand} {hi:Option Operand} {j:TypeInfo} (ho:o.op=.slice t x none hi none) (ht:P.underlying t=some (.slice el)) (hj:P.info? el=some j)
 (hA:Agree n ds e a) (hR:R w0 fp0 L w) (h:VI P w0 fp0 (.slo j.size (cX x) (hi.map cX)) e L k):kK P w0 fp0 o a w k:=by
 simp only [VI] at h
 obtain ⟨s,hp,h'⟩:=zw h
 clear h
 split at h'
 ·rename_i key ad m c
  split at h'
  ·rename_i ow hown
   have hk:∃ hv:Int,((ow.a=ad/\ow.c=c/\ow.sz=j.size/\0<=hv/\hv<=ow.n)/\k (.sl key ad hv.toNat c) (qp key ad hv.toNat c (ow.xs.take (hv.toNat*j.size)) L)) /\
    ∀ K:Int->Prop,K hv->jB e (hi.map cX) m K:=by
    cases hi with
    | none=>exact ⟨m,h',fun K hK=>hK⟩
    | some y =>
      obtain ⟨kl,l,hl,hh⟩:=qG h'
      exact ⟨l,hh,fun K hK=>by simp only [Option.map_some,jB,hl];exact hK⟩
   obtain ⟨hv,⟨⟨e1,e2,e3,h1,h2⟩,hk⟩,hK⟩:=hk
   have h3:ow.n<=c:=by
    rcases (qW hR hown).2 with ⟨_,h⟩|⟨g,cap,cur,hv',_,_,hcap,_⟩
    ·omega
    ·simp only [Value.slice.injEq] at hv'
     omega
   have hs:=zn6 (P:=P) (w0:=w0) (fp0:=fp0) (L:=L) (k:=fun s _=>s=.v (.slice ad hv.toNat c)) (lo:=none) ho ht hj hA hR (by
    simp only [VI,hp,gA]
    refine hK _ ⟨⟨by omega,h1,by omega⟩,?_⟩
    have:xc ad c (0:Int).toNat j.size=ad:=by
     unfold xc
     split
     ·rfl
     ·cases ad with
      | none=>rfl
      | some ad=>simp [Addr.add]
    simp only [this]
    simp)
   obtain ⟨v,hrun,s',L',hv',_,hs'⟩:=hs
   subst hs'
   refine ⟨v,w,hrun,.sl key ad hv.toNat c,_,hv',?_,hk⟩
   obtain ⟨oa,on,oc,oT,osz,oxs⟩:=ow
   simp only at e1 e2 e3 h2 h3
   subst e1 e2 e3
   obtain ⟨L1,p1,p2⟩:=yj hown
   have hR1:=hR.perm p1
   have hok:w.ownsRow 0 oT j.size (.slice oa on oc) on oxs:=hR1.ok _ g5q
   have hcut:=zjc hok (m:=hv.toNat) (by omega)
   refine R.perm (R.write (e':=.own key oa hv.toNat oc oT j.size (oxs.take (hv.toNat*j.size))) hR1 ?_ ?_ hcut rfl rfl rfl rfl (Nat.le_refl _) (fun _ _=>rfl)) (p2 _ _ _ _).symm
   ·intro b hb;cases oa<;>simp [Ent.fp,Value.ownBlock] at hb ⊢<;>exact hb
   ·cases oa<;>simp [Ent.fp,Value.ownBlock]
  ·exact h'.elim
 ·exact h'.elim
theorem zhV (z:Array Value) (m sz:Nat) (hz:z.size=sz) (hs:0<sz):(Builtin.zeroCells z m).toList=(List.replicate m z.toList).flatten:=by
 subst hz
 exact zdM z m _ rfl hs
theorem zoc {t ti ty el:TypeId} {j:TypeInfo} {z:Value} {ki:IntKind} {kv:IntKind} (ht:P.underlying t=some (.slice el)) (hti:P.underlying ti=some (.int ki)) (hj:P.info? el=some j) (hz:j.zero=some z) (hzs:z.cells.size=j.size) (hpos:0<j.size)
 {a:Option Addr} {n c:Nat} {xs:List Value} (hown:w.ownsRow 0 el j.size (.slice a n c) n xs) (m:Nat)
 (h1:∀ u∈(List.replicate m z.cells.toList).flatten,u.oneCell'=true) (h63:n+m<=maxLen) (hbytes:(n+m)*j.bytes<=140737488355328) :
 ∃ a' c' w',(Builtin.append_ #[t,ti] ty #[.slice a n c,.int kv (m : Int)]).run P w = .ok (.slice a' (n + m) c') w' /\ w'.ownsRow 0 el j.size (.slice a' (n + m) c') (n + m) (xs ++ (List.replicate m z.cells.toList).flatten) /\ w.grownBy w' (Value.slice a n c).ownBlock /\
   (∀ g,(Value.slice a' (n+m) c').ownBlock=some g->(Value.slice a n c).ownBlock=some g∨(w.heap.size<=g/\g<w'.heap.size))/\w.drawn<=w'.drawn:=by
 have hgref:w.grownBy w (Value.slice a n c).ownBlock:=⟨rfl,rfl,rfl,Nat.le_refl _,fun _ _ _=>rfl⟩
 have hsmall:n+m<=9223372036854775807:=by simp only [maxLen] at h63;omega
 have hwrap:IntKind.i64.wrap (m:Int)=(m:Int):=by
  have h64:(m:Int)%2 ^ 64=m:=by omega
  have hng:¬((m:Int)≥2 ^ (64 - 1)):=by omega
  simp only [IntKind.wrap,IntKind.bits,IntKind.signed,h64,decide_eq_false hng,Bool.and_false,Bool.false_eq_true,if_false]
 have hlt0:¬((m:Int)<0):=by omega
 have hmb:m*j.bytes<=140737488355328:=Nat.le_trans (Nat.mul_le_mul_right _ (by omega)) hbytes
 have hb48:¬(281474976710656<(m:Int)*(j.bytes:Int)):=by
  have:((m*j.bytes:Nat):Int)=(m:Int)*(j.bytes:Int):=by simp
  omega
 generalize hys:(List.replicate m z.cells.toList).flatten=ys at h1 ⊢
 have hzc:(Builtin.zeroCells z.cells m).toList=ys:=by rw [zhV z.cells m j.size hzs hpos];exact hys
 have hl:ys.length=m*j.size:=by rw [←hys];simp [hzs]
 have hlen:(xs++ys).length=(n+m)*j.size:=by rw [g6q,hown.1,hl,Nat.add_mul]
 have hzc':Builtin.zeroCells z.cells m=ys.toArray:=by rw [←hzc]
 by_cases hm:m=0
 ·subst hm
  have hy:ys=[]:=List.eq_nil_of_length_eq_zero (by simpa using hl)
  subst hy
  refine ⟨a,c,w,?_,by simpa using hown,hgref,fun g hg=>.inl hg,Nat.le_refl _⟩
  rcases hown.2 with ⟨h2,h3⟩|⟨g,cap,cur,h2,_,_,hnc,_⟩
  ·simp only [Value.slice.injEq] at h2
   obtain ⟨rfl,rfl,rfl⟩:=h2
   simp [Builtin.append_,run_underlying ht,run_underlying hti,sizeOf,typeInfo,hj,asInt,asIntOf,IntKind.wrap,IntKind.bits,IntKind.signed]
  ·simp only [Value.slice.injEq] at h2
   obtain ⟨rfl,_,rfl⟩:=h2
   simp [Builtin.append_,run_underlying ht,run_underlying hti,sizeOf,typeInfo,hj,asInt,asIntOf,IntKind.wrap,IntKind.bits,IntKind.signed,hnc,storeCells]
 ·have hmz:¬(m*j.size=0):=fun h=>by
   have:=Nat.mul_pos (Nat.pos_of_ne_zero hm) hpos
   omega
  have grown:∀ (old:Nat),old<n+m->∀ (row:Option Nat),
   (w.drew.alloc (.cells (xs.toArray++ys.toArray++Builtin.zeroCells z.cells (grownCap w (n+m) old el - (n+m))) el)).ownsRow 0 el j.size
    (.slice (some ⟨w.heap.size,0,none⟩) (n+m) (grownCap w (n+m) old el)) (n+m) (xs++ys) /\
   w.grownBy (w.drew.alloc (.cells (xs.toArray++ys.toArray++Builtin.zeroCells z.cells (grownCap w (n+m) old el - (n+m))) el)) row:=by
   intro old ho row
   have hge:=grownCap_ge w (n+m) old el
   have hcm:grownCap w (n+m) old el<=maxLen:=grownCap_le_maxLen w (n+m) old el h63
   refine ⟨⟨hlen,.inr ⟨w.heap.size,_,_,rfl,Nat.zero_le _,heap_alloc_new w.drew _,hge,hcm,?_,?_⟩⟩,⟨rfl,rfl,rfl,by simp,fun k hk _=>heap_alloc_old w.drew _ hk⟩⟩
   ·simp only [Array.size_append,List.size_toArray,size_zeroCells,hzs,hown.1,hl,←Nat.add_mul]
    congr 1
    omega
   ·simp only [Array.toList_append,List.append_assoc]
    rw [←List.append_assoc,←hlen]
    exact List.take_left
  rcases hown.2 with ⟨h2,h3⟩|⟨g,cap,cur,h2,_,hg,hnc,hcm,hcs,htake⟩
  ·simp only [Value.slice.injEq] at h2
   obtain ⟨rfl,rfl,rfl⟩:=h2
   have hx:xs=[]:=List.eq_nil_of_length_eq_zero (by simpa using hown.1)
   subst hx
   have hgr:=grown 0 (by omega) (Value.ownBlock (.slice none 0 0))
   have h48':¬(281474976710656<Builtin.nextslicecap m 0*j.bytes):=by rw [nextslicecap_zero (by omega)];omega
   have h63':¬(9223372036854775807<(m:Int)):=by omega
   simp only [Nat.zero_add,List.nil_append,Array.empty_append] at hgr ⊢
   refine ⟨some ⟨w.heap.size,0,none⟩,grownCap w m 0 el,_,?_,hgr.1,hgr.2,fun g hg=>?_,Nat.le_succ _⟩
   ·simp [Builtin.append_,run_underlying ht,run_underlying hti,sizeOf,typeInfo,zeroValue,hj,hz,asInt,asIntOf,hwrap,hlt0,hb48,hm,h63',h48',Question.forced,run_firstCells_none,hmz,newRow,grownCap,hzc',Nat.ne_of_gt hpos]
   ·simp only [Value.ownBlock,g3q] at hg
    exact .inr ⟨by omega,by simp;omega⟩
  ·simp only [Value.slice.injEq] at h2
   obtain ⟨rfl,_,rfl⟩:=h2
   by_cases hroom:n+m<=c
   ·have hfit:n*j.size+ys.length<=cur.size:=by rw [hl,hcs,←Nat.add_mul];exact Nat.mul_le_mul_right _ hroom
    have hst:=run_storeCells_at P g (n*j.size) el ys 0 cur w hg (by simpa using hfit) h1
    simp only [Nat.add_zero] at hst
    refine ⟨some ⟨g,0,none⟩,c,w.setRow g (cur.toList.take (n*j.size)++ys++cur.toList.drop (n*j.size+ys.length)).toArray,?_,⟨hlen,.inr ⟨g,c,_,rfl,Nat.zero_le _,setRow_heap w g cur _ el _ hg,hroom,hcm,?_,?_⟩⟩,⟨rfl,rfl,rfl,by simp,fun k _ hk=>setRow_other w g k _ (fun e=>hk (by simp [Value.ownBlock,e]))⟩,fun g' hg'=>.inl hg',Nat.le_refl _⟩
    ·simp [Builtin.append_,run_underlying ht,run_underlying hti,sizeOf,typeInfo,zeroValue,hj,hz,asInt,asIntOf,hwrap,hlt0,hb48,hroom,hmz,Nat.ne_of_gt hpos,hm,hzc',Addr.add_lit,hst]
    ·simp only [List.size_toArray,g6q,List.length_take,List.length_drop,Array.length_toList]
     omega
    ·rw [htake,←hlen]
     exact List.take_left
   ·have holds:∀ i u,xs[i]?=some u->w.cell? ((⟨g,0,none⟩:Addr).add i)=some u:=hown.cells (g:=g) rfl
    have hfo:=run_firstCells_some (P:=P) w.drew j.size n ⟨g,0,none⟩ n c xs hown.1 (by simpa using holds)
    have h48':¬(281474976710656<Builtin.nextslicecap (n+m) c*j.bytes):=by
     have:=growslice_fits (need:=n+m) (old:=c) (bytes:=j.bytes) (by omega) hbytes
     omega
    have h63':¬(9223372036854775807<((n:Int)+(m:Int))):=by omega
    have hgr:=grown c (by omega) (Value.ownBlock (.slice (some ⟨g,0,none⟩) n c))
    refine ⟨some ⟨w.heap.size,0,none⟩,grownCap w (n+m) c el,_,?_,hgr.1,hgr.2,fun g hg=>?_,Nat.le_succ _⟩
    ·simp [Builtin.append_,run_underlying ht,run_underlying hti,sizeOf,typeInfo,zeroValue,hj,hz,asInt,asIntOf,hwrap,hlt0,hb48,hroom,hmz,Nat.ne_of_gt hpos,hm,h63',h48',Question.forced,hfo,newRow,grownCap,hzc']
     congr 2
     apply Array.ext'
     simp [List.append_assoc]
    ·simp only [Value.ownBlock,g3q] at hg
     exact .inr ⟨by omega,by simp;omega⟩
theorem zuy {t ti ty el:TypeId} {j:TypeInfo} {z:Value} {ki:IntKind} {kv:IntKind} (ht:P.underlying t=some (.slice el)) (hti:P.underlying ti=some (.int ki)) (hj:P.info? el=some j) (hz:j.zero=some z) (hzs:z.cells.size=j.size) (hpos:0<j.size)
 (b:Addr) {c:Nat} (m:Nat) (hcm:c<m) (h63:m<=maxLen) (hbytes:m*j.bytes<=140737488355328) :
 ∃ a' c' w',(Builtin.append_ #[t,ti] ty #[.slice (some b) 0 c,.int kv (m : Int)]).run P w = .ok (.slice a' m c') w' /\ w'.ownsRow 0 el j.size (.slice a' m c') m (List.replicate m z.cells.toList).flatten /\ w.grownBy w' none /\
   (∀ g,(Value.slice a' m c').ownBlock=some g->(w.heap.size<=g/\g<w'.heap.size))/\w.drawn<=w'.drawn/\m<=c':=by
 have hsmall:m<=9223372036854775807:=by simp only [maxLen] at h63;omega
 have hwrap:IntKind.i64.wrap (m:Int)=(m:Int):=by
  have h64:(m:Int)%2 ^ 64=m:=by omega
  have hng:¬((m:Int)≥2 ^ (64 - 1)):=by omega
  simp only [IntKind.wrap,IntKind.bits,IntKind.signed,h64,decide_eq_false hng,Bool.and_false,Bool.false_eq_true,if_false]
 have hlt0:¬((m:Int)<0):=by omega
 have hb48:¬(281474976710656<(m:Int)*(j.bytes:Int)):=by
  have:((m*j.bytes:Nat):Int)=(m:Int)*(j.bytes:Int):=by simp
  omega
 generalize hys:(List.replicate m z.cells.toList).flatten=ys
 have hzc:(Builtin.zeroCells z.cells m).toList=ys:=by rw [zhV z.cells m j.size hzs hpos];exact hys
 have hl:ys.length=m*j.size:=by rw [←hys];simp [hzs]
 have hzc':Builtin.zeroCells z.cells m=ys.toArray:=by rw [←hzc]
 have hmz:¬(m*j.size=0):=fun h=>by
  have:=Nat.mul_pos (show 0<m by omega) hpos
  omega
 have hm:¬m=0:=by omega
 have hroom:¬m<=c:=by omega
 have hfo:=run_firstCells_some (P:=P) w.drew j.size 0 b 0 c [] (by simp) (by simp)
 have h48':¬(281474976710656<Builtin.nextslicecap m c*j.bytes):=by
  have:=growslice_fits (need:=m) (old:=c) (bytes:=j.bytes) (by omega) hbytes
  omega
 have h63':¬(9223372036854775807<(m:Int)):=by omega
 have hge:=grownCap_ge w m c el
 have hcm':grownCap w m c el<=maxLen:=grownCap_le_maxLen w m c el h63
 refine ⟨some ⟨w.heap.size,0,none⟩,grownCap w m c el,w.drew.alloc (.cells (ys.toArray++Builtin.zeroCells z.cells (grownCap w m c el - m)) el),?_,⟨hl,.inr ⟨w.heap.size,_,_,rfl,Nat.zero_le _,heap_alloc_new w.drew _,hge,hcm',?_,?_⟩⟩,⟨rfl,rfl,rfl,by simp,fun k hk _=>heap_alloc_old w.drew _ hk⟩,fun g hg=>?_,Nat.le_succ _,hge⟩
 ·simp [Builtin.append_,run_underlying ht,run_underlying hti,sizeOf,typeInfo,zeroValue,hj,hz,asInt,asIntOf,hwrap,hlt0,hb48,hroom,hmz,Nat.ne_of_gt hpos,hm,h63',h48',Question.forced,hfo,newRow,grownCap,hzc']
 ·simp only [Array.size_append,List.size_toArray,size_zeroCells,hzs,hl,←Nat.add_mul]
  congr 1
  omega
 ·simp only [Array.toList_append]
  rw [←hl]
  exact List.take_left
 ·simp only [Value.ownBlock,g3q] at hg
  exact ⟨by omega,by simp;omega⟩
theorem zuz {t ti el key:TypeId} {ki:IntKind} {x y:Operand} {j:TypeInfo} {z:Value} (ho:o.op=.call { callee:=.builtin .append,args:=#[x,y],argTypes:=#[t,ti] }) (ht:P.underlying t=some (.slice el)) (hti:P.underlying ti=some (.int ki)) (hj:P.info? el=some j) (hz:j.zero=some z)
 (hzs:z.cells.size=j.size) (hpos:0<j.size) (hA:Agree n ds e a) (hR:R w0 fp0 L w) (h:VI P w0 fp0 (.apz key el j.size j.bytes z.cells.toList (cX x) (cX y)) e L k):kK P w0 fp0 o a w k:=by
 simp only [VI] at h
 obtain ⟨s,hp,h'⟩:=zw h
 clear h
 obtain ⟨kv,q,hq,⟨h0,hone⟩,h⟩:=qG h'
 clear h'
 have ex:=zk hA hp
 have ey:=zk hA hq
 simp only [SV.val] at ey
 obtain ⟨m,rfl⟩:=Int.eq_ofNat_of_zero_le h0
 simp only [Int.ofNat_eq_natCast,g7q] at *
 have hone':∀ u∈(List.replicate m z.cells.toList).flatten,u.oneCell'=true:=fun u hu=>by
  obtain ⟨l,hl,hu⟩:=List.mem_flatten.1 hu
  rw [List.eq_of_mem_replicate hl] at hu
  exact kJ hone u hu
 have fin:∀ (a':Option Addr) (c':Nat × Nat) (w':World) (sv:Value),s.val=sv->(Builtin.append_ #[t,ti] o.type #[sv,.int kv m]).run P w=.ok (.slice a' c'.1 c'.2) w'->Fin w0 fp0 k (.slice a' c'.1 c'.2) w'->kK P w0 fp0 o a w k:=fun a' c' w' sv hs hr hf=>by
  refine ⟨_,w',?_,hf⟩
  subst hs
  simp only [execOp,ho,resolve,invoke,builtin,Sem.run_bind,Sem.run_pure,Result.andThen_ok,List.map_toArray,List.map_cons,List.map_nil,ex,ey,hr]
 split at h
 ·rename_i key' a1 n1 c1
  split at h
  ·rename_i ow hb
   obtain ⟨⟨rfl,rfl,rfl,hT,hS⟩,⟨h63,hby⟩,hk⟩:=h
   have hrow:=qW hR hb
   rw [hT,hS] at hrow
   obtain ⟨a',c',w',hrun,hown,hg,hf⟩:=zoc (P:=P) (ty:=o.type) (kv:=kv) ht hti hj hz hzs hpos hrow m hone' h63 hby
   refine fin a' (ow.n+m,c') w' _ rfl hrun ⟨.sl key' a' (ow.n+m) c',_,rfl,ziK hR hb (by rw [hT,hS];exact hown) hg hf,hk a' c'⟩
  ·exact h.elim
 ·obtain ⟨⟨h63,hby⟩,hk⟩:=h
  have hrow:w.ownsRow 0 el j.size (.slice none 0 0) 0 []:=World.ownsRow_nil _ _ _ _
  obtain ⟨a',c',w',hrun,hown,hg,hf⟩:=zoc (P:=P) (ty:=o.type) (kv:=kv) ht hti hj hz hzs hpos hrow m hone' (by omega) (by simpa using hby)
  have hR':=hR.ownNil key el j.size
  have hb':zL key (.own key none 0 0 el j.size []::L)=some ⟨none,0,0,el,j.size,[]⟩:=by simp [zL]
  have hfin:=ziK (a':=a') (m:=m) (c':=c') (ys:=(List.replicate m z.cells.toList).flatten) hR' hb' hown hg hf
  simp only [qp,if_true,Nat.zero_add,List.nil_append] at hfin
  refine fin a' (m,c') w' _ rfl (by simpa [SV.val] using hrun) ⟨.sl key a' m c',_,rfl,hfin,hk a' c'⟩
 ·rename_i b c
  obtain ⟨⟨hcm,h63,hby⟩,hk⟩:=h
  obtain ⟨a',c',w',hrun,hown,hg,hf,hd,hmc⟩:=zuy (P:=P) (w:=w) (ty:=o.type) (kv:=kv) ht hti hj hz hzs hpos b m hcm h63 hby
  have hR':=hR.ownNil key el j.size
  have hb':zL key (.own key none 0 0 el j.size []::L)=some ⟨none,0,0,el,j.size,[]⟩:=by simp [zL]
  have hfin:=ziK (a':=a') (m:=m) (c':=c') (ys:=(List.replicate m z.cells.toList).flatten) hR' hb' (by simpa using hown) hg ⟨fun g hg=>.inr (hf g (by simpa using hg)),hd⟩
  simp only [qp,if_true,Nat.zero_add,List.nil_append] at hfin
  refine fin a' (m,c') w' _ rfl hrun ⟨.sl key a' m c',_,rfl,hfin,hk a' c' hmc⟩
 ·exact h.elim
end
section
variable {P:Program} {w0 w:World} {fp0:List Nat} {n:Nat} {ds:List Deferred} {e:Env} {a:Act} {L:List Ent} {o:Oper} {k:SV->List Ent->Prop}
theorem zuA {t:TypeId} {x:Operand} {f:Nat} {fs fs':Array Field} {fd:Field} {j:TypeInfo} (ho:o.op=.field t x f) (ht:P.underlying t=some (.struct fs)) (hf:fs[f]?=some fd) (hu:P.underlying fd.type=some (.struct fs')) (hj:P.info? fd.type=some j)
 (hA:Agree n ds e a) (hR:R w0 fp0 L w) (h:VI P w0 fp0 (.fls fd.offset j.size (cX x)) e L k):zJ P w0 fp0 o a w k:=by
 simp only [VI] at h
 obtain ⟨s,hp,h⟩:=zw h
 have ex:=zk hA hp
 split at h
 ·rename_i cs
  obtain ⟨hl,h⟩:=h
  simp only [SV.val] at ex
  refine zn hR (s:=.v (.agg ((cs.toList.drop fd.offset).take j.size).toArray)) ?_ rfl h
  have hpart:(part fd.type cs fd.offset).run P w=.ok (.agg (cs.extract fd.offset (fd.offset+j.size))) w:=by
   simp [part,isAgg,run_underlying hu,sizeOf,typeInfo,hj]
  have he:cs.extract fd.offset (fd.offset+j.size)=((cs.toList.drop fd.offset).take j.size).toArray:=by
   apply Array.ext'
   simp
  simp only [execOp,ho,Instr.field,run_underlying ht,Sem.run_bind,Result.andThen_ok,hf,ex,asAgg,Sem.run_pure,hpart,SV.val,he]
 ·exact h.elim
theorem zuB {s t el:TypeId} {x:Operand} (ho:o.op=.convert s t x) (hs:P.underlying s=some (.slice el)) (he:P.underlying el=some (.int .u8)) (ht:P.underlying t=some .string)
 (hA:Agree n ds e a) (hR:R w0 fp0 L w) (h:VI P w0 fp0 (.cvs (cX x)) e L k):zJ P w0 fp0 o a w k:=by
 simp only [VI] at h
 obtain ⟨u,hp,h⟩:=zw h
 have ex:=zk hA hp
 obtain ⟨b,m,cb,ys,hu,hl,hc,l,hy,hk⟩:=zcd hR h
 rw [hu] at ex
 have hm:m=l.length:=by rw [hy] at hl;simpa using hl.symm
 subst hm
 have hrun:(convert s t (.slice b l.length cb)).run P w=.ok (.string ⟨l.toArray⟩) w:=by
  cases b with
  | none =>
    have:l=[]:=by
     rcases hc with h|⟨ad,h,_⟩
     ·rw [hy] at h;simpa using h
     ·cases h
    subst this
    exact run_convert_bytes_nil (P:=P) w s el hs he _ _ t ht
  | some ad =>
    refine run_convert_bytes_back w s t el ad cb l hs he ht fun j hj=>?_
    rcases hc with h|⟨ad',h1,h2⟩
    ·rw [hy] at h
     have:l=[]:=by simpa using h
     subst this
     simp at hj
    ·cases h1
     exact h2 j _ (by rw [hy];simp [hj])
 refine zn hR (s:=.v (.string ⟨l.toArray⟩)) ?_ rfl hk
 simp only [execOp,ho,ex,Sem.run_bind,hrun,Result.andThen_ok,Sem.run_pure,SV.val]
theorem zuC {t el:TypeId} {x y:Operand} {j:TypeInfo} (ho:o.op=.call { callee:=.builtin .append,args:=#[x,y],argTypes:=#[t,t] }) (ht:P.underlying t=some (.slice el)) (hj:P.info? el=some j) (hpos:0<j.size)
 (hA:Agree n ds e a) (hR:R w0 fp0 L w) (h:VI P w0 fp0 (.apc el j.size (cX x) (cX y)) e L k):kK P w0 fp0 o a w k:=by
 simp only [VI] at h
 obtain ⟨s,hp,h'⟩:=zw h
 clear h
 obtain ⟨u,hq,h''⟩:=zw h'
 clear h'
 obtain ⟨b,m,cb,ys,hu,hl,hc,hone,h⟩:=zcd hR h''
 clear h''
 have ex:=zk hA hp
 have ey:=zk hA hq
 rw [hu] at ey
 split at h
 ·rename_i key' a1 n1 c1
  split at h
  ·rename_i ow hb
   obtain ⟨⟨rfl,rfl,rfl,hT,hS,hm,hroom⟩,hk⟩:=h
   have hrow:=qW hR hb
   rw [hT,hS] at hrow
   obtain ⟨hxl,hrow2⟩:=hrow
   rcases hrow2 with ⟨hv,hn⟩|⟨g,cap,cur,hv,_,hg,hncap,hcm,hcs,htake⟩
   ·simp only [Value.slice.injEq] at hv;omega
   simp only [Value.slice.injEq] at hv
   obtain ⟨ha,_,hcap⟩:=hv
   have hy0:ys≠[]:=by
    intro h0;rw [h0] at hl
    have:0<m*j.size:=Nat.mul_pos hm hpos
    simp at hl;omega
   obtain ⟨ad,hbad,hcell⟩:∃ ad,b=some ad/\∀ i u,ys[i]?=some u->w.cell? (ad.add i)=some u:=by
    rcases hc with h|h
    ·exact absurd h hy0
    ·exact h
   subst hbad
   have hfit:ow.n*j.size+ys.length<=cur.size:=by rw [hl,hcs,←Nat.add_mul];exact Nat.mul_le_mul_right _ (by omega)
   have hrun:=run_append_room (P:=P) w t o.type el j ht hj g ow.n ow.c cur hg ad m cb ys hl hcell (kJ hone) hroom hfit
   have hlen:(ow.xs++ys).length=(ow.n+m)*j.size:=by rw [g6q,hxl,hl,Nat.add_mul]
   have hown:(w.setRow g (cur.toList.take (ow.n*j.size)++ys++cur.toList.drop (ow.n*j.size+ys.length)).toArray).ownsRow 0 ow.T ow.sz (.slice ow.a (ow.n+m) ow.c) (ow.n+m) (ow.xs++ys):=by
    rw [hT,hS,ha]
    refine ⟨hlen,.inr ⟨g,ow.c,_,rfl,Nat.zero_le _,setRow_heap w g cur _ el _ hg,hroom,by omega,?_,?_⟩⟩
    ·simp only [List.size_toArray,g6q,List.length_take,List.length_drop,Array.length_toList]
     rw [←hcap] at hcs
     omega
    ·rw [htake,←hlen]
     exact List.take_left
   have hgr:w.grownBy (w.setRow g (cur.toList.take (ow.n*j.size)++ys++cur.toList.drop (ow.n*j.size+ys.length)).toArray) (Value.slice ow.a ow.n ow.c).ownBlock :=
    ⟨rfl,rfl,rfl,by simp,fun k _ hk=>setRow_other w g k _ (fun e=>hk (by simp [Value.ownBlock,ha,e]))⟩
   refine ⟨.slice ow.a (ow.n+m) ow.c,_,?_,.sl key' ow.a (ow.n+m) ow.c,_,rfl,ziK hR hb hown hgr ⟨fun g' hg'=>.inl (by rw [ha] at hg' ⊢;exact hg'),Nat.le_refl _⟩,hk⟩
   simp only [SV.val] at ex
   rw [ha] at ex ⊢
   simp only [execOp,ho,resolve,invoke,builtin,Sem.run_bind,Sem.run_pure,Result.andThen_ok,List.map_toArray,List.map_cons,List.map_nil,ex,ey,hrun]
  ·exact h.elim
 ·exact h.elim
theorem zuD {s t el:TypeId} {bs:ByteArray} {key:Nat} (ho:o.op=.convert s t (.const (.string bs))) (hs:P.underlying s=some .string) (ht:P.underlying t=some (.slice el)) (he:P.underlying el=some (.int .u8))
 (hA:Agree n ds e a) (hR:R w0 fp0 L w) (h:VI P w0 fp0 (.cvb key (bs.data.toList.map UInt8.toNat)) e L k):kK P w0 fp0 o a w k:=by
 simp only [VI] at h
 have hl:(bs.data.toList.map UInt8.toNat).length=bs.size:=by rw [g8q,Array.length_toList];rfl
 have hrun:=run_bytes_of_string (P:=P) w s t el bs hs ht he
 have ex:a.eval (.const (.string bs))=.string bs:=zk (x:=.const (.string bs)) hA (s:=.v (.string bs)) rfl
 have h:=h w.heap.size (grownCap w bs.size 0 el)
 rw [hl] at h
 refine ⟨_,w.drew.alloc (.cells (bytesRow bs (grownCap w bs.size 0 el)) el ((bytesRow bs (grownCap w bs.size 0 el)).size,(bytesRow bs (grownCap w bs.size 0 el)).size+1)),?_,.v (.slice (some ⟨w.heap.size,0,none⟩) bs.size (grownCap w bs.size 0 el)),_,rfl,?_,h⟩
 ·simp only [execOp,ho,ex,Sem.run_bind,hrun,Result.andThen_ok,Sem.run_pure,SV.val]
 ·refine R.alloc hR.drew _ _ rfl fun w' hw=>?_
  have hb:=hw w.heap.size (by simp)
  rw [show (w.drew.alloc (.cells (bytesRow bs (grownCap w bs.size 0 el)) el ((bytesRow bs (grownCap w bs.size 0 el)).size,(bytesRow bs (grownCap w bs.size 0 el)).size+1))).heap[w.heap.size]?=some (.cells (bytesRow bs (grownCap w bs.size 0 el)) el ((bytesRow bs (grownCap w bs.size 0 el)).size,(bytesRow bs (grownCap w bs.size 0 el)).size+1)) from heap_alloc_new w.drew _] at hb
  intro j v hv
  have hj:j<bs.data.size:=by
   have:=(List.getElem?_eq_some_iff.1 hv).1
   simpa [xd] using this
  have hv':v=.int .u8 (bs.data[j].toNat:Int):=by
   simp only [xd,List.map_map,List.getElem?_map,Array.getElem?_toList,Array.getElem?_eq_getElem hj,Option.map_some,g3q] at hv
   exact hv.symm
  unfold World.cell?
  simp only [hb]
  rw [hv']
  exact bytesRow_at bs _ j hj
theorem jC {key:Nat} {ow:Own}:∀ {L:List Ent},zL key L=some ow->∃ L',L.Perm (.own key ow.a ow.n ow.c ow.T ow.sz ow.xs::L')/\(zbI key L).Perm (.abs key (Value.slice ow.a ow.n ow.c).ownBlock.toList (zrL ow.a ow.xs)::L')
 | [],h=>by cases h
 | .own k a n c T sz xs :: L,h => by
   simp only [zL] at h
   simp only [zbI]
   by_cases hk:k=key
   ·rw [if_pos hk] at h ⊢
    simp only [g3q] at h
    subst h hk
    exact ⟨L,.refl _,.refl _⟩
   ·rw [if_neg hk] at h ⊢
    obtain ⟨L',h1,h2⟩:=jC h
    exact ⟨_::L',(h1.cons _).trans (.swap _ _ _),(h2.cons _).trans (.swap _ _ _)⟩
 | .box k b cs T :: L,h => by
   simp only [zL] at h
   obtain ⟨L',h1,h2⟩:=jC h
   exact ⟨_::L',(h1.cons _).trans (.swap _ _ _),(h2.cons _).trans (.swap _ _ _)⟩
 | .mapE k b kk m :: L,h => by
   simp only [zL] at h
   obtain ⟨L',h1,h2⟩:=jC h
   exact ⟨_::L',(h1.cons _).trans (.swap _ _ _),(h2.cons _).trans (.swap _ _ _)⟩
 | .abs k fp ok :: L,h => by
   simp only [zL] at h
   obtain ⟨L',h1,h2⟩:=jC h
   exact ⟨_::L',(h1.cons _).trans (.swap _ _ _),(h2.cons _).trans (.swap _ _ _)⟩
theorem zuE {t el:TypeId} {x:Operand} (ho:o.op=.convert t t x) (ht:P.underlying t=some (.slice el)) (he:P.underlying el=some (.int .u8))
 (hA:Agree n ds e a) (hR:R w0 fp0 L w) (h:VI P w0 fp0 (.cvm (cX x)) e L k):kK P w0 fp0 o a w k:=by
 simp only [VI] at h
 obtain ⟨s,hp,h⟩:=zw h
 have ex:=zk hA hp
 split at h
 ·rename_i key a1 n1 c1
  split at h
  ·rename_i ow hb
   obtain ⟨⟨rfl,rfl,rfl,hpos⟩,hk⟩:=h
   obtain ⟨g,cur,ha,hg,hle,_,_,_,htk⟩:=kT (qW hR hb) hpos
   obtain ⟨L',h1,h2⟩:=jC hb
   have hlt:g<w.heap.size:=(Array.getElem?_eq_some_iff.1 hg).1
   have hsh:w.shape? g=some (ow.T,cur.size):=by unfold World.shape?;rw [hg]
   have hw1:(w.freeze ⟨g,cur.size,none⟩ 1).heap[g]?=some (.cells cur ow.T (cur.size,cur.size+1)):=by
    unfold World.freeze
    rw [if_neg (by decide)]
    show (w.heap.modify g _)[g]?=_
    rw [Array.getElem?_modify,if_pos rfl,hg]
    rfl
   have hrun:(convert t t (.slice (some ⟨g,0,none⟩) ow.n ow.c)).run P w=.ok (.slice (some ⟨g,0,none⟩) ow.n ow.c) (w.freeze ⟨g,cur.size,none⟩ 1):=by
    simp [convert,run_underlying ht,run_underlying he,markStringish,hsh]
   refine ⟨_,w.freeze ⟨g,cur.size,none⟩ 1,?_,.v (.slice ow.a ow.n ow.c),_,rfl,?_,hk⟩
   ·simp only [SV.val] at ex
    rw [ha] at ex
    simp only [execOp,ho,ex,Sem.run_bind,hrun,Result.andThen_ok,Sem.run_pure,SV.val,ha]
   ·refine (R.write (w':=w.freeze ⟨g,cur.size,none⟩ 1) (e':=.abs key (Value.slice ow.a ow.n ow.c).ownBlock.toList (zrL ow.a ow.xs)) (hR.perm h1) (fun x hx=>hx) (by simp [Ent.fp,ha,Value.ownBlock]) ?_ ?_ rfl rfl rfl (Nat.le_refl _) ?_).perm h2.symm
    ·intro w' hs j v hv
     have hb':=hs g (by simp [ha,Value.ownBlock])
     rw [hw1] at hb'
     refine ⟨g,ha,?_⟩
     unfold World.cell?
     simp only [hb']
     have hv2:cur.toList[j]?=some v:=by
      rw [←htk] at hv
      rw [List.getElem?_take] at hv
      split at hv
      ·exact hv
      ·cases hv
     simpa using hv2
    ·unfold World.freeze
     rw [if_neg (by decide)]
     simp
    ·intro x hx
     have hxg:x≠g:=by simpa [Ent.fp,ha,Value.ownBlock] using hx
     unfold World.freeze
     rw [if_neg (by decide)]
     simp [Array.getElem?_modify,Ne.symm hxg]
  ·exact h.elim
 ·exact h.elim
theorem zrP {el:TypeId} (h:znP P el=true):∃ j,P.info? el=some j/\j.size=1/\∀ w,(isAgg el).run P w=.ok false w:=by
 unfold znP at h
 split at h
 ·rename_i j hu hj
  exact ⟨j,hj,of_decide_eq_true h,fun w=>by simp [isAgg,run_underlying hu]⟩
 ·rename_i kd j hu hj
  exact ⟨j,hj,of_decide_eq_true h,fun w=>by simp [isAgg,run_underlying hu]⟩
 ·cases h
theorem zuF {t el:TypeId} {len:Nat} {x y:Operand} (ho:o.op=.index t x y) (ht:P.underlying t=some (.array len el)) (h1:znP P el=true)
 (hA:Agree n ds e a) (hR:R w0 fp0 L w) (h:VI P w0 fp0 (.idx len (cX x) (cX y)) e L k):zJ P w0 fp0 o a w k:=by
 obtain ⟨j,hj,hs,hg⟩:=zrP h1
 simp only [VI] at h
 obtain ⟨s,hp,h'⟩:=zw h
 clear h
 obtain ⟨kq,i,hq,h⟩:=qG h'
 clear h'
 have ex:=zk hA hp
 have ey:=zk hA hq
 simp only [SV.val] at ey
 split at h
 ·rename_i cs
  obtain ⟨⟨h2,h3⟩,v,hv,hk⟩:=h
  simp only [SV.val] at ex
  have hv':cs[i.toNat]?=some v:=by rw [←Array.getElem?_toList];exact hv
  refine zn hR (v:=v) ?_ rfl hk
  simp [execOp,ho,ex,ey,Instr.index,run_underlying ht,asIntOf,h2,h3,sizeOf,typeInfo,hj,hs,part,hg,hv']
 ·exact h.elim
theorem zod {t el:TypeId} {len:Nat} {j:TypeInfo} {x y:Operand} (ho:o.op=.index t x y) (ht:P.underlying t=some (.array len el)) (hu:(∃ fs,P.underlying el=some (.struct fs))∨∃ m d,P.underlying el=some (.array m d)) (hj:P.info? el=some j)
 (hA:Agree n ds e a) (hR:R w0 fp0 L w) (h:VI P w0 fp0 (.ixs j.size len (cX x) (cX y)) e L k):zJ P w0 fp0 o a w k:=by
 simp only [VI] at h
 obtain ⟨s,hp,h'⟩:=zw h
 clear h
 obtain ⟨kq,i,hq,h⟩:=qG h'
 clear h'
 have ex:=zk hA hp
 have ey:=zk hA hq
 simp only [SV.val] at ey
 split at h
 ·rename_i cs
  obtain ⟨⟨h2,h3⟩,hk⟩:=h
  simp only [SV.val] at ex
  have hpart:(part el cs (i.toNat*j.size)).run P w=.ok (.agg (cs.extract (i.toNat*j.size) (i.toNat*j.size+j.size))) w:=by
   rcases hu with ⟨fs,hu⟩|⟨m,d,hu⟩<;>simp [part,isAgg,run_underlying hu,sizeOf,typeInfo,hj]
  have he:cs.extract (i.toNat*j.size) (i.toNat*j.size+j.size)=((cs.toList.drop (i.toNat*j.size)).take j.size).toArray:=by
   apply Array.ext'
   simp
  refine zn hR (s:=.v (.agg ((cs.toList.drop (i.toNat*j.size)).take j.size).toArray)) ?_ rfl hk
  simp [execOp,ho,ex,ey,Instr.index,run_underlying ht,asIntOf,h2,h3,sizeOf,typeInfo,hj,hpart,he,SV.val]
 ·exact h.elim
theorem zuG {t u el:TypeId} {x y:Operand} {j:TypeInfo} (ho:o.op=.call { callee:=.builtin .copy,args:=#[x,y],argTypes:=#[t,u] }) (ht:P.underlying t=some (.slice el)) (hj:P.info? el=some j) (h1:j.size=1)
 (hA:Agree n ds e a) (hR:R w0 fp0 L w) (h:VI P w0 fp0 (.cpy (cX x) (cX y)) e L k):kK P w0 fp0 o a w k:=by
 simp only [VI] at h
 obtain ⟨s,hp,h'⟩:=zw h
 clear h
 obtain ⟨v,hq,h''⟩:=zw h'
 clear h'
 obtain ⟨b,m,cb,ys,hu,hl,hc,hone,h⟩:=zcd hR h''
 clear h''
 have ex:=zk hA hp
 have ey:=zk hA hq
 rw [hu] at ey
 split at h
 ·rename_i key a1 n1 c1
  split at h
  ·rename_i ow hb
   obtain ⟨⟨rfl,rfl,rfl,hS,hmn,hm0⟩,hk⟩:=h
   rw [Nat.mul_one] at hl
   obtain ⟨hxl,_⟩:=qW hR hb
   rw [hS,Nat.mul_one] at hxl
   have h0:0<ow.xs.length:=by omega
   obtain ⟨g,cur,ha,hg,hle,_,_,_,htk⟩:=kT (qW hR hb) h0
   obtain ⟨ad,rfl,hcell⟩:∃ ad,b=some ad/\∀ i u,ys[i]?=some u->w.cell? (ad.add i)=some u:=by
    rcases hc with rfl|hc
    ·simp at hl;omega
    ·exact hc
   have hrun:=run_copy_row (P:=P) w t u o.type el g 0 ow.n ow.c ad m cb cur ow.T ys ht (by rw [hj];simp [h1]) hg (by rw [hl];exact (Nat.min_eq_left hmn).symm) hcell (by omega) (kJ hone)
   rw [hl] at hrun
   have hset:R w0 fp0 (qp key ow.a ow.n ow.c (zD ow.xs 0 ys) L) (w.setRow g (zD cur.toList 0 ys).toArray):=by
    refine zjB hR hb ha hg (yL (by omega)) (by simp [yL (cs:=cur.toList) (vs:=ys) (off:=0) (by simp;omega)]) ?_
    exact ze1 htk (by omega)
   refine ⟨.int .i64 (m:Int),_,?_,.v (.int .i64 (m:Int)),_,rfl,hset,hk⟩
   simp only [SV.val] at ex
   rw [ha] at ex
   simp only [execOp,ho,resolve,invoke,builtin,Sem.run_bind,Sem.run_pure,Result.andThen_ok,List.map_toArray,List.map_cons,List.map_nil,ex,ey,hrun,goInt,zD,hl]
  ·exact h.elim
 ·exact h.elim
end
def Drs (w w':World):Prop:=∃ d,w'={ w with drawn:=w.drawn+d }
theorem Drs.refl (w:World):Drs w w:=⟨0,rfl⟩
theorem Drs.trans {w w' w'':World} (h:Drs w w') (h':Drs w' w''):Drs w w'':=by
 obtain ⟨d,rfl⟩:=h
 obtain ⟨d',rfl⟩:=h'
 exact ⟨d+d',by simp [Nat.add_assoc]⟩
theorem Drs.heap {w w':World} (h:Drs w w'):w'.heap=w.heap:=by obtain ⟨d,rfl⟩:=h;rfl
theorem Drs.soft {w w':World} (h:Drs w w') {v:Value} (hs:vA w v):vA w' v:=by obtain ⟨d,rfl⟩:=h;exact hs
theorem Drs.R {w0 w w':World} {fp0:List Nat} {L:List Ent} (h:Drs w w') (hR:R w0 fp0 L w):R w0 fp0 L w':=by
 obtain ⟨d,rfl⟩:=h
 exact hR.heap rfl rfl rfl rfl (Nat.le_add_right _ _)
section
variable {P:Program} {w0 w:World} {fp0:List Nat} {n:Nat} {ds:List Deferred} {e:Env} {a:Act} {L:List Ent} {o:Oper} {k:SV->List Ent->Prop}
theorem Drs.drew (w:World):Drs w w.drew:=⟨1,rfl⟩
theorem zht (w:World) (a:Addr):∃ t,(stringish a).run P w=.ok t w:=by
 unfold stringish
 by_cases hf:w.frozen? a=true
 ·exact ⟨true,by simp [hf]⟩
 ·cases hs:w.shape? a.block with
  | none=>exact ⟨false,by simp [hf,hs]⟩
  | some p=>exact ⟨w.frozen? { block:=a.block,off:=p.2 },by simp [hf,hs]⟩
theorem zoe (w:World) (a b:Addr):∃ t,(mayBeOne a b).run P w=.ok t w:=by
 obtain ⟨s,hs⟩:=zht (P:=P) w a
 obtain ⟨t,ht⟩:=zht (P:=P) w b
 cases s<;>cases t<;>exact ⟨_,by simp [mayBeOne,hs,ht];rfl⟩
theorem ziY {p q:Addr} (hp:vA w (.pointer (some p))) (hq:vA w (.pointer (some q))):∃ t w',(sameAddr p q).run P w=.ok t w'/\Drs w w':=by
 obtain ⟨ca,ta,fa,ha,hfa⟩:=hp p rfl
 obtain ⟨cb,tb,fb,hb,hfb⟩:=hq q rfl
 by_cases hbl:p.block=q.block
 ·exact ⟨_,w,by simp [sameAddr,hbl];rfl,Drs.refl w⟩
 ·obtain ⟨t,ht⟩:=zoe (P:=P) w p q
  cases t
  ·exact ⟨false,w,by simp [sameAddr,hbl,hfa,noView,viewAt,World.shape?,ha,hb,ht],Drs.refl w⟩
  ·exact ⟨_,w.drew,by simp [sameAddr,hbl,hfa,noView,viewAt,World.shape?,ha,hb,ht,Question.forced];rfl,Drs.drew w⟩
theorem zlA {t:TypeId} {x y:Value} (ht:yX P t=some .ptr) (hx:qj .ptr x) (hy:qj .ptr y) (wx:vA w x) (wy:vA w y):∃ b w',(Op.equal t x y).run P w=.ok b w'/\Drs w w':=by
 obtain ⟨p,rfl⟩:=hx
 obtain ⟨q,rfl⟩:=hy
 obtain ⟨el,j,hu,hj,hs⟩:=zaT ht
 obtain ⟨b,w',hr,hd⟩:=ziY (P:=P) wx wy
 have hne:¬j.size=0:=by omega
 have hg:∀ d:Nat,(Op.equalIn (d+1) t (.pointer (some p)) (.pointer (some q))).run P w=.ok b w':=fun d=>by
  simp [Op.equalIn,run_underlying hu,sizeOf,typeInfo,hj,hne,hr]
 exact ⟨b,w',hg 9999,hd⟩
theorem zdQ {t:TypeId} {x:Value} (ht:yX P t=some .ptr) (hx:qj .ptr x):∀ (es:List MapEntry) (i:Nat) (w:World),vA w x->(∀ e∈es,qj .ptr e.key)->(∀ e∈es,vA w e.key) ->
 ∃ r w',(Instr.findAsking t x es i).run P w=.ok r w'/\Drs w w'/\(r=none∨∃ m e,r=some (i+m,e.val)/\es[m]?=some e)
 | [],i,w,_,_,_=>⟨none,w,by simp [Instr.findAsking],Drs.refl w,.inl rfl⟩
 | e :: es,i,w,wx,h,hw => by
   obtain ⟨b,w1,h1,hd⟩:=zlA (P:=P) (w:=w) ht hx (h e g5q) wx (hw e g5q)
   cases b
   ·obtain ⟨r,w2,h2,hd2,hr⟩:=zdQ ht hx es (i+1) w1 (hd.soft wx) (fun e he=>h e (g4q _ he)) (fun e he=>hd.soft (hw e (g4q _ he)))
    refine ⟨r,w2,by simp [Instr.findAsking,h1,h2],hd.trans hd2,?_⟩
    rcases hr with rfl|⟨m,e',rfl,hm⟩
    ·exact .inl rfl
    ·exact .inr ⟨m+1,e',by rw [show i+1+m=i+(m+1) by omega],by simpa using hm⟩
   ·exact ⟨some (i,e.val),w1,by simp [Instr.findAsking,h1],hd,.inr ⟨0,e,rfl,rfl⟩⟩
theorem zhu {t:TypeId} {x:Value} (ht:yX P t=some .ptr) (hx:qj .ptr x) (wx:vA w x) (es:List MapEntry) (h:∀ e∈es,qj .ptr e.key) (hw:∀ e∈es,vA w e.key) :
 ∃ r w',(Instr.findKey t x es).run P w=.ok r w'/\Drs w w'/\(r=none∨∃ m e,r=some (m,e.val)/\es[m]?=some e):=by
 obtain ⟨r,w',hask,hd,hr⟩:=zdQ (P:=P) ht hx es 0 w wx h hw
 obtain ⟨el,j,hu,hj,hs⟩:=zaT ht
 simp only [Nat.zero_add] at hr
 cases es with
 | nil =>
   refine ⟨none,w,?_,Drs.refl w,.inl rfl⟩
   simp [Instr.findKey,run_underlying hu,Instr.findNow]
 | cons e es =>
   refine ⟨r,w',?_,hd,hr⟩
   simp only [Instr.findKey,run_underlying hu,Sem.run_bind,Result.andThen_ok,Instr.findNow,Instr.sameNow]
   exact hask
theorem zuH {t kt et:TypeId} {x y:Operand} {ok:Bool} {j:TypeInfo} {z:Value} (ho:o.op=.lookup t x y ok) (ht:P.underlying t=some (.map kt et)) (hk:yX P kt=some .ptr) (hj:P.info? et=some j) (hz:j.zero=some z)
 (hA:Agree n ds e a) (hR:R w0 fp0 L w) (h:VI P w0 fp0 (.lks ok z (cX x) (cX y)) e L k):kK P w0 fp0 o a w k:=by
 simp only [VI] at h
 obtain ⟨s,hp,h'⟩:=zw h
 clear h
 obtain ⟨u,hq,h⟩:=zw h'
 clear h'
 have ex:=zk hA hp
 have ey:=zk hA hq
 split at h
 ·rename_i key b
  split at h
  ·rename_i b' kk' m hm
   obtain ⟨⟨rfl,rfl,hku⟩,hsoft,h1,h2⟩:=h
   obtain ⟨wku,wks⟩:=hsoft w hR
   obtain ⟨es,clock,hb,hes,hks⟩:=zdF hR hm
   have hks':∀ e∈es.toList,qj .ptr e.key:=fun e he=>hks (e.key,e.val) (by rw [←hes];exact List.mem_map_of_mem he)
   have wks':∀ e∈es.toList,vA w e.key:=fun e he=>wks (e.key,e.val) (by rw [←hes];exact List.mem_map_of_mem he)
   obtain ⟨r,w',hf,hd,hr⟩:=zhu (P:=P) (w:=w) hk hku wku es.toList hks' wks'
   have hc:=zct (P:=P) (w:=w) es.isEmpty hk hku
   have hzv:(zeroValue et).run P w'=.ok z w':=by simp [zeroValue,typeInfo,hj,hz]
   simp only [SV.val] at ex
   rcases hr with rfl|⟨q,e0,rfl,hq0⟩
   ·refine ⟨lkV ok z false,w',?_,.v (lkV ok z false),L,rfl,hd.R hR,h2⟩
    cases ok<;>simp [execOp,ho,ex,ey,Instr.lookup,run_underlying ht,MapKept.run_getObj_map hb,hc,hf,hzv,lkV]
   ·refine ⟨lkV ok e0.val true,w',?_,.v (lkV ok e0.val true),L,rfl,hd.R hR,h1 (e0.key,e0.val) (by rw [←hes];exact List.mem_map_of_mem (List.mem_of_getElem? hq0))⟩
    cases ok<;>simp [execOp,ho,ex,ey,Instr.lookup,run_underlying ht,MapKept.run_getObj_map hb,hc,hf,lkV]
  ·exact h.elim
 ·exact h.elim
theorem zne (old new:Value):∃ v w',(Instr.keyThatStays old new).run P w=.ok v w'/\Drs w w'/\(v=new∨v=old):=by
 unfold Instr.keyThatStays
 by_cases hs:Instr.sameBits 10000 old new=true
 ·exact ⟨new,w,by simp [hs],Drs.refl w,.inl rfl⟩
 ·by_cases h0 : (Question.extern "map.whichKeyStays" 2).cut (w.tape w.drawn (Question.extern "map.whichKeyStays" 2)) = 0
  ·exact ⟨new,w.drew,by simp [hs,h0,Question.forced],Drs.drew w,.inl rfl⟩
  ·exact ⟨old,w.drew,by simp [hs,h0,Question.forced],Drs.drew w,.inr rfl⟩
theorem zof {t kt et:TypeId} {x y z:Operand} (ho:o.op=.mapUpdate t x y z∨o.op=.insert t x y z) (ht:P.underlying t=some (.map kt et)) (hk:yX P kt=some .ptr)
 (hA:Agree n ds e a) (hR:R w0 fp0 L w) (h:VI P w0 fp0 (.mus (cX x) (cX y) (cX z)) e L k):∃ w',(execOp a.eval o).run P w=.ok .skip w'/\Fin w0 fp0 k undef w':=by
 simp only [VI] at h
 obtain ⟨s,hp,h'⟩:=zw h
 clear h
 obtain ⟨u,hq,h''⟩:=zw h'
 clear h'
 obtain ⟨v,hr,h⟩:=zw h''
 clear h''
 have ex:=zk hA hp
 have ey:=zk hA hq
 have ez:=zk hA hr
 split at h
 ·rename_i key b
  split at h
  ·rename_i b' kk' m hm
   obtain ⟨⟨rfl,rfl,hku⟩,hsoft,h⟩:=h
   obtain ⟨wku,wks⟩:=hsoft w hR
   obtain ⟨es,clock,hb,hes,hks⟩:=zdF hR hm
   have hks':∀ e∈es.toList,qj .ptr e.key:=fun e he=>hks (e.key,e.val) (by rw [←hes];exact List.mem_map_of_mem he)
   have wks':∀ e∈es.toList,vA w e.key:=fun e he=>wks (e.key,e.val) (by rw [←hes];exact List.mem_map_of_mem he)
   obtain ⟨r,w',hf,hd,hr⟩:=zhu (P:=P) (w:=w) hk hku wku es.toList hks' wks'
   have hc:=zct (P:=P) (w:=w) false hk hku
   have hb':w'.heap[b']?=some (.map es clock):=by rw [hd.heap];exact hb
   simp only [SV.val] at ex
   rcases hr with rfl|⟨q,e0,rfl,hq0⟩
   ·have hmem:∀ p∈m++[(u.val,v.val)],(p.1=u.val∨∃ q∈m,p.1=q.1)/\(p.2=v.val∨∃ q∈m,p.2=q.2):=by
     intro p hp
     rcases List.mem_append.1 hp with hp|hp
     ·exact ⟨.inr ⟨p,hp,rfl⟩,.inr ⟨p,hp,rfl⟩⟩
     ·rw [List.mem_singleton] at hp
      subst hp
      exact ⟨.inl rfl,.inl rfl⟩
    refine ⟨{ w' with heap:=w'.heap.setIfInBounds b' (.map (es.push { key:=u.val,val:=v.val,born:=clock }) (clock+1)) },?_,.v undef,_,rfl,?_,h (m++[(u.val,v.val)]) hmem⟩
    ·rcases ho with ho|ho<;>simp [execOp,ho,ex,ey,ez,Instr.mapUpdate,run_underlying ht,MapKept.run_getObj_map hb,hc,hf,MapKept.run_setObj_map _ hb']
    ·refine zgv (hd.R hR) hm (by simp [hes]) ?_
     intro p hp
     rcases List.mem_append.1 hp with hp|hp
     ·exact hks p hp
     ·rw [List.mem_singleton] at hp
      subst hp
      exact hku
   ·have hget:es[q]?=some e0:=by rw [←Array.getElem?_toList];exact hq0
    have he0:(e0.key,e0.val)∈m:=by rw [←hes];exact List.mem_map_of_mem (List.mem_of_getElem? hq0)
    obtain ⟨nk,w'',hst,hd2,hnk⟩:=zne (P:=P) (w:=w') e0.key u.val
    have hb'':w''.heap[b']?=some (.map es clock):=by rw [hd2.heap];exact hb'
    have hnk':qj .ptr nk:=by
     rcases hnk with rfl|rfl
     ·exact hku
     ·exact hks _ he0
    have hlist:((es.toList.modify q fun e=>{ e with key:=nk,val:=v.val }).map fun e=>(e.key,e.val))=m.set q (nk,v.val):=by
     rw [←hes]
     apply List.ext_getElem?
     intro i
     rw [List.getElem?_map,List.getElem?_modify,List.getElem?_set,List.getElem?_map]
     by_cases hi:q=i
     ·subst hi
      simp [hq0]
      exact (List.getElem?_eq_some_iff.1 hq0).1
     ·simp [hi]
    have hmem:∀ p∈m.set q (nk,v.val),(p.1=u.val∨∃ q∈m,p.1=q.1)/\(p.2=v.val∨∃ q∈m,p.2=q.2):=by
     intro p hp
     rcases List.mem_or_eq_of_mem_set hp with hp|rfl
     ·exact ⟨.inr ⟨p,hp,rfl⟩,.inr ⟨p,hp,rfl⟩⟩
     ·refine ⟨?_,.inl rfl⟩
      rcases hnk with rfl|rfl
      ·exact .inl rfl
      ·exact .inr ⟨_,he0,rfl⟩
    refine ⟨{ w'' with heap:=w''.heap.setIfInBounds b' (.map (es.modify q fun e=>{ e with key:=nk,val:=v.val }) clock) },?_,.v undef,_,rfl,?_,h (m.set q (nk,v.val)) hmem⟩
    ·rcases ho with ho|ho<;>simp [execOp,ho,ex,ey,ez,Instr.mapUpdate,run_underlying ht,MapKept.run_getObj_map hb,hc,hf,hget,hst,MapKept.run_setObj_map _ hb'']
    ·refine zgv (hd2.R (hd.R hR)) hm (by rw [Array.toList_modify];exact hlist) ?_
     intro p hp
     rcases List.mem_or_eq_of_mem_set hp with hp|rfl
     ·exact hks p hp
     ·exact hnk'
  ·exact h.elim
 ·exact h.elim
end
section
variable {P:Program} {w0 w:World} {fp0:List Nat} {n:Nat} {ds:List Deferred} {e:Env} {a:Act} {L:List Ent} {o:Oper} {k:SV->List Ent->Prop}
theorem zta {t el:TypeId} {x:Operand} (ho:o.op=.call { callee:=.builtin .cap,args:=#[x],argTypes:=#[t] }) (ht:P.underlying t=some (.slice el))
 (hA:Agree n ds e a) (hR:R w0 fp0 L w) (h:VI P w0 fp0 (.capn (cX x)) e L k):zJ P w0 fp0 o a w k:=by
 simp only [VI] at h
 obtain ⟨s,hp,h⟩:=zw h
 have ex:=zk hA hp
 split at h
 ·refine zn hR ?_ rfl h
  simp only [SV.val] at ex
  simp [execOp,ho,resolve,invoke,builtin,ex,SV.val,Builtin.cap_,run_underlying ht,goInt]
 ·refine zn hR ?_ rfl h
  simp only [SV.val] at ex
  simp [execOp,ho,resolve,invoke,builtin,ex,SV.val,Builtin.cap_,run_underlying ht,goInt]
 ·exact h.elim
theorem zuI {t yt:TypeId} {x y:Operand} (ho:o.op=.binOp .add t x y yt) (hA:Agree n ds e a) (hR:R w0 fp0 L w)
 (h:VI P w0 fp0 (.cat (cX x) (cX y)) e L k):zJ P w0 fp0 o a w k:=by
 simp only [VI] at h
 obtain ⟨s,hp,h'⟩:=zw h
 clear h
 obtain ⟨u,hq,h⟩:=zw h'
 clear h'
 have ex:=zk hA hp
 have ey:=zk hA hq
 split at h
 ·rename_i p q
  simp only [SV.val] at ex ey
  obtain ⟨h1,h⟩:=h
  have h2:¬(((p.size+q.size:Nat):Int)>IntKind.i64.max):=by
   have:IntKind.i64.max=9223372036854775807:=by decide
   omega
  refine zn hR ?_ rfl h
  have h3:(p.size:Int)+(q.size:Int)<=9223372036854775807:=by omega
  simp [execOp,ho,ex,ey,eqGuard,binOp,Op.stringOp,SV.val]
  exact h3
 ·exact h.elim
theorem zuJ {t:TypeId} {x:Operand} {lo hi:Option Operand} (ho:o.op=.slice t x lo hi none) (ht:P.underlying t=some .string)
 (hA:Agree n ds e a) (hR:R w0 fp0 L w) (h:VI P w0 fp0 (.sst (cX x) (lo.map cX) (hi.map cX)) e L k):zJ P w0 fp0 o a w k:=by
 simp only [VI] at h
 obtain ⟨s,hp,h⟩:=zw h
 have ex:=zk hA hp
 have hlo:∀ {K:Int->Prop},jB e (lo.map cX) 0 K->∃ l:Int,K l/\(lo=none/\l=0∨∃ y kl,lo=some y/\a.eval y=.int kl l):=fun {K} hh=>by
  cases lo with
  | none=>exact ⟨0,hh,.inl ⟨rfl,rfl⟩⟩
  | some y =>
    obtain ⟨kl,l,hl,hh⟩:=qG hh
    exact ⟨l,hh,.inr ⟨y,kl,rfl,zk hA hl⟩⟩
 have hhi:∀ {m:Nat} {K:Int->Prop},jB e (hi.map cX) m K->∃ l:Int,K l/\(hi=none/\l=m∨∃ y kl,hi=some y/\a.eval y=.int kl l):=fun {m K} hh=>by
  cases hi with
  | none=>exact ⟨m,hh,.inl ⟨rfl,rfl⟩⟩
  | some y =>
    obtain ⟨kl,l,hl,hh⟩:=qG hh
    exact ⟨l,hh,.inr ⟨y,kl,rfl,zk hA hl⟩⟩
 split at h
 ·rename_i p
  obtain ⟨l,h,hl⟩:=hlo h
  obtain ⟨hv,⟨⟨c1,c2,c3⟩,hk⟩,hz⟩:=hhi h
  simp only [SV.val] at ex
  refine zn hR (v:=.string (p.extract l.toNat hv.toNat)) ?_ rfl hk
  have sb:∀ (kk:IntKind) (i:Int) (y:Nat) (code:BoundsCode),0<=i->i<=y->(Instr.sliceBound (.int kk i) y code).run P w=.ok i.toNat w:=fun kk i y code h0 h1=>run_sliceBound w kk i y code h0 h1
  have hb:(Instr.sliceBounds false p.size p.size (lo.map a.eval) (hi.map a.eval) none).run P w=.ok (l.toNat,hv.toNat,p.size) w:=by
   have hle:l<=((hv.toNat:Nat):Int):=by omega
   rcases hl with ⟨rfl,rfl⟩|⟨y,kl,rfl,hy⟩<;>rcases hz with ⟨rfl,rfl⟩|⟨y',kh,rfl,hy'⟩
   ·simp [Instr.sliceBounds]
   ·simp only [Instr.sliceBounds,Option.map_none,Option.map_some,hy',Sem.run_bind,Sem.run_pure,Result.andThen_ok,sb kh hv p.size _ (by omega) c3,if_true,if_false,Bool.false_eq_true];simp
   ·simp only [Instr.sliceBounds,Option.map_none,Option.map_some,hy,Sem.run_bind,Sem.run_pure,Result.andThen_ok]
    rw [sb kl l p.size _ c1 c2];simp
   ·simp only [Instr.sliceBounds,Option.map_none,Option.map_some,hy,hy',Sem.run_bind,Sem.run_pure,Result.andThen_ok,sb kh hv p.size _ (by omega) c3,if_true,if_false,Bool.false_eq_true]
    rw [sb kl l hv.toNat _ c1 hle];simp
  simp [execOp,ho,Instr.sliceAt,Instr.slice,run_underlying ht,ex,hb]
 ·exact h.elim
theorem zrQ {c:Call} {f:FuncId} (ho:o.op=.call c) (hc:c.callee=.value (.func f))
 (hA:Agree n ds e a) (hR:R w0 fp0 L w) (h:VI P w0 fp0 (.xcall f (c.args.toList.map cX)) e L k):kK P w0 fp0 o a w k:=by
 simp only [VI] at h
 obtain ⟨l,hl,v,hv,hk⟩:=zaE hA h
 have e1:c.args.map a.eval=(l.map SV.val).toArray:=zdE hl
 refine ⟨v,w,?_,.v v,L,rfl,hR,hk⟩
 simp [execOp,ho,resolve,hc,Act.eval,Deferred.ofValue,invoke,e1,hv w hR]
theorem zuK {s t el:TypeId} {x:Operand} {key:Nat} (ho:o.op=.convert s t x) (hs:P.underlying s=some .string) (ht:P.underlying t=some (.slice el)) (he:P.underlying el=some (.int .u8))
 (hA:Agree n ds e a) (hR:R w0 fp0 L w) (h:VI P w0 fp0 (.cvt key (cX x)) e L k):kK P w0 fp0 o a w k:=by
 simp only [VI] at h
 obtain ⟨sv,hp,h⟩:=zw h
 have ex:=zk hA hp
 split at h
 ·rename_i bs
  simp only [SV.val] at ex
  have hrun:=run_bytes_of_string (P:=P) w s t el bs hs ht he
  have h:=h w.heap.size (grownCap w bs.size 0 el) (grownCap_ge w bs.size 0 el) (grownCap_le_maxLen w bs.size 0 el)
  refine ⟨_,w.drew.alloc (.cells (bytesRow bs (grownCap w bs.size 0 el)) el ((bytesRow bs (grownCap w bs.size 0 el)).size,(bytesRow bs (grownCap w bs.size 0 el)).size+1)),?_,.v (.slice (some ⟨w.heap.size,0,none⟩) bs.size (grownCap w bs.size 0 el)),_,rfl,?_,h⟩
  ·simp only [execOp,ho,ex,Sem.run_bind,hrun,Result.andThen_ok,Sem.run_pure,SV.val]
  ·refine R.alloc hR.drew _ _ rfl fun w' hw=>?_
   have hb:=hw w.heap.size (by simp)
   rw [show (w.drew.alloc (.cells (bytesRow bs (grownCap w bs.size 0 el)) el ((bytesRow bs (grownCap w bs.size 0 el)).size,(bytesRow bs (grownCap w bs.size 0 el)).size+1))).heap[w.heap.size]?=some (.cells (bytesRow bs (grownCap w bs.size 0 el)) el ((bytesRow bs (grownCap w bs.size 0 el)).size,(bytesRow bs (grownCap w bs.size 0 el)).size+1)) from heap_alloc_new w.drew _] at hb
   intro j v hv
   have hj:j<bs.data.size:=by
    have:=(List.getElem?_eq_some_iff.1 hv).1
    simpa [xd] using this
   have hv':v=.int .u8 (bs.data[j].toNat:Int):=by
    simp only [xd,List.map_map,List.getElem?_map,Array.getElem?_toList,Array.getElem?_eq_getElem hj,Option.map_some,g3q] at hv
    exact hv.symm
   unfold World.cell?
   simp only [hb]
   rw [hv']
   exact bytesRow_at bs _ j hj
 ·exact h.elim
theorem znf (w:World) (dT sT ty elem:TypeId) (g o dLen dCap:Nat) (a:Addr) (sLen sCap:Nat) (cur:Array Value) (t:TypeId) (cs:List Value) {j:TypeInfo}
 (hu:P.underlying dT=some (.slice elem)) (hs:P.info? elem=some j)
 (hg:w.heap[g]?=some (.cells cur t (0,0))) (hn:cs.length=Nat.min sLen dLen*j.size)
 (hsrc:∀ j v,cs[j]?=some v->w.cell? (a.add j)=some v) (hfit:o+cs.length<=cur.size) (h1:∀ v∈cs,v.oneCell'=true) :
 (Builtin.copy_ #[dT,sT] ty #[.slice (some ⟨g,o,none⟩) dLen dCap,.slice (some a) sLen sCap]).run P w =
  .ok (goInt (Nat.min sLen dLen)) (w.setRow g (cur.toList.take o++cs++cur.toList.drop (o+cs.length)).toArray):=by
 have hl:=run_loadCells_list (P:=P) w a cs hsrc
 have hst:=run_storeCells_at P g o t cs 0 cur w hg (by simpa using hfit) h1
 rw [Nat.add_zero] at hst
 simp [Builtin.copy_,run_underlying hu,Builtin.lenOf,Builtin.firstCells,sizeOf,typeInfo,hs,←hn,hl,hst]
theorem ztb {key:Nat} {ow:Own} {xs':List Value} {g n':Nat} {cur:Array Value} (hR:R w0 fp0 L w) (hb:zL key L=some ow) (ha:ow.a=some ⟨g,0,none⟩) (hg:w.heap[g]?=some (.cells cur ow.T (0,0)))
 (hn:n'<=ow.c) (hl:xs'.length=n'*ow.sz) {cur':Array Value} (hc:cur'.size=cur.size) (ht:cur'.toList.take xs'.length=xs'):R w0 fp0 (qp key ow.a n' ow.c xs' L) (w.setRow g cur'):=by
 have hrow:=qW hR hb
 obtain ⟨L',h1,h2⟩:=yj (a:=ow.a) (n:=ow.n) (c:=ow.c) (T:=ow.T) (sz:=ow.sz) (xs:=ow.xs) hb
 have hR':=hR.perm h1
 refine (R.write (w':=w.setRow g cur') (e':=.own key ow.a n' ow.c ow.T ow.sz xs') hR' (fun x hx=>by simpa [Ent.fp,ha,Value.ownBlock] using hx) (by simp [Ent.fp,ha,Value.ownBlock]) ?_ (by simp) rfl rfl rfl (Nat.le_refl _) (fun x hx=>setRow_other w g x _ (by simpa [Ent.fp,ha,Value.ownBlock] using hx))).perm (h2 _ _ _ _).symm
 obtain ⟨r1,r2⟩:=hrow
 refine ⟨hl,?_⟩
 rcases r2 with ⟨r2,_⟩|⟨g',cap,cur0,hv,_,hh,r3,r4,r5,r6⟩
 ·rw [ha] at r2;simp at r2
 ·rw [ha] at hv
  simp only [Value.slice.injEq,g3q,Addr.mk.injEq,and_true,true_and] at hv
  obtain ⟨rfl,hcap⟩:=hv
  rw [hg] at hh
  simp only [g3q,Obj.cells.injEq,and_true] at hh
  subst hh
  refine .inr ⟨g,_,cur',by rw [ha,hcap],Nat.zero_le _,setRow_heap w g _ _ ow.T (0,0) hg,by omega,r4,by rw [hc];exact r5,?_⟩
  rw [←hl];exact ht
theorem zog {cur cs vs:List Value} {off:Nat} (ht:cur.take cs.length=cs) (h:off<=cs.length):(zD cur off vs).take (zD cs off vs).length=zD cs off vs:=by
 have hle:cs.length<=cur.length:=by have:=congrArg List.length ht;simp at this;omega
 have e1:cur.take off=cs.take off:=by rw [←ht,List.take_take];congr 1;omega
 unfold zD
 rw [e1]
 by_cases hv:off+vs.length<=cs.length
 ·have e2:cs.drop (off+vs.length)=(cur.drop (off+vs.length)).take (cs.length - (off+vs.length)):=by
   conv=>lhs;rw [←ht]
   rw [List.drop_take]
  have e3:(cs.take off++vs).length=off+vs.length:=by rw [g6q,List.length_take];omega
  have e4:(cs.take off++vs++cs.drop (off+vs.length)).length=(cs.take off++vs).length+(cs.length - (off+vs.length)):=by rw [g6q,List.length_drop]
  rw [e4,List.take_length_add_append,←e2]
 ·have e5:cs.drop (off+vs.length)=[]:=List.drop_eq_nil_of_le (by omega)
  rw [e5,List.append_nil,List.take_left]
theorem zuL {t u el:TypeId} {x y:Operand} {j:TypeInfo} (ho:o.op=.call { callee:=.builtin .copy,args:=#[x,y],argTypes:=#[t,u] }) (ht:P.underlying t=some (.slice el)) (hj:P.info? el=some j)
 (hA:Agree n ds e a) (hR:R w0 fp0 L w) (h:VI P w0 fp0 (.cpn j.size (cX x) (cX y)) e L k):kK P w0 fp0 o a w k:=by
 simp only [VI] at h
 obtain ⟨s,hp,h⟩:=zw h
 obtain ⟨v,hq,h⟩:=zw h
 obtain ⟨key,h⟩:=h
 have ex:=zk hA hp
 have ey:=zk hA hq
 split at h
 ·rename_i ow hb
  obtain ⟨kk,dl,dc,sl,sc,n',b,ys,⟨h1,h2,h3,⟨h4,h5,h5',rfl,h6,h7⟩,⟨hl,hc⟩,hone⟩,hk⟩:=h
  rw [h1] at ex
  rw [h2] at ey
  generalize hm:Nat.min sl dl=m at *
  obtain ⟨hxl,_⟩:=qW hR hb
  rw [h3] at hxl
  have hmz:0<m*j.size:=Nat.mul_pos h6 h7
  have hkn:kk*j.size<=ow.n*j.size:=Nat.mul_le_mul_right _ h4
  have hkc:(kk+m)*j.size<=ow.c*j.size:=Nat.mul_le_mul_right _ h5
  rw [Nat.add_mul] at hkc
  have h0:0<ow.xs.length:=by rw [hxl];exact Nat.mul_pos h5' h7
  obtain ⟨g,cur,ha,hg,hle,hcs,_,_,htk⟩:=kT (qW hR hb) h0
  rw [h3] at hcs
  obtain ⟨ad,rfl,hcell⟩:∃ ad,b=some ad/\∀ i u,ys[i]?=some u->w.cell? (ad.add i)=some u:=by
   rcases hc with rfl|hc
   ·simp at hl;omega
   ·obtain ⟨b',off,rfl,hc'⟩:=hc w hR
    exact ⟨_,rfl,fun i u hu=>by rw [yR];exact hc' i u hu⟩
  have hoff:xc ow.a ow.c kk j.size=some ⟨g,kk*j.size,none⟩:=by
   unfold xc
   rw [if_neg (by omega),ha]
   simp [yR]
  rw [hoff] at ex
  have hrun:=znf (P:=P) w t u o.type el g (kk*j.size) dl dc ad sl sc cur ow.T ys ht hj hg (by rw [hm,←hl]) hcell (by omega) (kJ hone)
  rw [hm] at hrun
  have hset:R w0 fp0 (qp key ow.a (max ow.n (kk+m)) ow.c (zD ow.xs (kk*j.size) ys) L) (w.setRow g (zD cur.toList (kk*j.size) ys).toArray):=by
   refine ztb hR hb ha hg (by omega) ?_ (by simp [yL (cs:=cur.toList) (vs:=ys) (off:=kk*j.size) (by simp;omega)]) ?_
   ·simp only [zD,g6q,List.length_take,List.length_drop]
    rw [h3,Nat.max_def]
    split
    ·rw [Nat.add_mul];have:ow.n*j.size<=(kk+m)*j.size:=Nat.mul_le_mul_right _ (by assumption);rw [Nat.add_mul] at this;omega
    ·have:(kk+m)*j.size<=ow.n*j.size:=Nat.mul_le_mul_right _ (by omega);rw [Nat.add_mul] at this;omega
   ·exact zog htk (by omega)
  refine ⟨.int .i64 (m:Int),_,?_,.v (.int .i64 (m:Int)),_,rfl,hset,hk⟩
  simp only [execOp,ho,resolve,invoke,builtin,Sem.run_bind,Sem.run_pure,Result.andThen_ok,List.map_toArray,List.map_cons,List.map_nil,ex,ey,hrun,goInt,zD]
 ·exact h.elim
end
end Go.EG
