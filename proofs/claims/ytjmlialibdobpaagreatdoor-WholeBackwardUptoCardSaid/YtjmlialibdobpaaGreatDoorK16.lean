/- A range over a function, in terms of what is known of the heap; functions that end with marks. Generic over the program: no condition. -/
import Derived.Test.YtjmlialibdobpaaGreatDoorK2
import Derived.RangeFuncRecord
import Derived.RangeFuncLeaves
import Derived.TacticsIn
import Derived.Test.YtjmlialibdobpaaGreatDoorK11
import Derived.Test.YtjmlialibdobpaaGreatDoorK12
import Derived.Test.YtjmlialibdobpaaGreatDoorK13
import Derived.Test.YtjmlialibdobpaaGreatDoorK14
import Derived.Test.YtjmlialibdobpaaGreatDoorK15
set_option linter.unusedSectionVars false
set_option linter.unusedVariables false
set_option linter.unusedSimpArgs false
namespace Go.EG
open Go.RowKit
section
variable {P:Program} {w0:World} {fp0:List Nat} {n m:Nat} {ds:List Deferred} {e:Env} {a:Act} {L:List Ent} {w:World} {o:Oper} {i:I} {fl:List Nat} {ts:List (Nat × Tr)}
abbrev FW (ro:Option Nat):Fence:={ Fence.wide with round:=ro }
theorem zrv {ro:Option Nat} {f:FuncId} {args:Array Value} {R':Ending->World->Prop} (h:Calls P f args w R'):CallsIn (FW ro) m P f args w R' :=
 ⟨trivial,fun cs _=>((callsIn_wide (n:=m)).2 h).2 cs (room_wide _)⟩
theorem zl6 {ro:Option Nat} {k:SV->List Ent->Prop} {K:Act->World->Prop} {Q:Exit->Act->World->Prop} (hdf:∀ c,o.op≠.defer c) (h:zkB P w0 fp0 o a w i k) (hK:∀ s L' w',R w0 fp0 L' w'->k s L'->K (a.put o.dst s.val) w'):o.wpIn (FW ro) m P a w K Q:=by
 refine ⟨fun _ _=>trivial,?_⟩
 rw [Oper.semAt_eq _ _ _ hdf]
 rcases h with ⟨v,h1,s,L',rfl,hR,hk⟩|⟨_,v,w',h1,s,L',rfl,hR,hk⟩|⟨_,w',h1,s,L',hs,hR,hk⟩|⟨_,f,args,h1,h2⟩
 ·rw [h1];exact hK s L' _ hR hk
 ·rw [h1];exact hK s L' _ hR hk
 ·rw [h1];show K (a.put o.dst undef) w';rw [←hs];exact hK s L' _ hR hk
 ·rw [h1]
  refine ⟨(fun h=>by cases h),zrv (h2.mono fun e w' ⟨v,he,s,L',hs,hR,hk⟩=>?_)⟩
  subst he
  show K (a.put o.dst v) w'
  rw [←hs]
  exact hK s L' _ hR hk
theorem zrw {P:Program} {f:Bool} {d:Option Nat} {op:Op} {i:I} (h:cI P f d op=some i):∀ c,op≠.defer c:=by
 rintro c rfl
 simp [cI] at h
theorem zsV {ro:Option Nat} {ops:Array Oper} {io:Gop} {K:Env->List Ent->Prop} {K':Act->World->Prop} {Q:Exit->Act->World->Prop} (hc:zdm P n ops fl o io) (hA:Agree n ds e a) (hR:R w0 fp0 L w) (h:VO P w0 fp0 io e L K)
 (hK:∀ e' a' L' w',Agree n ds e' a'->R w0 fp0 L' w'->K e' L'->K' a' w'):if Region.wanted o (yielded ops a.tmps) then o.wpIn (FW ro) m P a w K' Q else (∀ f,o.about P w a.eval=some f->(FW ro).fn f)/\K' (a.put o.dst undef) w:=by
 obtain ⟨⟨f,hci⟩,hd,hok,hg⟩:=hc
 have hdf:=zrw hci
 cases hgo:o.guard with
 | none =>
   rw [hgo] at hg
   simp only at hg
   have hw:Region.wanted o (yielded ops a.tmps)=true:=by simp [Region.wanted,hgo]
   rw [if_pos hw]
   rcases zmW h with ⟨_,h⟩|⟨g,want,hg',_⟩
   ·exact zl6 hdf (zef hci hA hR (zjE h)) fun s L' w' hR' hk=>by
     obtain ⟨s',hs',hk⟩:=uR hk
     exact hK _ _ _ _ (xi hA hok hs') hR' (by rw [←hd];exact hk)
   ·rw [hg] at hg';cases hg'
 | some p =>
   obtain ⟨j,want⟩:=p
   rw [hgo] at hg
   obtain ⟨g,hj,hg⟩:=hg
   rcases zmW h with ⟨hg',_⟩|⟨g',want',hg',h⟩
   ·rw [hg] at hg';cases hg'
   rw [hg] at hg'
   simp only [g3q,Prod.mk.injEq] at hg'
   obtain ⟨rfl,rfl⟩:=hg'
   rcases zdG h with ⟨b,hb,h1,h2⟩|⟨vs,hb,h⟩
   ·rw [jf hA hgo hj hb]
    by_cases hbw:b=want
    ·rw [if_pos (by simp [hbw])]
     have hA':=uS hA (by rw [hbw] at hb;exact hb)
     exact zl6 hdf (zef hci hA' hR (zjE (h1 hbw))) fun s L' w' hR' hk=>by
      obtain ⟨s',hs',hk⟩:=uR hk
      exact hK _ _ _ _ (xi hA' hok hs') hR' (by rw [←hd];exact hk)
    ·have hbn:b=!want:=by cases b<;>cases want<;>simp_all
     rw [if_neg (by simp [hbw])]
     have hA':=uS hA (by rw [hbn] at hb;exact hb)
     exact ⟨fun _ _=>trivial,hK _ _ _ _ (xi hA' hok rfl) hR (by rw [←hd];exact h2 hbn)⟩
   ·rw [zcr hA hgo hj hb,if_neg (by simp)]
    exact ⟨fun _ _=>trivial,hK _ _ _ _ (xi hA hok rfl) hR (by rw [←hd];exact h)⟩
theorem zaS {ro:Option Nat} {ops:Array Oper} {Q:Exit->Act->World->Prop} {K:Env->List Ent->Prop} {rest:List Oper} (hrest:∀ e a L w,Agree n ds e a->R w0 fp0 L w->K e L->wpListIn (FW ro) m P ops Q rest a w) :
 ∀ {l:List Oper} {l':List Gop} {e:Env} {a:Act} {L:List Ent} {w:World},CompL P n ops fl l l'->Agree n ds e a->R w0 fp0 L w->VL P w0 fp0 l' e L K->wpListIn (FW ro) m P ops Q (l++rest) a w
 | [],_,e,a,L,w,hc,hA,hR,h => by
   cases hc
   exact hrest e a L w hA hR h
 | o :: l,_,e,a,L,w,hc,hA,hR,h => by
   cases hc with
   | cons h1 h2 =>
     refine wpListIn_step fun K' hK'=>?_
     exact zsV h1 hA hR h fun e' a' L' w' hA' hR' hk=>hK' _ _ (zaS hrest h2 hA' hR' hk)
def kN (G:Env->List Ent->Prop):Exit->Env->List Ent->Prop
 | .normal,e,L=>G e L
 | _,_,_=>False
def kE (id:Nat) (G G1:Env->List Ent->Prop):Exit->Env->List Ent->Prop
 | .normal,e,L=>G e L
 | .exit i,e,L=>i=id/\G1 e L
 | _,_,_=>False
theorem wpK {c:Code} {c':C} {K:Exit->Env->List Ent->Prop} {Q:Exit->Act->World->Prop} (hc:cC P n fl ts c=some c') (hA:Agree n ds e a) (hR:R w0 fp0 L w) (h:VC P w0 fp0 c' K e L)
 (hq:∀ x a w e L,Agree n ds e a->R w0 fp0 L w->K x e L->Q x a w):c.wp P Q a w:=by
 refine Code.wp_mono (fun x a w hq'=>?_) (zaY hc hA hR h)
 cases x with
 | normal=>obtain ⟨e,L,hA,hR,hk⟩:=hq';exact hq _ _ _ _ _ hA hR hk
 | exit id=>obtain ⟨e,L,hA,hR,hk⟩:=hq';exact hq _ _ _ _ _ hA hR hk
 | ret=>obtain ⟨e,L,hA,hR,hk⟩:=hq';exact hq _ _ _ _ _ hA hR hk
 | goto l=>exact hq'.elim
 | panic ch=>exact hq'.elim
 | outgrown=>exact hq'.elim
theorem u5 {c rest:Code} {c':C} {G:Env->List Ent->Prop} {Q:Exit->Act->World->Prop} (hc:cC P n fl ts c=some c') (hA:Agree n ds e a) (hR:R w0 fp0 L w) (h:VC P w0 fp0 c' (kN G) e L)
 (hq:∀ e a L w,Agree n ds e a->R w0 fp0 L w->G e L->rest.wp P Q a w):(c.seq rest).wp P Q a w:=by
 refine wp_seq (wpK hc hA hR h fun x a w e L hA hR hk=>?_)
 cases x with
 | normal=>exact hq _ _ _ _ hA hR hk
 | _=>exact hk.elim
theorem zoO {id:Nat} {c rest:Code} {c':C} {G G1:Env->List Ent->Prop} {Q:Exit->Act->World->Prop} (hc:cC P n fl ts c=some c') (hA:Agree n ds e a) (hR:R w0 fp0 L w) (h:VC P w0 fp0 c' (kE id G G1) e L)
 (hq:∀ e a L w,Agree n ds e a->R w0 fp0 L w->G e L->rest.wp P Q a w) (hx:∀ e a L w,Agree n ds e a->R w0 fp0 L w->G1 e L->Q (.exit id) a w):(c.seq rest).wp P Q a w:=by
 refine wp_seq (wpK hc hA hR h fun x a w e L hA hR hk=>?_)
 cases x with
 | normal=>exact hq _ _ _ _ hA hR hk
 | exit i=>obtain ⟨rfl,hk⟩:=hk;exact hx _ _ _ _ hA hR hk
 | _=>exact hk.elim
def lpE (l D:Nat) (fn:FuncId) (a:Act) (ps:Array Tmp) (assign body:Code) (st:LoopState):Ent:=.abs 9001 [l] fun w=>w.heap[l]?=some (.loop { state:=st,pending:=none,fn,tmps:=a.tmps,params:=ps,assign,body,defers:=D })
def dfE (D:Nat):Ent:=.abs 9002 [D] fun w=>w.heap[D]?=some (.deferred (some []))
def dfD (D:Nat):Deferred:={ target:=.collected D,args:=#[] }
theorem zeG {k b:Nat} {p:Option Obj->Prop} (h:p w.heap[b]?):(Ent.abs k [b] fun w=>p w.heap[b]?).ok w:=fun w' hs=>by
 show p w'.heap[b]?
 rw [hs b (by simp)];exact h
theorem zuE {g:Operand} {ps:Array Tmp} {assign body:Code} {Q:Exit->Act->World->Prop} {gf:Nat} {lb:Array Value} {L':List Ent} (hg:a.eval g=.func (.func gf) #[] lb) (hf:zid P gf=true) (hR:R w0 fp0 L w)
 (hcall:∀ l D fn W1,R w0 fp0 (lpE l D fn a ps assign body .ready::dfE D::L) W1->CallsIn (FW none) 0 P gf (#[.func (.yield l) #[] #[]]++lb) W1 fun e W2=>(∃ v,e=.returned v)/\R w0 fp0 (lpE l D fn a ps assign body .ready::dfE D::L') W2)
 (hdone:∀ D W,R w0 fp0 (dfE D::L') W->Q .normal { a with defers:=dfD D::a.defers } W) :
 (Code.rangeFunc g ps assign body).wp P Q a w:=by
 refine (wpIn_wide (n:=1)).1 (wpIn_rangeFunc ?_)
 intro fn hfn
 obtain ⟨W1,hW1⟩:∃ W1,(w.alloc (.deferred (some []))).alloc (.loop { state:=.ready,pending:=none,fn,tmps:=a.tmps,params:=ps,assign,body,defers:=w.heap.size })=W1:=⟨_,rfl⟩
 have hR0:R w0 fp0 (dfE w.heap.size::L) (w.alloc (.deferred (some []))):=hR.alloc _ _ rfl (zeG (p:=fun o=>o=some (.deferred (some []))) (heap_alloc_new w _))
 have hR1:R w0 fp0 (lpE (w.heap.size+1) w.heap.size fn a ps assign body .ready::dfE w.heap.size::L) W1:=by
  rw [←hW1]
  refine hR0.alloc _ _ (by rw [World.size_alloc];rfl) ?_
  refine zeG (p:=fun o=>o=some (.loop { state:=.ready,pending:=none,fn,tmps:=a.tmps,params:=ps,assign,body,defers:=w.heap.size })) ?_
  have:=heap_alloc_new (w.alloc (.deferred (some []))) (.loop { state:=.ready,pending:=none,fn,tmps:=a.tmps,params:=ps,assign,body,defers:=w.heap.size })
  rwa [World.size_alloc] at this
 refine ⟨w.heap.size+1,[dfD w.heap.size],W1,{ target:=.fn (.func gf) lb,args:=#[.func (.yield (w.heap.size+1)) #[] #[]] },W1,gf,
  #[.func (.yield (w.heap.size+1)) #[] #[]]++lb,W1,?_,?_,fun _ _=>trivial,?_,fun _=>Nat.le_refl _,?_⟩
 ·rw [←hW1];exact run_enterLoop_outer _ _ _ _ _
 ·simp only [resolve,hg]
  simp [go_sem]
 ·simp [invoke,zdh hf]
 ·refine (hcall _ _ fn W1 hR1).mono ?_
  rintro e W2 ⟨⟨v,rfl⟩,hR2⟩
  have hl:W2.heap[w.heap.size+1]?=some (.loop { state:=.ready,pending:=none,fn,tmps:=a.tmps,params:=ps,assign,body,defers:=w.heap.size }):=Ent.abs_ok (hR2.ok _ g5q)
  refine ⟨none,_,run_endLoop hl (by simp),?_⟩
  refine hdone _ _ ?_
  have hlt:w.heap.size+1<W2.heap.size:=(Array.getElem?_eq_some_iff.1 hl).1
  refine R.tail (e:=.abs 9001 [w.heap.size+1] fun w=>True) ?_
  exact R.write hR2 (fun x hx=>hx) (by simp [Ent.fp]) (fun _ _=>trivial) (by simp) rfl rfl rfl (Nat.le_refl _) (fun b hb=>World.putObj_heap_other (by simpa [lpE,Ent.fp] using hb))
theorem zpO {l D:Nat} {fn:FuncId} {p i1 i2 i3:Nat} {opsA opsB:Array Oper} {la lb:List Gop} {H:List Ent} {v:Value} {G:List Ent->Prop} (hR:R w0 fp0 (lpE l D fn a #[p] (.region i1 opsA false) (.block i2 (.region i3 opsB false)) .ready::dfE D::H) w) (hA:Agree n ds e a) (hp:p<n)
 (ha:jk P n opsA fl opsA.toList=some la) (hb:jk P n opsB fl opsB.toList=some lb)
 (h:VL P w0 fp0 la ((p,.v v)::e) (lpE l D fn a #[p] (.region i1 opsA false) (.block i2 (.region i3 opsB false)) .ready::dfE D::H) fun e' L'=>∃ H',L'=lpE l D fn a #[p] (.region i1 opsA false) (.block i2 (.region i3 opsB false)) .ready::dfE D::H' /\
  VL P w0 fp0 lb e' (lpE l D fn a #[p] (.region i1 opsA false) (.block i2 (.region i3 opsB false)) .busy::dfE D::H') fun _ L''=>∃ H'',L''=lpE l D fn a #[p] (.region i1 opsA false) (.block i2 (.region i3 opsB false)) .busy::dfE D::H''/\G H'') :
 ∃ f' tmps assign body,(Instr.yield l #[v]).run P w=.ok (.round l f' tmps assign body) w/\RoundIn (FW none) m P l f' tmps assign body w fun e' w'=>e'=.returned (.bool true)/\∃ H'',G H''/\R w0 fp0 (lpE l D fn a #[p] (.region i1 opsA false) (.block i2 (.region i3 opsB false)) .ready::dfE D::H'') w':=by
 have hl:w.heap[l]?=some (.loop { state:=.ready,pending:=none,fn,tmps:=a.tmps,params:=#[p],assign:=.region i1 opsA false,body:=.block i2 (.region i3 opsB false),defers:=D }):=Ent.abs_ok (hR.ok _ g5q)
 refine ⟨_,_,_,_,run_yield hl rfl,roundIn_of_wpIn trivial ?_⟩
 have hA0:Agree n [] ((p,.v v)::e) { tmps:=(#[p].zip #[v]).foldl (fun t (q:Nat × Value)=>t.setIfInBounds q.1 q.2) a.tmps,defers:=[] }:=by
  have h1:Agree n [] e { tmps:=a.tmps,defers:=[] }:=⟨hA.size,rfl,hA.at_⟩
  have h2:=h1.put (s:=.v v) hp rfl
  simpa [Act.put,SV.val] using h2
 refine wpIn_region_list (F:=FW (some l)) ?_
 rw [←List.append_nil opsA.toList]
 refine zaS (fun e1 a1 L1 w1 hA1 hR1 hk=>?_) (xN ha) hA0 hR h
 obtain ⟨H',rfl,hk⟩:=hk
 have hl1:w1.heap[l]?=some (.loop { state:=.ready,pending:=none,fn,tmps:=a.tmps,params:=#[p],assign:=.region i1 opsA false,body:=.block i2 (.region i3 opsB false),defers:=D }):=Ent.abs_ok (hR1.ok _ g5q)
 have hlt1:l<w1.heap.size:=(Array.getElem?_eq_some_iff.1 hl1).1
 refine ⟨_,run_beginRound hl1 rfl,?_⟩
 have hR2:R w0 fp0 (lpE l D fn a #[p] (.region i1 opsA false) (.block i2 (.region i3 opsB false)) .busy::dfE D::H') (w1.putObj l (.loop { state:=.busy,pending:=none,fn,tmps:=a.tmps,params:=#[p],assign:=.region i1 opsA false,body:=.block i2 (.region i3 opsB false),defers:=D })) :=
  R.write hR1 (fun x hx=>hx) (by simp [lpE,Ent.fp]) (zeG (p:=fun o=>o=some (.loop { state:=.busy,pending:=none,fn,tmps:=a.tmps,params:=#[p],assign:=.region i1 opsA false,body:=.block i2 (.region i3 opsB false),defers:=D })) (World.putObj_heap_same hlt1)) (by simp) rfl rfl rfl (Nat.le_refl _) (fun b hb=>World.putObj_heap_other (by simpa [lpE,Ent.fp] using hb))
 refine wpIn_block (F:=FW (some l)) (wpIn_region_list ?_)
 rw [←List.append_nil opsB.toList]
 refine zaS (fun e2 a2 L2 w2 hA2 hR3 hk2=>?_) (xN hb) hA1 hR2 hk
 obtain ⟨H'',rfl,hk2⟩:=hk2
 have hl2:w2.heap[l]?=some (.loop { state:=.busy,pending:=none,fn,tmps:=a.tmps,params:=#[p],assign:=.region i1 opsA false,body:=.block i2 (.region i3 opsB false),defers:=D }):=Ent.abs_ok (hR3.ok _ g5q)
 have hlt2:l<w2.heap.size:=(Array.getElem?_eq_some_iff.1 hl2).1
 refine ⟨_,_,run_endRound none hl2,rfl,H'',hk2,?_⟩
 exact R.write hR3 (fun x hx=>hx) (by simp [lpE,Ent.fp]) (zeG (p:=fun o=>o=some (.loop { state:=.ready,pending:=none,fn,tmps:=a.tmps,params:=#[p],assign:=.region i1 opsA false,body:=.block i2 (.region i3 opsB false),defers:=D })) (World.putObj_heap_same hlt2)) (by simp) rfl rfl rfl (Nat.le_refl _) (fun b hb=>World.putObj_heap_other (by simpa [lpE,Ent.fp] using hb))
theorem zgZ {fn:Func} {R':Ending->World->Prop} {tmps:Array Value}:∀ {Ds:List Nat} {w:World} {L:List Ent},R w0 fp0 (Ds.map dfE++L) w->(∀ w',R w0 fp0 L w'->LeavesInM Fence.wide m P fn tmps R' [] .returning w')->LeavesInM Fence.wide m P fn tmps R' (Ds.map dfD) .returning w
 | [],w,L,hR,h=>h w hR
 | D :: Ds,w,L,hR,h => by
   have hl:w.heap[D]?=some (.deferred (some [])):=Ent.abs_ok (hR.ok _ g5q)
   refine ⟨by simp,.inl ⟨D,_,rfl,run_takeDeferred hl,zgZ (L:=L) ?_ h⟩⟩
   refine R.tail (e:=.abs 9002 [D] fun w=>True) ?_
   exact R.write (L:=Ds.map dfE++L) hR (fun x hx=>hx) (by simp [Ent.fp]) (fun _ _=>trivial) (by simp) rfl rfl rfl (Nat.le_refl _) (fun b hb=>World.putObj_heap_other (by simpa [dfE,Ent.fp] using hb))
theorem zpP {f:FuncId} {fn:Func} {c:Code} {l:List SV} {R':Ending->World->Prop} (hf:P.funcs[f]?=some fn) (hb:fn.body=some c) (hn:fn.ntmps=n) (hl:l.length<=n)
 (h:∀ a,Agree n [] (uc 0 l) a->c.wp P (bodyPostM Fence.wide 0 P fn R') a w):Calls P f (l.map SV.val).toArray w R':=by
 subst hn
 exact callsIn_wide.1 (callsIn_of_wp_marks (n:=0) hf hb trivial (wpIn_wide.2 (h _ (zdI hl))))
theorem zsW {fn:Func} {rs:List RV} {Ds:List Nat} {K:Value->List Ent->Prop} (hrs:zdH P fn.results.toList=some rs) (hA:Agree n (Ds.map dfD) e a) (hR:R w0 fp0 (Ds.map dfE++L) w) (hk:zim rs e L (fun l=>znD l fun v=>Stop (K v L))) :
 LeavesInM Fence.wide m P fn a.tmps (fun x w'=>∃ v L',x=.returned v/\R w0 fp0 L' w'/\K v L') a.defers .returning w:=by
 rw [hA.defers]
 refine zgZ hR fun w' hR'=>?_
 obtain ⟨l,hkl,hrun⟩:=zct (P:=P) (w:=w') hA hR' hrs hk
 refine ⟨zgm l,?_,_,L,rfl,hR',(zlN hkl).h⟩
 have e1:results fn a.tmps=(do let vs ←fn.results.mapM (zkJ a);pure (if h:vs.size=1 then vs[0] else .tuple vs)):=rfl
 rw [e1,Array.mapM_eq_mapM_toList]
 simp only [map_eq_pure_bind,bind_assoc,pure_bind,Sem.run_bind]
 rw [hrun]
 simp only [Result.andThen_ok,Sem.run_pure]
 match l with
 | []=>rfl
 | [v]=>rfl
 | v::v'::l=>simp [zgm]
end
end Go.EG
namespace Go.Proofs.YtjmlialibdobpaaGreatDoor
section
open Go.EG
attribute [local irreducible] zT yE Go.Calls
set_option maxRecDepth 20000
set_option maxHeartbeats 4000000
theorem zfK {x r:Nat} (hx:x<18446744073709551616):((x:Int)/((2 ^ r:Nat):Int)=((x/2 ^ r:Nat):Int))/\(0<=((x/2 ^ r:Nat):Int)/\((x/2 ^ r:Nat):Int)<=18446744073709551615/\(0:Int)<=1/\(1:Int)<=18446744073709551615):=by
 have:=Nat.lt_of_le_of_lt (Nat.div_le_self x (2 ^ r)) hx
 refine ⟨by rw [Int.natCast_ediv],?_⟩
 generalize x/2 ^ r=y at *
 exact ⟨by omega,by omega,by omega,by omega⟩
theorem zhp {x r:Nat}:decide (((((x/2 ^ r:Nat):Int).toNat&&&(1:Int).toNat:Nat):Int)=1)=x.testBit r:=by
 rw [Nat.testBit_eq_decide_div_mod_eq,decide_eq_decide,g7q,show (1:Int).toNat=1 from rfl,Nat.and_one_is_mod]
 omega
theorem zsX (s:Ls) (b:Nat) (hb:b<256) (w:World):Calls Tryz.prog jF #[s.v,.int .u8 b] w fun e w'=>e=.returned (.bool (s.has b))/\Ext w w':=by
 refine zF [.v s.v,.v (.int .u8 b)] w zi6 (by simp) ?_
 have h4:b/64=0∨b/64=1∨b/64=2∨b/64=3:=by omega
 have hm:((b:Int)%64).toNat=b%64:=by omega
 have hm0:(b:Int).tmod 64=(b:Int)%64:=Int.tmod_eq_emod_of_nonneg (by omega)
 have hbk:0<=(b:Int)%64/\(b:Int)%64<=biK .u64:=⟨by omega,show (b:Int)%64<=64 by omega⟩
 have hh:∀ {i x:Nat},b/64=i->s.w i=x->s.has b=x.testBit (b%64):=fun h1 h2=>by unfold Ls.has;rw [h1,h2]
 have s1:=s.ha;have s2:=s.hb;have s3:=s.hc;have s4:=s.hd
 rcases h4 with h4|h4|h4|h4
 ·have e:((b:Int)/64).toNat=0:=by omega
  obtain ⟨q1,q2⟩:=zfK (r:=b%64) s1
  rw [hh h4 rfl,←zhp]
  (repeat' ((conv=>whnf);first|rw [e]|rw [hm]|rw [q1]|((first|apply zc|apply za|apply zd)<;>intro h<;>try (exfalso;omega))|refine pay ?_|refine And.intro (by first|exact hbk|exact q2) ?_|intro _));(all_goals (conv=>whnf))
  exact ⟨rfl⟩
 ·have e:((b:Int)/64).toNat=1:=by omega
  obtain ⟨q1,q2⟩:=zfK (r:=b%64) s2
  rw [hh h4 rfl,←zhp]
  (repeat' ((conv=>whnf);first|rw [e]|rw [hm]|rw [q1]|((first|apply zc|apply za|apply zd)<;>intro h<;>try (exfalso;omega))|refine pay ?_|refine And.intro (by first|exact hbk|exact q2) ?_|intro _));(all_goals (conv=>whnf))
  exact ⟨rfl⟩
 ·have e:((b:Int)/64).toNat=2:=by omega
  obtain ⟨q1,q2⟩:=zfK (r:=b%64) s3
  rw [hh h4 rfl,←zhp]
  (repeat' ((conv=>whnf);first|rw [e]|rw [hm]|rw [q1]|((first|apply zc|apply za|apply zd)<;>intro h<;>try (exfalso;omega))|refine pay ?_|refine And.intro (by first|exact hbk|exact q2) ?_|intro _));(all_goals (conv=>whnf))
  exact ⟨rfl⟩
 ·have e:((b:Int)/64).toNat=3:=by omega
  obtain ⟨q1,q2⟩:=zfK (r:=b%64) s4
  rw [hh h4 rfl,←zhp]
  (repeat' ((conv=>whnf);first|rw [e]|rw [hm]|rw [q1]|((first|apply zc|apply za|apply zd)<;>intro h<;>try (exfalso;omega))|refine pay ?_|refine And.intro (by first|exact hbk|exact q2) ?_|intro _));(all_goals (conv=>whnf))
  exact ⟨rfl⟩
def zyh (s:Ls) (v:Value) (L1:List Ent):Prop:=∃ b,v=.func (.func xE) #[] #[.pointer (some ⟨b,0,none⟩)]/\L1=[.box 1 b s.cells zj]
theorem zsY (s:Ls) (w:World):Calls Tryz.prog jD #[s.v] w fun e w'=>∃ v L1,e=.returned v/\R w [] L1 w'/\zyh s v L1:=by
 refine zQ [.v s.v] zi2 (by simp) ?_
 (repeat' ((conv=>whnf);first|((first|apply zc|apply za|apply zd)<;>intro h<;>try (exfalso;omega))|refine pay ?_|intro _));(all_goals (conv=>whnf))
 exact ⟨⟨_,Ref.takes [1] rfl (.refl _),_,rfl,rfl⟩⟩
def zuF:Code->Array Oper
 | .region _ ops _=>ops
 | _=>#[]
noncomputable def zrx:Code:=Tryz.f119.body.getD .skip
noncomputable def zsZ:Code:=sq1 zrx
noncomputable def zg0:Code:=blc (sq2 zrx)
noncomputable def zs0:Code:=sq1 zg0
noncomputable def k119_m:Code:=blc (sq1 (sq2 zg0))
noncomputable def zs1:Code:=sq2 (sq2 zg0)
noncomputable def k119_c:Code:=sq2 k119_m
noncomputable def ops119:Array Oper:=zuF (sq1 k119_m)
noncomputable def o119 : Oper := ops119.toList.getD 8 { dst := none, op := .move (.tmp 0), type := 0, pos := "", after := #[], guard := none }
set_option maxRecDepth 100000 in
theorem zyi:zrx=.seq zsZ (.block 0 (.loop zg0)):=by kernel_rfl
set_option maxRecDepth 100000 in
theorem zxg:zg0=.seq zs0 (.seq (.block 1 k119_m) zs1):=by kernel_rfl
set_option maxRecDepth 100000 in
theorem zxh:k119_m=.seq (.region 3 ops119 false) k119_c:=by kernel_rfl
set_option maxRecDepth 100000 in
theorem zxi:ops119.toList=ops119.toList.take 8++(o119::(ops119.toList.drop 9++[])):=by kernel_rfl
def zxj:C:=.reg [⟨some 3,none,.mv (.c (.int .i64 0))⟩]
def zxk:C:=.seq (.reg [⟨some 4,none,.mv (.t 3)⟩,⟨some 5,none,.cmp .lss .i64 (.t 4) (.c (.int .i64 256))⟩]) (.cond (.t 5) .skip (.exit 0))
def zxO:List Gop:=[⟨(some 8),none,(.lda 4 [(.int .u64),(.int .u64),(.int .u64),(.int .u64)] (.t 1))⟩,⟨(some 9),none,(.mv (.t 3))⟩,⟨(some 10),none,(.cv .u8 (.t 9))⟩,⟨(some 11),none,(.call jF [(.t 8),(.t 10)])⟩,⟨(some 12),none,(.mv (.t 11))⟩,⟨(some 13),(some (12,true)),(.mv (.t 0))⟩,⟨(some 14),(some (12,true)),(.mv (.t 3))⟩,⟨(some 15),(some (12,true)),(.cv .u8 (.t 14))⟩]
def zxP:List Gop:=[⟨(some 17),(some (12,true)),(.not (.t 16))⟩,⟨(some 18),none,(.pick (.t 12) (.t 17) (.c (.bool false)))⟩]
def zxl:C:=.cond (.t 18) .ret .skip
def zxm:C:=.reg [⟨some 6,none,.mv (.t 3)⟩,⟨some 7,none,.ar .add .i64 (.t 6) (.c (.int .i64 1))⟩,⟨some 3,none,.mv (.t 7)⟩]
set_option maxRecDepth 100000 in
theorem zxn:cC Tryz.prog 19 [] [] zsZ=some zxj:=by kernel_rfl
set_option maxRecDepth 100000 in
theorem zxo:cC Tryz.prog 19 [] [] zs0=some zxk:=by kernel_rfl
set_option maxRecDepth 100000 in
theorem zs2:jk Tryz.prog 19 ops119 [] (ops119.toList.take 8)=some zxO:=by kernel_rfl
set_option maxRecDepth 100000 in
theorem zs3:jk Tryz.prog 19 ops119 [] (ops119.toList.drop 9)=some zxP:=by kernel_rfl
set_option maxRecDepth 100000 in
theorem zxp:cC Tryz.prog 19 [] [] k119_c=some zxl:=by kernel_rfl
set_option maxRecDepth 100000 in
theorem zxq:cC Tryz.prog 19 [] [] zs1=some zxm:=by kernel_rfl
set_option maxRecDepth 100000 in
theorem zyj:o119.guard=some (4,true)/\o119.dst=some 16/\o119.op=.call { callee:=.value (.tmp 13),args:=#[.tmp 15],argTypes:=#[5] }/\(ops119[4]?).bind (·.dst)=some 12:=⟨by kernel_rfl,by kernel_rfl,by kernel_rfl,by kernel_rfl⟩
abbrev zd7 (l:Nat):Value:=.func (.yield l) #[] #[]
abbrev zg1 (l bx b:Nat):Env:=[(0,.v (zd7 l)),(1,.ptr 1 bx 0),(3,.v (.int .i64 (b:Int)))]
theorem zry (s:Ls) (bx l b:Nat) {w0 w:World} {fp0:List Nat} {a:Act} {Q:Exit->Act->World->Prop} (Gb Gc:List Ent) (hb:b<256)
 (hy:s.has b=true->∀ W,R w0 fp0 (.box 1 bx s.cells zj::Gb) W->∃ f' tmps asg bd,(Instr.yield l #[.int .u8 (b:Int)]).run Tryz.prog W=.ok (.round l f' tmps asg bd) W /\
  RoundIn (FW none) 0 Tryz.prog l f' tmps asg bd W fun e W'=>e=.returned (.bool true)/\R w0 fp0 (.box 1 bx s.cells zj::Gc) W')
 (hn:s.has b=false->Gc=Gb) (hA:Agree 19 [] (zg1 l bx b) a) (hR:R w0 fp0 (.box 1 bx s.cells zj::Gb) w)
 (hq:∀ a w,Agree 19 [] (zg1 l bx b) a->R w0 fp0 (.box 1 bx s.cells zj::Gc) w->Q .normal a w):k119_m.wp Tryz.prog Q a w:=by
 obtain ⟨g1,g2,g3,g4⟩:=zyj
 rw [zxh]
 refine wp_seq ((wpIn_wide (n:=0)).1 (wpIn_region_list ?_))
 have fin:∀ e a L w,Agree 19 [] e a->R w0 fp0 L w->Stop (xk ((18,.v (.bool false))::zg1 l bx b) e/\Ref w0 fp0 L (.box 1 bx s.cells zj::Gc)) ->
  wpListIn (FW none) 0 Tryz.prog ops119 (Exit.then (k119_c.wp Tryz.prog Q) Q) [] a w:=by
  rintro e a L w hA hR ⟨hs,hr⟩
  refine wpListIn_nil ?_
  refine wpK (K:=kN fun e L=>Stop (xk (zg1 l bx b) e/\Ref w0 fp0 L (.box 1 bx s.cells zj::Gc))) zxp (zU hA hs) (hr _ hR) (by (repeat' ((conv=>whnf);first|((first|apply zc|apply za|apply zd)<;>intro h<;>try (exfalso;omega))|refine pay ?_|intro _));(all_goals (conv=>whnf));exact ⟨⟨by (repeat ((conv=>whnf);refine vS ?_));exact trivial,Ref.refl _⟩⟩) ?_
  rintro x a w e L hA hR hk
  cases x with
  | normal=>obtain ⟨hs,hr⟩:=hk;exact hq _ _ (zU hA hs) (hr _ hR)
  | _=>exact hk.elim
 have cH:=fun w=>zsX s b hb w
 have hb8:(b:Int)%256=b:=by omega
 rw [zxi]
 cases hh:s.has b with
 | true =>
   rw [hh] at cH
   refine zaS (ro:=none) (m:=0) (ds:=[]) (K:=fun e L=>Stop (xk [(0,.v (zd7 l)),(1,.ptr 1 bx 0),(3,.v (.int .i64 (b:Int))),(12,.v (.bool true)),(13,.v (zd7 l)),(15,.v (.int .u8 (b:Int)))] e/\Ref w0 fp0 L (.box 1 bx s.cells zj::Gb))) ?_ (xN zs2) hA hR ?_
   ·rintro e a L w hA hR ⟨hs,hr⟩
    have hA:=zU hA hs
    have hR:=hr _ hR
    clear hs hr
    refine wpListIn_step fun K' hK'=>?_
    rw [jf hA g1 g4 rfl,if_pos (show (true == true)=true from rfl)]
    refine ⟨fun _ _=>trivial,?_⟩
    rw [Oper.semAt_eq _ _ _ (by rw [g3];intro c h;cases h)]
    obtain ⟨f',tmps,asg,bd,h1,h2⟩:=hy hh w hR
    have v13:a.eval (.tmp 13)=zd7 l:=hA.getD (t:=13) rfl
    have v15:a.eval (.tmp 15)=.int .u8 (b:Int):=hA.getD (t:=15) rfl
    have hrun:(execOp a.eval o119).run Tryz.prog w=.ok (.round l f' tmps asg bd) w:=by
     simp [execOp,g3,resolve,v13,v15,Deferred.ofValue,invoke,h1]
    rw [hrun]
    refine ⟨(fun h=>by cases h),h2.mono ?_⟩
    rintro e2 W2 ⟨rfl,hR2⟩
    rw [g2]
    refine hK' _ _ ?_
    have hA2:Agree 19 [] ((16,.v (.bool true))::[(0,.v (zd7 l)),(1,.ptr 1 bx 0),(3,.v (.int .i64 (b:Int))),(12,.v (.bool true)),(13,.v (zd7 l)),(15,.v (.int .u8 (b:Int)))]) (a.put (some 16) (.bool true)):=hA.put (by decide) rfl
    refine zaS (ro:=none) (m:=0) (ds:=[]) fin (xN zs3) hA2 hR2 ?_
    (repeat' ((conv=>whnf);first|((first|apply zc|apply za|apply zd)<;>intro h<;>try (exfalso;omega))|refine pay ?_|intro _));(all_goals (conv=>whnf))
    exact ⟨⟨by (repeat ((conv=>whnf);refine vS ?_));exact trivial,Ref.refl _⟩⟩
   ·(repeat' ((conv=>whnf);first|rw [hb8]|refine zm (.v (.bool true)) (fun w hR=>cH w) ?_|((first|apply zc|apply za|apply zd)<;>intro h<;>try (exfalso;omega))|refine pay ?_|intro _));(all_goals (conv=>whnf))
    exact ⟨⟨by (repeat ((conv=>whnf);refine vS ?_));exact trivial,Ref.refl _⟩⟩
 | false =>
   rw [hh] at cH
   have hn:=hn hh
   subst hn
   refine zaS (ro:=none) (m:=0) (ds:=[]) (K:=fun e L=>Stop (xk [(0,.v (zd7 l)),(1,.ptr 1 bx 0),(3,.v (.int .i64 (b:Int))),(12,.v (.bool false))] e/\Ref w0 fp0 L (.box 1 bx s.cells zj::Gc))) ?_ (xN zs2) hA hR ?_
   ·rintro e a L w hA hR ⟨hs,hr⟩
    have hA:=zU hA hs
    have hR:=hr _ hR
    clear hs hr
    refine wpListIn_step fun K' hK'=>?_
    rw [jf hA g1 g4 rfl,if_neg (by decide)]
    refine ⟨fun _ _=>trivial,?_⟩
    rw [g2]
    refine hK' _ _ ?_
    have hA2:Agree 19 [] ((16,.v undef)::[(0,.v (zd7 l)),(1,.ptr 1 bx 0),(3,.v (.int .i64 (b:Int))),(12,.v (.bool false))]) (a.put (some 16) undef):=hA.put (by decide) rfl
    refine zaS (ro:=none) (m:=0) (ds:=[]) fin (xN zs3) hA2 hR ?_
    (repeat' ((conv=>whnf);first|((first|apply zc|apply za|apply zd)<;>intro h<;>try (exfalso;omega))|refine pay ?_|intro _));(all_goals (conv=>whnf))
    exact ⟨⟨by (repeat ((conv=>whnf);refine vS ?_));exact trivial,Ref.refl _⟩⟩
   ·(repeat' ((conv=>whnf);first|rw [hb8]|refine zm (.v (.bool false)) (fun w hR=>cH w) ?_|((first|apply zc|apply za|apply zd)<;>intro h<;>try (exfalso;omega))|refine pay ?_|intro _));(all_goals (conv=>whnf))
    exact ⟨⟨by (repeat ((conv=>whnf);refine vS ?_));exact trivial,Ref.refl _⟩⟩
theorem zrz (s:Ls) (bx l:Nat) {w0:World} {fp0:List Nat} (G:Nat->List Ent)
 (hy:∀ b,b<256->s.has b=true->∀ W,R w0 fp0 (.box 1 bx s.cells zj::G b) W->∃ f' tmps asg bd,(Instr.yield l #[.int .u8 (b:Int)]).run Tryz.prog W=.ok (.round l f' tmps asg bd) W /\
  RoundIn (FW none) 0 Tryz.prog l f' tmps asg bd W fun e W'=>e=.returned (.bool true)/\R w0 fp0 (.box 1 bx s.cells zj::G (b+1)) W')
 (hn:∀ b,b<256->s.has b=false->G (b+1)=G b) {W:World} (hR:R w0 fp0 (.box 1 bx s.cells zj::G 0) W) :
 CallsIn (FW none) 0 Tryz.prog xE #[zd7 l,.pointer (some ⟨bx,0,none⟩)] W fun e W2=>(∃ v,e=.returned v)/\R w0 fp0 (.box 1 bx s.cells zj::G 256) W2:=by
 have hb:Tryz.f119.body=some zrx:=by kernel_rfl
 refine callsIn_of_wp (F:=FW none) Tryz.func119 hb trivial ((wpIn_wide (n:=0)).2 ?_)
 have hA:=zdI (n:=19) (l:=[.v (zd7 l),.ptr 1 bx 0]) (by simp)
 rw [zyi]
 refine u5 (G:=fun e L=>Stop (xk (zg1 l bx 0) e/\Ref w0 fp0 L (.box 1 bx s.cells zj::G 0))) zxn hA hR (by (repeat' ((conv=>whnf);first|((first|apply zc|apply za|apply zd)<;>intro h<;>try (exfalso;omega))|refine pay ?_|intro _));(all_goals (conv=>whnf));exact ⟨⟨by (repeat ((conv=>whnf);refine vS ?_));exact trivial,Ref.refl _⟩⟩) ?_
 rintro e a L w hA hR ⟨hs,hr⟩
 refine wp_block (wp_loop_ghost (fun m a w=>∃ b,b<=256/\256 - b=m/\Agree 19 [] (zg1 l bx b) a/\R w0 fp0 (.box 1 bx s.cells zj::G b) w) 256 ⟨0,by omega,rfl,zU hA hs,hr _ hR⟩ ?_)
 clear hA hR hs hr e a L w
 rintro m a w ⟨b,hb,rfl,hA,hR⟩
 rw [zxg]
 refine zoO (id:=0) (G:=fun e L=>Stop (b<256/\xk (zg1 l bx b) e/\Ref w0 fp0 L (.box 1 bx s.cells zj::G b))) (G1:=fun e L=>Stop (b=256/\Ref w0 fp0 L (.box 1 bx s.cells zj::G b))) zxo hA hR ?_ ?_ ?_
 ·(repeat' ((conv=>whnf);first|((first|apply zc|apply za|apply zd)<;>intro h<;>try (exfalso;omega))|refine pay ?_|intro _));(all_goals (conv=>whnf))
  ·exact ⟨⟨by omega,by (repeat ((conv=>whnf);refine vS ?_));exact trivial,Ref.refl _⟩⟩
  ·exact ⟨⟨by omega,Ref.refl _⟩⟩
 ·rintro e a L w hA hR ⟨hlt,hs,hr⟩
  refine wp_seq (wp_block (zry s bx l b (G b) (G (b+1)) hlt (hy b hlt) (hn b hlt) (zU hA hs) (hr _ hR) ?_))
  clear hA hR hs hr e a L w
  intro a w hA hR
  refine wpK (K:=kN fun e L=>Stop (xk (zg1 l bx (b+1)) e/\Ref w0 fp0 L (.box 1 bx s.cells zj::G (b+1)))) zxq hA hR (by (repeat' ((conv=>whnf);first|((first|apply zc|apply za|apply zd)<;>intro h<;>try (exfalso;omega))|refine pay ?_|intro _));(all_goals (conv=>whnf));exact ⟨⟨by (repeat ((conv=>whnf);refine vS ?_));exact trivial,Ref.refl _⟩⟩) ?_
  rintro x a w e L hA hR hk
  cases x with
  | normal=>obtain ⟨hs,hr⟩:=hk;exact ⟨256 - (b+1),by omega,b+1,by omega,rfl,zU hA hs,hr _ hR⟩
  | _=>exact hk.elim
 ·rintro e a' L w' hA' hR' ⟨hbb,hr⟩
  subst hbb
  refine ⟨hA'.defers,.tuple #[],?_,⟨_,rfl⟩,hr _ hR'⟩
  have hrs:Tryz.f119.results=#[]:=by kernel_rfl
  simp [results,hrs,Sem.run_pure]
def ulL (l:List Nat):List Value:=zu .u64 (l.map Int.ofNat)
theorem zhq (l:List Nat):(ulL l).length=l.length:=by simp [ulL,zu]
theorem zku {l:List Nat} {q v:Nat} (h:q<l.length):zv (ulL l) q [.int .u64 (v:Int)]=ulL (l.set q v):=by
 unfold ulL
 rw [uX (by simpa using h),List.map_set];rfl
theorem zeH {l:List Nat} {j:Nat} (h:j<l.length):isK (.int .u64) (ulL l) j:=kj (by simpa using h)
theorem zg2 {l:List Nat} {j:Nat} (h:j<l.length):Go.EG.intOf (atL (ulL l) j)=((l.getD j 0:Nat):Int):=by
 unfold ulL
 rw [vN (by simpa using h),g1q,List.getElem?_map,g1q,g2q h];rfl
theorem zs4 (n:Nat):(List.replicate n [Value.int .u64 0]).flatten=ulL (List.replicate n 0):=by
 induction n with
 | zero=>rfl
 | succ n ih=>rw [List.replicate_succ,List.flatten_cons,ih];rfl
theorem zdy (n:Nat):(List.replicate n [Value.int .i64 0]).flatten=enL (List.replicate n 0):=by
 induction n with
 | zero=>rfl
 | succ n ih=>rw [List.replicate_succ,List.flatten_cons,ih];rfl
def Ls.zb (s:Ls):Bool:=decide (s.a=0/\s.b=0/\s.c=0/\s.d=0)
theorem Ls.zb_iff {s:Ls}:s.zb=true↔s.zero:=by unfold Ls.zb Ls.zero;simp
def qj (ss:List Ls) (p:Ls):Nat->Nat
 | 0=>0
 | i+1=>if ((ss.getD i default).meet p).zb then qj ss p i else qj ss p i|||2 ^ i
theorem zjb (ss:List Ls) (p:Ls):∀ i,qj ss p i<2 ^ i
 | 0=>by simp [qj]
 | i + 1 => by
   have:=zjb ss p i
   unfold qj
   have h2:2 ^ (i+1)=2 ^ i+2 ^ i:=by rw [Nat.pow_succ];omega
   split
   ·omega
   ·exact Nat.or_lt_two_pow (by omega) (by omega)
theorem zl7 (ss:List Ls) (p:Ls) (j:Nat):∀ n,(qj ss p n).testBit j=(decide (j<n)&&!((ss.getD j default).meet p).zb)
 | 0=>by simp [qj]
 | n + 1 => by
   have ih:=zl7 ss p j n
   unfold qj
   by_cases hj:j=n
   ·subst hj
    split
    ·rename_i hz;rw [ih,hz];simp
    ·rename_i hz
     rw [Nat.testBit_or,ih,Nat.testBit_two_pow_self]
     simp at hz
     simp [hz]
   ·have hd:decide (j<n+1)=decide (j<n):=by rw [decide_eq_decide];omega
    split
    ·rw [ih,hd]
    ·rw [Nat.testBit_or,ih,Nat.testBit_two_pow_of_ne (fun h=>hj h.symm),Bool.or_false,hd]
def yr (s:Ls) (cl:Nat) (old:List Nat) (b:Nat):List Nat:=(List.range 256).map fun x=>if x<b/\s.has x=true then cl else old.getD x 0
theorem jU (s:Ls) (cl:Nat) (old:List Nat) (b:Nat):(yr s cl old b).length=256:=by simp [yr]
theorem zl8 (s:Ls) (cl:Nat) (old:List Nat) (b x:Nat) (hx:x<256):(yr s cl old b).getD x 0=if x<b/\s.has x=true then cl else old.getD x 0:=by
 simp [yr,g1q,hx]
theorem zvS (s:Ls) (cl:Nat) {old:List Nat} (h:old.length=256):yr s cl old 0=old:=by
 refine List.ext_getElem (by rw [jU,h]) fun i h1 h2=>?_
 simp [yr,g2q h2]
theorem zuG {s:Ls} {cl:Nat} {old:List Nat} {b:Nat} (h:s.has b=false):yr s cl old (b+1)=yr s cl old b:=by
 unfold yr
 refine List.map_congr_left fun x _=>?_
 by_cases hx:x=b
 ·subst hx;simp [h]
 ·have:(x<b+1)=(x<b):=propext (by omega)
  simp only [this]
theorem zs5 {s:Ls} {cl:Nat} {old:List Nat} {b:Nat} (hb:b<256) (h:s.has b=true):(yr s cl old b).set b cl=yr s cl old (b+1):=by
 refine List.ext_getElem (by rw [List.length_set,jU,jU]) fun i h1 h2=>?_
 rw [List.getElem_set]
 simp only [yr,List.getElem_map,List.getElem_range]
 by_cases hx:b=i
 ·subst hx;simp [h]
 ·rw [if_neg hx]
  have:(i<b+1)=(i<b):=propext (by omega)
  simp only [this]
structure CI (ps:List Ls) (j:Nat) (cls:List Nat):Prop where
 len:cls.length=256
 lt:∀ x,cls.getD x 0=0∨cls.getD x 0<j
 cl:∀ i p x,i<j->ps[i]?=some p->x<256->p.has x=true->cls.getD x 0=i
theorem zs6 (n x:Nat):(List.replicate n 0).getD x 0=0:=by
 rw [g1q,List.getElem?_replicate];split<;>rfl
theorem CI.start (ps:List Ls):CI ps 0 (List.replicate 256 0):=⟨by simp,fun x=>.inl (zs6 _ _),fun i p x h=>absurd h (by omega)⟩
theorem CI.next {ps:List Ls} {j:Nat} {cls:List Nat} {p:Ls} (h:CI ps j cls) (hP:Part ps) (hp:ps[j]?=some p):CI ps (j+1) (yr p j cls 256):=by
 refine ⟨jU ..,fun x=>?_,fun i q x hi hq hx hqx=>?_⟩
 ·by_cases hx:x<256
  ·rw [zl8 _ _ _ _ _ hx]
   split
   ·exact .inr (by omega)
   ·exact (h.lt x).imp id (by omega)
  ·rw [g1q,List.getElem?_eq_none (by rw [jU];omega)];exact .inl rfl
 ·rw [zl8 _ _ _ _ _ hx]
  split
  ·rename_i hpx
   exact (hP.inj hx hp hq hpx.2 hqx)
  ·rename_i hpx
   by_cases he:i=j
   ·subst he
    rw [hp] at hq;cases hq
    exact absurd ⟨hx,hqx⟩ hpx
   ·exact h.cl i q x (by omega) hq hx hqx
def msE (Ds:List Nat):Ent:=.abs 9003 Ds fun w=>∀ D∈Ds,w.heap[D]?=some (.deferred (some []))
theorem zoP {w0 w:World} {fp0:List Nat} {L:List Ent}:∀ {Ds:List Nat},R w0 fp0 (msE Ds::L) w->R w0 fp0 (Ds.map dfE++L) w
 | [],h=>h.tail
 | D :: Ds,h => by
   have hD:∀ x∈D::Ds,w.heap[x]?=some (.deferred (some [])):=Ent.abs_ok (h.ok _ g5q)
   have hnd:=h.nodup
   have hrg:=h.range
   rw [zH] at hnd hrg
   simp only [msE,Ent.fp,List.cons_append] at hnd hrg
   have h2:R w0 fp0 (msE Ds::(dfE D::L)) w:=by
    refine ⟨h.os,h.tape,h.output,h.drawn,h.size,h.old,?_,?_,?_⟩
    ·rw [zH,zH]
     simp only [msE,dfE,Ent.fp]
     obtain ⟨h1,h2⟩:=List.nodup_cons.1 hnd
     exact (List.perm_middle (a:=D) (l₁:=Ds) (l₂:=fps L)).nodup_iff.2 (List.nodup_cons.2 ⟨h1,h2⟩)
    ·intro b hb
     rw [zH,zH] at hb
     simp only [msE,dfE,Ent.fp] at hb
     refine hrg b ?_
     rcases List.mem_append.1 hb with hb|hb
     ·exact g4q _ (List.mem_append_left _ hb)
     ·rcases List.mem_append.1 hb with hb|hb
      ·rw [List.mem_singleton.1 hb];exact g5q
      ·exact g4q _ (List.mem_append_right _ hb)
    ·intro e he
     rcases List.mem_cons.1 he with rfl|he
     ·intro w' hs x hx
      rw [hs x hx];exact hD x (g4q _ hx)
     ·rcases List.mem_cons.1 he with rfl|he
      ·exact zeG (p:=fun o=>o=some (.deferred (some []))) (hD D g5q)
      ·exact h.ok e (g4q _ he)
   have h3:=zoP h2
   exact h3.perm (List.perm_middle (a:=dfE D) (l₁:=Ds.map dfE) (l₂:=L))
theorem zvT {w0 w:World} {fp0:List Nat} {L:List Ent} {D:Nat} {Ds:List Nat} (h:R w0 fp0 (dfE D::msE Ds::L) w):R w0 fp0 (msE (D::Ds)::L) w:=by
 have h1:w.heap[D]?=some (.deferred (some [])):=Ent.abs_ok (h.ok _ g5q)
 have h2:∀ x∈Ds,w.heap[x]?=some (.deferred (some [])):=Ent.abs_ok (h.ok _ (g4q _ g5q))
 have hnd:=h.nodup
 have hrg:=h.range
 rw [zH,zH] at hnd hrg
 simp only [msE,dfE,Ent.fp,List.singleton_append] at hnd hrg
 refine ⟨h.os,h.tape,h.output,h.drawn,h.size,h.old,?_,?_,?_⟩
 ·rw [zH];exact hnd
 ·intro b hb;rw [zH] at hb;exact hrg b hb
 ·intro e he
  rcases List.mem_cons.1 he with rfl|he
  ·intro w' hs x hx
   rw [hs x hx]
   rcases List.mem_cons.1 hx with rfl|hx
   ·exact h1
   ·exact h2 x hx
  ·exact h.ok e (g4q _ (g4q _ he))
noncomputable def ops64a:Array Oper:=zuF zwL
noncomputable def ops64b:Array Oper:=zuF zwM
set_option maxRecDepth 100000 in
theorem zxr:zkt=.rangeFunc (.tmp 27) #[28] (.region 8 ops64a false) (.block 3 (.region 9 ops64b false)):=by kernel_rfl
def zyk:List Gop:=[⟨some 9,none,.mv (.t 28)⟩]
def zyl:List Gop:=[⟨(some 29),none,(.fa 1 (.t 4))⟩,⟨(some 30),none,(.ld .slc (.t 29))⟩,⟨(some 31),none,(.mv (.t 9))⟩,⟨(some 32),none,(.ld (.int .i64) (.t 7))⟩,⟨(some 33),none,(.ia 1 (.t 30) (.t 31))⟩,⟨none,none,(.st 1 (.t 33) (.t 32))⟩]
set_option maxRecDepth 100000 in
theorem zxQ:jk Tryz.prog 58 ops64a [] ops64a.toList=some zyk:=by kernel_rfl
set_option maxRecDepth 100000 in
theorem zxR:jk Tryz.prog 58 ops64b [] ops64b.toList=some zyl:=by kernel_rfl
structure CsG where
 ps:List Ls
 sa:Option Addr
 sn:Nat
 sc:Nat
 b2:Nat
 b4:Nat
 ca:Option Addr
 cc:Nat
 pa:Option Addr
 pc:Nat
 aa:Option Addr
 ac:Nat
abbrev mz:List Value:=[.int .i64 0,.slice none 0 0,.slice none 0 0,.slice none 0 0]
abbrev CsG.E1 (g:CsG):Env:=[(0,.v (.slice g.sa g.sn g.sc)),(2,.ptr 2 g.b2 0),(3,.v (.slice none 0 0)),(4,.ptr 4 g.b4 0)]
abbrev CsG.E2 (g:CsG) (j:Nat):Env:=[(0,.v (.slice g.sa g.sn g.sc)),(2,.ptr 2 g.b2 0),(3,.v (.slice none 0 0)),(4,.ptr 4 g.b4 0),(5,.sl 812 g.pa g.ps.length g.pc),(6,.sl 818 g.aa g.ps.length g.ac),(19,.sl 812 g.pa g.ps.length g.pc),(20,.v (.int .i64 (g.ps.length:Int))),(21,.v (.int .i64 (j:Int)))]
abbrev CsG.M (g:CsG):List Value:=[.int .i64 0,.slice g.ca 256 g.cc,.slice none 0 0,.slice none 0 0]
abbrev CsG.H1 (g:CsG):List Ent:=[.own 801 g.ca 256 g.cc zk 1 (enL (List.replicate 256 0)),.box 4 g.b4 g.M zg,.box 2 g.b2 mz zg]
abbrev CsG.H2 (g:CsG) (cls al Ds:List Nat):List Ent:=[.own 812 g.pa g.ps.length g.pc zj 4 (lsL g.ps),.own 818 g.aa g.ps.length g.ac qr 1 (ulL al),.own 801 g.ca 256 g.cc zk 1 (enL cls),.box 4 g.b4 g.M zg,.box 2 g.b2 mz zg,msE Ds]
abbrev CsG.E3 (g:CsG) (j b7 b8:Nat):Env:=[(0,.v (.slice g.sa g.sn g.sc)),(2,.ptr 2 g.b2 0),(3,.v (.slice none 0 0)),(4,.ptr 4 g.b4 0),(5,.sl 812 g.pa g.ps.length g.pc),(6,.sl 818 g.aa g.ps.length g.ac),(7,.ptr 7 b7 0),(8,.ptr 8 b8 0),(19,.sl 812 g.pa g.ps.length g.pc),(20,.v (.int .i64 (g.ps.length:Int))),(21,.v (.int .i64 (j:Int)))]
abbrev CsG.H3 (g:CsG) (j b7 b8:Nat) (p:Ls) (cls al Ds:List Nat):List Ent:=[.own 801 g.ca 256 g.cc zk 1 (enL cls),.box 7 b7 [.int .i64 (j:Int)] zk,.box 8 b8 p.cells zj,.own 812 g.pa g.ps.length g.pc zj 4 (lsL g.ps),.own 818 g.aa g.ps.length g.ac qr 1 (ulL al),.box 4 g.b4 g.M zg,.box 2 g.b2 mz zg,msE Ds]
theorem zs7 (g:CsG) (j b7 b8 bx l D b:Nat) (p:Ls) (cls al Ds:List Nat) {w0 W:World} {fp0:List Nat} {ds:List Deferred} {e:Env} {a:Act} {fn:FuncId} (hcl:cls.length=256) (hb:b<256) (hpb:p.has b=true)
 (hs:xk (g.E3 j b7 b8) e) (hA:Agree 58 ds e a)
 (hR:R w0 fp0 (lpE l D fn a #[28] (.region 8 ops64a false) (.block 3 (.region 9 ops64b false)) .ready::dfE D::.box 1 bx p.cells zj::g.H3 j b7 b8 p (yr p j cls b) al Ds) W) :
 ∃ f' tmps asg bd,(Instr.yield l #[.int .u8 (b : Int)]).run Tryz.prog W = .ok (.round l f' tmps asg bd) W /\
   RoundIn (FW none) 0 Tryz.prog l f' tmps asg bd W fun e W'=>e=.returned (.bool true)/\R w0 fp0 (lpE l D fn a #[28] (.region 8 ops64a false) (.block 3 (.region 9 ops64b false)) .ready::dfE D::.box 1 bx p.cells zj::g.H3 j b7 b8 p (yr p j cls (b+1)) al Ds) W':=by
 obtain ⟨f',tmps,asg,bd,h1,h2⟩:=zpO (m:=0) (G:=fun H''=>H''=.box 1 bx p.cells zj::g.H3 j b7 b8 p (yr p j cls (b+1)) al Ds) hR (zU hA hs) (by decide) zxQ zxR (v:=.int .u8 (b:Int)) (by
  have hl:=jU p j cls b
  have hl2:=qW (yr p j cls b)
  have hsp:zv (enL (yr p j cls b)) b [.int .i64 (j:Int)]=enL (yr p j cls (b+1)):=by rw [qJ (by omega),zs5 hb hpb]
  have q0:((b:Nat):Int).toNat=b:=by omega
  (repeat' ((conv=>whnf);first|((first|apply zc|apply za|apply zd)<;>intro h<;>try (exfalso;omega))|refine pay ?_|intro _));(all_goals (conv=>whnf))
  refine ⟨_,rfl,?_⟩
  (repeat' ((conv=>whnf);first|refine ⟨.sl 801 _ _ _,⟨rfl,rfl,rfl,rfl⟩,?_⟩|((first|apply zc|apply za|apply zd)<;>intro h<;>try (exfalso;omega))|refine pay ?_|intro _));(all_goals (conv=>whnf))
  rw [q0,hsp]
  exact ⟨_,rfl,rfl⟩)
 refine ⟨f',tmps,asg,bd,h1,h2.mono ?_⟩
 rintro e2 W2 ⟨rfl,H'',rfl,hR2⟩
 exact ⟨rfl,hR2⟩
theorem zu7 {n:Nat} (h:n<64):(1*((2 ^ ((n:Nat):Int).toNat:Nat):Int))%18446744073709551616=((2 ^ n:Nat):Int):=zqD h
theorem zuH (g:CsG) (j b7 b8:Nat) (p:Ls) (ss:List Ls) (cls al Ds:List Nat) {w0:World} (hsn:g.sn=ss.length) (hl:ss.length<=64) (hin:In w0 [] g.sa (lsL ss)) (hal:al.length=g.ps.length) (hj:j<g.ps.length) (hj2:g.ps.length<=256) (h0:al.getD j 0=0) :
 VC Tryz.prog w0 [] zsS (kN fun e L=>Stop (xk (g.E2 j) e/\Ref w0 [] L (g.H2 cls (al.set j (qj ss p ss.length)) Ds))) (g.E3 j b7 b8) (g.H3 j b7 b8 p cls al Ds):=by
 obtain ⟨ps,sa,sn,sc,b2,b4,ca,cc,pa,pc,aa,ac⟩:=g
 dsimp only at hsn hin hal hj hj2 ⊢
 subst hsn
 have hsa:0<ss.length->sa≠none:=fun h=>hin.ne' (k:=0) (by rw [uZ];omega)
 (repeat' ((conv=>whnf);first|((first|apply zc|apply za|apply zd)<;>intro h<;>try (exfalso;omega))|refine pay ?_|intro _));(all_goals (conv=>whnf))
 all_goals try (exfalso;omega)
 refine zw Nat (fun i=>(34,.v (.slice sa ss.length sc))::(35,.v (.int .i64 (ss.length:Int)))::(36,.v (.int .i64 (i:Int)))::(CsG.mk ps sa ss.length sc b2 b4 ca cc pa pc aa ac).E3 j b7 b8)
  (fun i=>(CsG.mk ps sa ss.length sc b2 b4 ca cc pa pc aa ac).H3 j b7 b8 p cls (al.set j (qj ss p i)) Ds) (fun i=>i<=ss.length) (fun i=>ss.length - i) 0 (Nat.zero_le _) (by (repeat ((conv=>whnf);refine vS ?_));exact trivial) ?_ ?_
 ·have e0:al.set j (qj ss p 0)=al:=by
   refine List.ext_getElem (by simp) fun i h1 h2=>?_
   rw [List.getElem_set]
   by_cases he:j=i
   ·subst he
    rw [g1q,g2q h2] at h0
    rw [if_pos rfl];exact h0.symm
   ·rw [if_neg he]
  rw [e0]
  exact Ref.refl _
 intro i hi
 by_cases hlt:i<ss.length
 ·obtain ⟨s,hs⟩:∃ s,ss[i]?=some s:=⟨_,g2q hlt⟩
  have hsd:ss.getD i default=s:=by rw [g1q,hs];rfl
  have rds:=fun {L:List Ent}=>zsD (L:=L) hin hs
  have hsa:=hsa (by omega)
  have q0:((i:Nat):Int).toNat=i:=by omega
  have q1:((j:Nat):Int).toNat=j:=by omega
  have hlen:=zhq (al.set j (qj ss p i))
  have hset:(al.set j (qj ss p i)).length=ps.length:=by rw [List.length_set,hal]
  have hat:=zg2 (l:=al.set j (qj ss p i)) (j:=j) (by omega)
  have hisk:=zeH (l:=al.set j (qj ss p i)) (j:=j) (by omega)
  have hget:(al.set j (qj ss p i)).getD j 0=qj ss p i:=by rw [g1q,List.getElem?_set_self (by omega)];rfl
  rw [hget] at hat
  have cM:=fun w=>zkq s p w
  have hmk:qj ss p (i+1)=if (s.meet p).zb then qj ss p i else qj ss p i|||2 ^ i:=by
   rw [←hsd];rfl
  have hmlt:=zjb ss p i
  have h2i:2 ^ i<2 ^ 64:=Nat.pow_lt_pow_right (by decide) (by omega)
  have hshl:(1*((2 ^ i:Nat):Int))%18446744073709551616=((2 ^ i:Nat):Int):=by
   have:=zu7 (n:=i) (by omega)
   rwa [q0] at this
  have hbk:0<=(i:Int)/\(i:Int)<=biK .u64:=⟨by omega,show (i:Int)<=64 by omega⟩
  have hor:((((qj ss p i:Nat):Int).toNat|||((2 ^ i:Nat):Int).toNat:Nat):Int)=((qj ss p i|||2 ^ i:Nat):Int):=by rw [g7q,g7q]
  have hbo:(0:Int)<=((qj ss p i:Nat):Int)/\((qj ss p i:Nat):Int)<=18446744073709551615/\(0:Int)<=((2 ^ i:Nat):Int)/\((2 ^ i:Nat):Int)<=18446744073709551615:=by
   generalize 2 ^ i=y at *
   exact ⟨by omega,by omega,by omega,by omega⟩
  have hsp:zv (ulL (al.set j (qj ss p i))) j [.int .u64 ((qj ss p i|||2 ^ i:Nat):Int)]=ulL (al.set j (qj ss p i|||2 ^ i)):=by
   rw [zku (by omega),List.set_set]
  have hz0:(s.meet p).zb=true->qj ss p (i+1)=qj ss p i:=fun h=>by rw [hmk,if_pos h]
  have hz1:(s.meet p).zb=false->qj ss p (i+1)=qj ss p i|||2 ^ i:=fun h=>by rw [hmk,if_neg (by rw [h];decide)]
  clear hmk hget hmlt h2i
  (repeat' ((conv=>whnf);first|rw [q0]|rw [q1]|rw [hat]|rw [hshl]|rw [hor]|rw [hsp]|refine ⟨s.cells,rfl,rds,?_⟩|refine zm (.v (s.meet p).v) (fun w hR=>cM w) ?_|refine zh ?_|((first|apply zc|apply za|apply zd)<;>intro h<;>try (exfalso;omega))|refine pay ?_|refine And.intro (by first|exact hbk|exact hbo|exact ⟨rfl,hisk⟩) ?_|intro _));(all_goals (conv=>whnf))
  all_goals try (exfalso;omega)
  all_goals first
   | (have hz : (s.meet p).zb = true := by
       unfold Ls.zb;rw [decide_eq_true_eq];exact ⟨by omega,by omega,by omega,by omega⟩
      have e:=hz0 hz
      exact zi (i+1) hlt (by omega) (by (repeat ((conv=>whnf);refine vS ?_));exact trivial) (by rw [e];exact Ref.takes [801,7,8,812,818,4,2,9003] rfl (.refl _)))
   | (have hz : (s.meet p).zb = false := by
       unfold Ls.zb;rw [decide_eq_false_iff_not];intro h;omega
      have e:=hz1 hz
      exact zi (i+1) hlt (by omega) (by (repeat ((conv=>whnf);refine vS ?_));exact trivial) (by rw [e];exact Ref.takes [801,7,8,812,818,4,2,9003] rfl (.refl _)))
 ·(repeat' ((conv=>whnf);first|((first|apply zc|apply za|apply zd)<;>intro h<;>try (exfalso;omega))|refine pay ?_|intro _));(all_goals (conv=>whnf))
  all_goals try (exfalso;omega)
  have:i=ss.length:=by omega
  subst this
  exact ⟨⟨by (repeat ((conv=>whnf);refine vS ?_));exact trivial,Ref.takes [812,818,801,4,2,9003] rfl (.refl _)⟩⟩
def vF (ps ss:List Ls) (j:Nat):List Nat:=(List.range ps.length).map fun i=>if i<j then qj ss (ps.getD i default) ss.length else 0
theorem zoQ (ps ss:List Ls) (j:Nat):(vF ps ss j).length=ps.length:=by simp [vF]
theorem zoR (ps ss:List Ls) (j i:Nat) (h:i<ps.length):(vF ps ss j).getD i 0=if i<j then qj ss (ps.getD i default) ss.length else 0:=by
 simp [vF,g1q,h]
theorem zxs (ps ss:List Ls):vF ps ss 0=List.replicate ps.length 0:=by
 refine List.ext_getElem (by simp [vF]) fun i h1 h2=>?_
 simp [vF]
theorem zs8 {ps:List Ls} (ss:List Ls) {j:Nat} {p:Ls} (h:ps[j]?=some p):(vF ps ss j).set j (qj ss p ss.length)=vF ps ss (j+1):=by
 refine List.ext_getElem (by simp [vF]) fun i h1 h2=>?_
 rw [List.getElem_set]
 simp only [vF,List.getElem_map,List.getElem_range]
 by_cases he:j=i
 ·subst he
  rw [if_pos rfl,if_pos (by omega),g1q,h];rfl
 ·rw [if_neg he]
  have:(i<j+1)=(i<j):=propext (by omega)
  simp only [this]
def clQ (ss:List Ls) (v:Value) (L1:List Ent):Prop:=∃ (ps:List Ls) (cls:List Nat) (ca:Option Addr) (cc:Nat) (aa:Option Addr) (ac:Nat),
 v=.tuple #[.agg #[.int .i64 0,.slice ca 256 cc,.slice none 0 0,.slice none 0 0],.slice aa ps.length ac] /\
 L1=[.own 801 ca 256 cc zk 1 (enL cls),.own 818 aa ps.length ac qr 1 (ulL (vF ps ss ps.length))]/\Part ps/\Homo ss ps/\CI ps ps.length cls
theorem zxt {w0 w:World} {fp0:List Nat} {L:List Ent} (h:R w0 fp0 L w):R w0 fp0 (L++[msE []]) w:=by
 have e:fps (L++[msE []])=fps L:=by simp [fps,msE,Ent.fp]
 refine ⟨h.os,h.tape,h.output,h.drawn,h.size,h.old,by rw [e];exact h.nodup,fun b hb=>h.range b (by rwa [e] at hb),fun x hx=>?_⟩
 rcases List.mem_append.1 hx with hx|hx
 ·exact h.ok x hx
 ·rw [List.mem_singleton.1 hx]
  intro w' _ D hD
  cases hD
theorem zm2 {α:Type} (a b c:α) (T:List α):(a::b::c::T).Perm (c::a::b::T):=((List.Perm.swap c b T).cons a).trans (.swap c a (b::T))
theorem zs9 (g:CsG) (j:Nat) (p:Ls) (ss:List Ls) (cls al Ds:List Nat) {w0 w:World} {a:Act} {Q:Exit->Act->World->Prop} (hsn:g.sn=ss.length) (hl:ss.length<=64) (hin:In w0 [] g.sa (lsL ss)) (hcl:cls.length=256) (hal:al.length=g.ps.length) (hp:g.ps[j]?=some p) (hj2:g.ps.length<=256) (h0:al.getD j 0=0)
 (hA:Agree 58 (Ds.map dfD) (g.E2 j) a) (hR:R w0 [] (g.H2 cls al Ds) w)
 (hq:∀ D a w,Agree 58 ((D::Ds).map dfD) (g.E2 j) a->R w0 [] (g.H2 (yr p j cls 256) (al.set j (qj ss p ss.length)) (D::Ds)) w->Q .normal a w):k64_in.wp Tryz.prog Q a w:=by
 have hj:j<g.ps.length:=(List.getElem?_eq_some_iff.1 hp).1
 have q1:((j:Nat):Int).toNat=j:=by omega
 have cA:=fun w=>zsY p w
 have hrd:=zaR hp
 rw [zxf]
 refine u5 (G:=fun e L=>VC Tryz.prog w0 [] zsR (kN fun e L=>Stop (∃ b7 b8 bx,xk ((27,.v (.func (.func xE) #[] #[.pointer (some ⟨bx,0,none⟩)]))::g.E3 j b7 b8) e/\Ref w0 [] L (.box 1 bx p.cells zj::g.H3 j b7 b8 p cls al Ds))) e L) zw4 hA hR ?_ ?_
 ·obtain ⟨ps,sa,sn,sc,b2,b4,ca,cc,pa,pc,aa,ac⟩:=g
  dsimp only at hj hrd
  have hpos:0<ps.length:=by omega
  (repeat' ((conv=>whnf);first|rw [q1]|refine uT hrd ?_ rfl rfl rfl|(refine zz (fun w hR=>cA w) ?_;rintro _ _ ⟨bx,rfl,rfl⟩;refine ⟨.v _,rfl,?_⟩)|refine zh ?_|((first|apply zc|apply za|apply zd)<;>intro h<;>try (exfalso;omega))|refine pay ?_|refine And.intro (by first|exact ⟨rfl,hpos⟩) ?_|intro _));(all_goals (conv=>whnf))
  all_goals try (exfalso;omega)
  rename_i b7 b8
  exact ⟨⟨b7,b8,bx,by (repeat ((conv=>whnf);refine vS ?_));exact trivial,Ref.takes [1,801,7,8,812,818,4,2,9003] rfl (.refl _)⟩⟩
 clear hA hR a w
 rintro e a L w hA hR hG
 refine wp_seq (u5 zw6 hA hR hG ?_)
 clear hA hR hG e a L w
 rintro e a L w hA hR ⟨b7,b8,bx,hs,hr⟩
 replace hA:=zU hA hs
 replace hR:=hr _ hR
 clear hs hr
 refine wp_block ?_
 rw [zxr]
 refine zuE (gf:=xE) (lb:=#[.pointer (some ⟨bx,0,none⟩)]) (L':=.box 1 bx p.cells zj::g.H3 j b7 b8 p (yr p j cls 256) al Ds) (hA.getD (t:=27) rfl) (by kernel_rfl) hR ?_ ?_
 ·intro l D fn W1 hR1
  have hc:=zrz p bx l (w0:=w0) (fp0:=[]) (W:=W1) (fun b=>lpE l D fn a #[28] (.region 8 ops64a false) (.block 3 (.region 9 ops64b false)) .ready::dfE D::g.H3 j b7 b8 p (yr p j cls b) al Ds) (fun b hb hpb W hW=>?_) (fun b hb hpb=>by rw [zuG hpb]) (by rw [zvS p j hcl];exact hR1.perm (zm2 ..))
  ·exact hc.mono fun e W2 h=>⟨h.1,h.2.perm (zm2 ..).symm⟩
  ·obtain ⟨f',tmps,asg,bd,h1,h2⟩:=zs7 g j b7 b8 bx l D b p cls al Ds hcl hb hpb (e:=(27,.v (.func (.func xE) #[] #[.pointer (some ⟨bx,0,none⟩)]))::g.E3 j b7 b8) (by (repeat ((conv=>whnf);refine vS ?_));exact trivial) hA (hW.perm (zm2 ..).symm)
   exact ⟨f',tmps,asg,bd,h1,h2.mono fun e W2 h=>⟨h.1,h.2.perm (zm2 ..)⟩⟩
 ·intro D W hR2
  have hA2:Agree 58 ((D::Ds).map dfD) (g.E3 j b7 b8) { a with defers:=dfD D::a.defers }:=by
   have h3:=zU (e':=g.E3 j b7 b8) hA (by (repeat ((conv=>whnf);refine vS ?_));exact trivial)
   exact ⟨h3.size,by rw [List.map_cons,←h3.defers],h3.at_⟩
  have hR3:R w0 [] (g.H3 j b7 b8 p (yr p j cls 256) al (D::Ds)) W:=by
   have h1:=(Ref.takes (w0:=w0) (fp0:=[]) [9002,9003,801,7,8,812,818,4,2] (L:=dfE D::.box 1 bx p.cells zj::g.H3 j b7 b8 p (yr p j cls 256) al Ds) rfl (.refl _)) W hR2
   exact (Ref.takes (w0:=w0) (fp0:=[]) [801,7,8,812,818,4,2,9003] rfl (.refl _)) W (zvT h1)
  refine wpK zw8 hA2 hR3 (zuH g j b7 b8 p ss (yr p j cls 256) al (D::Ds) hsn hl hin hal hj hj2 h0) ?_
  rintro x a w e L hA hR hk
  cases x with
  | normal=>obtain ⟨hs,hr⟩:=hk;exact hq D a w (zU hA hs) (hr _ hR)
  | _=>exact hk.elim
theorem zmH (ss:List Ls) (hl:ss.length<=64) (sa:Option Addr) (sc:Nat) (w0:World) (hG:Tab w0) (hin:In w0 [] sa (lsL ss)) :
 Calls Tryz.prog zbh #[.slice sa ss.length sc] w0 fun e w'=>∃ v L1,e=.returned v/\R w0 [] L1 w'/\clQ ss v L1:=by
 have hb:Tryz.f64.body=some zc6:=by kernel_rfl
 have hrs:zdH Tryz.prog Tryz.f64.results.toList=some [.c 2 4,.t 3]:=by kernel_rfl
 refine (zpP (R':=fun x w'=>∃ v L',x=.returned v/\R w0 [] L' w'/\∃ L1,Ref w0 [] L' L1/\clQ ss v L1) (l:=[.v (.slice sa ss.length sc)]) Tryz.func64 hb (n:=58) rfl (by simp) fun a hA=>?_).mono (fun x w' ⟨v,L',h1,h2,L1,h3,h4⟩=>⟨v,L1,h1,h3 _ h2,h4⟩)
 have hR:R w0 [] [] w0:=R.start0 w0
 have q256:Int.toNat 256=256:=rfl
 rw [zxc]
 refine u5 (G:=fun e L=>VC Tryz.prog w0 [] zsO (kN fun e L=>Stop (∃ (b2 b4:Nat) (ca:Option Addr) (cc:Nat),xk (CsG.E1 ⟨[],sa,ss.length,sc,b2,b4,ca,cc,none,0,none,0⟩) e/\Ref w0 [] L (CsG.H1 ⟨[],sa,ss.length,sc,b2,b4,ca,cc,none,0,none,0⟩))) e L) zwP hA hR ?_ ?_
 ·(repeat' ((conv=>whnf);first|rw [q256]|((first|apply zc|apply za|apply zd)<;>intro h<;>try (exfalso;omega))|refine pay ?_|intro _));(all_goals (conv=>whnf))
  rename_i b2 b12 b4
  exact ⟨⟨b2,b4,some ⟨b12,0,none⟩,256,by (repeat ((conv=>whnf);refine vS ?_));exact trivial,Ref.takes [12,4,2] rfl (.own rfl (zdy 256) (.refl _))⟩⟩
 clear hA hR a
 rintro e a L w hA hR hG1
 refine u5 zwR hA hR hG1 ?_
 clear hA hR hG1 e a L w
 rintro e a L w hA hR ⟨b2,b4,ca,cc,hs,hr⟩
 replace hA:=zU hA hs
 replace hR:=hr _ hR
 clear hs hr
 have cA:=fun (W:World) (L':List Ent) (hR:R w0 [] L' W)=>zpN ss (by omega) sa sc W (hG.cast hR (fun _ h=>by cases h)) (hin.cast hR (fun _ h=>by cases h))
 refine u5 (G:=fun e L=>VC Tryz.prog w0 [] zsP (kN fun e L=>VC Tryz.prog w0 [] zsQ (kN fun e L=>Stop (∃ (ps:List Ls) (pa:Option Addr) (pc:Nat) (aa:Option Addr) (ac:Nat),Part ps/\Homo ss ps/\xk (CsG.E2 ⟨ps,sa,ss.length,sc,b2,b4,ca,cc,pa,pc,aa,ac⟩ 0) e/\Ref w0 [] L (CsG.H2 ⟨ps,sa,ss.length,sc,b2,b4,ca,cc,pa,pc,aa,ac⟩ (List.replicate 256 0) (vF ps ss 0) []))) e L) e L) zwU hA hR ?_ ?_
 ·(repeat' ((conv=>whnf);first|(refine zz (fun w hR=>cA w _ hR) ?_;rintro _ _ ⟨ps,pa,pc,rfl,rfl,hP,hH⟩;have hpl:=hP.len;refine ⟨.sl 12 pa ps.length pc,rfl,?_⟩)|refine zh ?_|((first|apply zc|apply za|apply zd)<;>intro h<;>try (exfalso;omega))|refine pay ?_|intro _));(all_goals (conv=>whnf))
  all_goals try (exfalso;omega)
  rename_i b18
  have qn:((ps.length:Nat):Int).toNat=ps.length:=by omega
  rw [qn,zs4]
  refine ⟨⟨ps,pa,pc,some ⟨b18,0,none⟩,ps.length,hP,hH,by (repeat ((conv=>whnf);refine vS ?_));exact trivial,fun w h=>?_⟩⟩
  rw [zxs]
  exact zxt ((Ref.takes (w0:=w0) (fp0:=[]) [12,18,801,4,2] rfl (.own rfl rfl (.own rfl rfl (.refl _)))) w h)
 clear hA hR a w cA
 rintro e a L w hA hR hG2
 refine u5 zwW hA hR hG2 ?_
 clear hA hR hG2 e a L w
 rintro e a L w hA hR hG3
 rw [zxd]
 refine wp_seq (u5 zwY hA hR hG3 ?_)
 clear hA hR hG3 e a L w
 rintro e a L w hA hR ⟨ps,pa,pc,aa,ac,hP,hH,hs,hr⟩
 replace hA:=zU hA hs
 replace hR:=hr _ hR
 clear hs hr
 obtain ⟨hp1,hp2⟩:=hP.len
 obtain ⟨g,hg⟩:∃ g:CsG,g=⟨ps,sa,ss.length,sc,b2,b4,ca,cc,pa,pc,aa,ac⟩:=⟨_,rfl⟩
 have gps:g.ps=ps:=by rw [hg]
 have gsn:g.sn=ss.length:=by rw [hg]
 have gsa:In w0 [] g.sa (lsL ss):=by rw [hg];exact hin
 rw [←hg] at hA hR
 refine wp_block (wp_loop_ghost (fun m a w=>∃ j cls Ds,j<=ps.length/\ps.length - j=m/\CI ps j cls/\Agree 58 (Ds.map dfD) (g.E2 j) a/\R w0 [] (g.H2 cls (vF ps ss j) Ds) w) ps.length ⟨0,List.replicate 256 0,[],Nat.zero_le _,rfl,CI.start ps,hA,hR⟩ ?_)
 clear hA hR e a L w
 rintro m a w ⟨j,cls,Ds,hj,rfl,hC,hA,hR⟩
 have hlp:(g.E2 j)=(g.E2 j):=rfl
 rw [zxe]
 refine u5 (G:=fun e L=>VC Tryz.prog w0 [] zqH (kE 0 (fun e L=>Stop (j<ps.length/\xk (g.E2 j) e/\Ref w0 [] L (g.H2 cls (vF ps ss j) Ds))) (fun e L=>Stop (j=ps.length/\xk (g.E2 j) e/\Ref w0 [] L (g.H2 cls (vF ps ss j) Ds)))) e L) zw1 hA hR ?_ ?_
 ·rw [hg]
  (repeat' ((conv=>whnf);first|((first|apply zc|apply za|apply zd)<;>intro h<;>try (exfalso;omega))|refine pay ?_|intro _));(all_goals (conv=>whnf))
  ·exact ⟨⟨by dsimp only at *;omega,by (repeat ((conv=>whnf);refine vS ?_));exact trivial,Ref.refl _⟩⟩
  ·exact ⟨⟨by dsimp only at *;omega,by (repeat ((conv=>whnf);refine vS ?_));exact trivial,Ref.refl _⟩⟩
 clear hA hR a w
 rintro e a L w hA hR hG5
 refine zoO zvI hA hR hG5 ?_ ?_
 ·clear hA hR hG5 e a L w
  rintro e a L w hA hR ⟨hlt,hs,hr⟩
  obtain ⟨p,hp⟩:∃ p,ps[j]?=some p:=⟨_,g2q hlt⟩
  refine wp_seq (wp_block (zs9 g j p ss cls (vF ps ss j) Ds gsn hl gsa hC.len (by rw [zoQ,gps]) (by rw [gps];exact hp) (by rw [gps];exact hp2) (by rw [zoR _ _ _ _ hlt,if_neg (Nat.lt_irrefl _)]) (zU hA hs) (hr _ hR) ?_))
  clear hA hR hs hr e a L w
  intro D a w hA hR
  rw [zs8 ss hp] at hR
  refine wpK (K:=kN fun e L=>Stop (xk (g.E2 (j+1)) e/\Ref w0 [] L (g.H2 (yr p j cls 256) (vF ps ss (j+1)) (D::Ds)))) zvL hA hR (by rw [hg];(repeat' ((conv=>whnf);first|((first|apply zc|apply za|apply zd)<;>intro h<;>try (exfalso;omega))|refine pay ?_|intro _));(all_goals (conv=>whnf));exact ⟨⟨by (repeat ((conv=>whnf);refine vS ?_));exact trivial,Ref.refl _⟩⟩) ?_
  rintro x a w e L hA hR hk
  cases x with
  | normal=>obtain ⟨hs,hr⟩:=hk;exact ⟨ps.length - (j+1),by omega,j+1,_,D::Ds,by omega,rfl,hC.next hP hp,zU hA hs,hr _ hR⟩
  | _=>exact hk.elim
 ·clear hA hR hG5 e a L w
  rintro e a L w hA hR ⟨hje,hs,hr⟩
  subst hje
  replace hA:=zU hA hs
  replace hR:=hr _ hR
  clear hs hr
  refine wpK (K:=fun x e L=>match x with
   | .ret=>Stop (xk [(2,.ptr 2 b2 0),(3,.sl 818 aa ps.length ac)] e/\Ref w0 [] L [msE Ds,.box 2 b2 g.M zg,.own 801 ca 256 cc zk 1 (enL cls),.own 818 aa ps.length ac qr 1 (ulL (vF ps ss ps.length))])
   | _=>False) zxb hA hR (by rw [hg];(repeat' ((conv=>whnf);first|((first|apply zc|apply za|apply zd)<;>intro h<;>try (exfalso;omega))|refine pay ?_|intro _));(all_goals (conv=>whnf));exact ⟨⟨by (repeat ((conv=>whnf);refine vS ?_));exact trivial,Ref.takes [9003,2,801,818] rfl (.refl _)⟩⟩) ?_
  rintro x a w e L hA hR hk
  cases x with
  | ret =>
    obtain ⟨hs,hr⟩:=hk
    refine zsW (e:=[(2,.ptr 2 b2 0),(3,.sl 818 aa ps.length ac)]) (K:=fun v L'=>∃ L1,Ref w0 [] L' L1/\clQ ss v L1) hrs (zU hA hs) (zoP (hr _ hR)) ?_
    rw [hg]
    (repeat' ((conv=>whnf);first|((first|apply zc|apply za|apply zd)<;>intro h<;>try (exfalso;omega))|refine pay ?_|intro _));(all_goals (conv=>whnf))
    exact ⟨⟨_,Ref.takes [801,818] rfl (.refl _),ps,cls,ca,cc,aa,ac,rfl,rfl,hP,hH,hC⟩⟩
  | _=>exact hk.elim
end
section
open Go.EG
theorem zoS {v s:List Nat} {b:Nat} (h:v <:+ s++[b]):v=[]∨∃ v',v=v'++[b]/\v' <:+ s:=by
 rcases List.eq_nil_or_concat v with h0|⟨v',x,rfl⟩
 ·exact .inl h0
 ·rw [List.concat_eq_append] at h ⊢
  obtain ⟨u,hu⟩:=h
  rw [←List.append_assoc] at hu
  obtain ⟨h1,h2⟩:=List.append_inj' hu rfl
  simp at h2
  subst h2
  exact .inr ⟨v',rfl,u,h1⟩
theorem zoT {v s:List Nat} (b:Nat) (h:v <:+ s):v++[b] <:+ s++[b]:=by
 obtain ⟨u,rfl⟩:=h
 exact ⟨u,by rw [List.append_assoc]⟩
theorem zg3 {x:Nat} (h0:0<x) (h:x<18446744073709551616) (i:Nat):(x&&&(x - 1)).testBit i=(x.testBit i&&decide (i≠Lib.ctz 64 x)):=by
 have hc:Lib.ctz 64 x=Lib.ctzFrom 64 x:=by unfold Lib.ctz;rw [if_neg (by omega)]
 obtain ⟨m,hm,hk⟩:=Lib.ctzFrom_spec 64 x h0 h
 rw [hc]
 generalize Lib.ctzFrom 64 x=k at *
 have hp:0<2 ^ k:=Nat.pow_pos (by decide)
 have e1:x=2 ^ k*(2*m+1)+0:=by omega
 have e2:x - 1=2 ^ k*(2*m)+(2 ^ k - 1):=by
  rw [hm,Nat.mul_add,Nat.mul_one];omega
 rw [Nat.testBit_and,e2]
 have b1:x.testBit i=if i<k then (0:Nat).testBit i else (2*m+1).testBit (i - k):=by
  conv=>lhs;rw [e1]
  exact Nat.testBit_two_pow_mul_add _ hp _
 have b2:(2 ^ k*(2*m)+(2 ^ k - 1)).testBit i=if i<k then (2 ^ k - 1).testBit i else (2*m).testBit (i - k):=Nat.testBit_two_pow_mul_add _ (by omega) _
 rw [b1,b2]
 by_cases hi:i<k
 ·simp [hi]
 ·rw [if_neg hi,if_neg hi]
  by_cases he:i=k
  ·subst he;simp
  ·obtain ⟨j,hj⟩:∃ j,i - k=j+1:=⟨i - k - 1,by omega⟩
   rw [hj,Nat.testBit_succ,Nat.testBit_succ,show (2*m+1)/2=m by omega,show 2*m/2=m by omega]
   simp [he]
theorem zhr {x:Nat} (h0:0<x) (h:x<18446744073709551616):x.testBit (Lib.ctz 64 x)=true:=by
 have hc:Lib.ctz 64 x=Lib.ctzFrom 64 x:=by unfold Lib.ctz;rw [if_neg (by omega)]
 obtain ⟨m,hm,hk⟩:=Lib.ctzFrom_spec 64 x h0 h
 rw [hc]
 generalize Lib.ctzFrom 64 x=k at *
 have hp:0<2 ^ k:=Nat.pow_pos (by decide)
 have e1:x=2 ^ k*(2*m+1)+0:=by omega
 rw [e1,Nat.testBit_two_pow_mul_add _ hp,if_neg (Nat.lt_irrefl _)]
 simp
theorem zoU {x i n:Nat} (h:x<2 ^ n) (hb:x.testBit i=true):i<n:=by
 rcases Nat.lt_or_ge i n with h1|h1
 ·exact h1
 ·rw [Nat.testBit_lt_two_pow (Nat.lt_of_lt_of_le h (Nat.pow_le_pow_right (by decide) h1))] at hb;cases hb
def qv (fol:List Nat) (fr to:Nat):List Nat:=(List.range fol.length).map fun i=>if fr.testBit i=true then fol.getD i 0|||to else fol.getD i 0
theorem xF (fol:List Nat) (fr to:Nat):(qv fol fr to).length=fol.length:=by simp [qv]
theorem jV (fol:List Nat) (fr to i:Nat) (h:i<fol.length):(qv fol fr to).getD i 0=if fr.testBit i=true then fol.getD i 0|||to else fol.getD i 0:=by
 simp [qv,g1q,h]
theorem zoV {a b:List Nat} (hl:a.length=b.length) (h:∀ i,i<a.length->a.getD i 0=b.getD i 0):a=b:=by
 refine List.ext_getElem hl fun i h1 h2=>?_
 have:=h i h1
 rwa [g1q,g1q,g2q h1,g2q h2] at this
theorem zrA (fol:List Nat) (to:Nat):qv fol 0 to=fol :=
 zoV (xF ..) fun i h=>by rw [jV _ _ _ _ (by rwa [xF] at h)];simp
theorem zrB {fol:List Nat} {x to:Nat} (h0:0<x) (h:x<18446744073709551616) (hk:Lib.ctz 64 x<fol.length):qv (fol.set (Lib.ctz 64 x) (fol.getD (Lib.ctz 64 x) 0|||to)) (x&&&(x - 1)) to=qv fol x to:=by
 refine zoV (by simp [xF]) fun i hi=>?_
 have hi2:i<fol.length:=by simpa [xF] using hi
 rw [jV _ _ _ _ (by simpa using hi2),jV _ _ _ _ hi2,zg3 h0 h]
 by_cases he:i=Lib.ctz 64 x
 ·rw [g1q,he,List.getElem?_set_self hk,zhr h0 h]
  simp
 ·rw [g1q,List.getElem?_set_ne (fun h=>he h.symm),←g1q]
  simp [he]
def zlr (fol:List Nat) (s:Nat):Nat->Nat
 | 0=>0
 | n+1=>if s.testBit n=true then zlr fol s n|||fol.getD n 0 else zlr fol s n
def aft (fol:List Nat) (s:Nat):Nat:=zlr fol s fol.length
theorem zoW (fol:List Nat) (s j:Nat):∀ n,(zlr fol s n).testBit j=true↔∃ i,i<n/\s.testBit i=true/\(fol.getD i 0).testBit j=true
 | 0=>by simp [zlr]
 | n + 1 => by
   have ih:=zoW fol s j n
   unfold zlr
   split
   ·rename_i hs
    rw [Nat.testBit_or,Bool.or_eq_true,ih]
    constructor
    ·rintro (⟨i,h1,h2,h3⟩|h)
     ·exact ⟨i,by omega,h2,h3⟩
     ·exact ⟨n,by omega,hs,h⟩
    ·rintro ⟨i,h1,h2,h3⟩
     by_cases he:i=n
     ·subst he;exact .inr h3
     ·exact .inl ⟨i,by omega,h2,h3⟩
   ·rename_i hs
    rw [ih]
    constructor
    ·rintro ⟨i,h1,h2,h3⟩;exact ⟨i,by omega,h2,h3⟩
    ·rintro ⟨i,h1,h2,h3⟩
     have:i≠n:=fun he=>hs (he ▸ h2)
     exact ⟨i,by omega,h2,h3⟩
theorem zeI (fol:List Nat) (s j:Nat):(aft fol s).testBit j=true↔∃ i,i<fol.length/\s.testBit i=true/\(fol.getD i 0).testBit j=true:=zoW ..
theorem zuI (fol:List Nat):aft fol 0=0:=by
 refine Nat.eq_of_testBit_eq fun j=>?_
 rw [Nat.zero_testBit,Bool.eq_false_iff]
 intro h
 obtain ⟨i,_,h2,_⟩:=(zeI ..).1 h
 simp at h2
theorem zuJ {fol:List Nat} {x:Nat} (h0:0<x) (h:x<18446744073709551616) (hk:Lib.ctz 64 x<fol.length):fol.getD (Lib.ctz 64 x) 0|||aft fol (x&&&(x - 1))=aft fol x:=by
 refine Nat.eq_of_testBit_eq fun j=>?_
 rw [Bool.eq_iff_iff,Nat.testBit_or,Bool.or_eq_true,zeI,zeI]
 constructor
 ·rintro (hb|⟨i,h1,h2,h3⟩)
  ·exact ⟨_,hk,zhr h0 h,hb⟩
  ·rw [zg3 h0 h,Bool.and_eq_true] at h2
   exact ⟨i,h1,h2.1,h3⟩
 ·rintro ⟨i,h1,h2,h3⟩
  by_cases he:i=Lib.ctz 64 x
  ·subst he;exact .inl h3
  ·exact .inr ⟨i,h1,by rw [zg3 h0 h,h2];simp [he],h3⟩
theorem zta {fol:List Nat} {s n:Nat} (h:∀ x∈fol,x<2 ^ n):aft fol s<2 ^ n:=by
 refine Nat.lt_pow_two_of_testBit _ fun j hj=>?_
 rw [Bool.eq_false_iff]
 intro hb
 obtain ⟨i,h1,_,h3⟩:=(zeI ..).1 hb
 have:=zoU (h _ (zZ h1)) h3
 omega
inductive RT where
 | mk (k:Int) (s:Ls) (mn mx:Int) (ps:List RT) (a:Option Addr) (c:Nat)
def RT.cells:RT->List Value
 | .mk k s mn mx ps a c=>[.int .i64 k,.int .u64 (s.a:Int),.int .u64 (s.b:Int),.int .u64 (s.c:Int),.int .u64 (s.d:Int),.int .i64 mn,.int .i64 mx,.slice a ps.length c]
abbrev RT.v (r:RT):Value:=.agg r.cells.toArray
def rtL (ps:List RT):List Value:=ps.flatMap RT.cells
theorem RT.cells_len:∀ r:RT,r.cells.length=8
 | .mk ..=>rfl
theorem vG:∀ ps:List RT,(rtL ps).length=ps.length*8
 | []=>rfl
 | p :: ps => by
   have ih:=vG ps
   have e:rtL (p::ps)=p.cells++rtL ps:=rfl
   rw [e,g6q,ih,RT.cells_len,List.length_cons];omega
theorem zjc:∀ {ps:List RT} {i:Nat} {p:RT},ps[i]?=some p->((rtL ps).drop (i*8)).take 8=p.cells
 | [],i,p,h=>by simp at h
 | t :: ps,0,p,h => by
   simp only [List.getElem?_cons_zero,g3q] at h
   subst h
   have e:rtL (t::ps)=t.cells++rtL ps:=rfl
   rw [e,Nat.zero_mul,List.drop_zero]
   have:=RT.cells_len t
   rw [←this];exact List.take_left
 | t :: ps,i + 1,p,h => by
   simp only [List.getElem?_cons_succ] at h
   have ih:=zjc h
   have e:rtL (t::ps)=t.cells++rtL ps:=rfl
   rw [e,show (i+1)*8=t.cells.length+i*8 by rw [RT.cells_len];omega,←List.drop_drop,List.drop_left]
   exact ih
def cpN (mn mx:Int):Nat:=if mx=-1 then max mn.toNat 1 else mx.toNat
mutual
def RT.size:RT->Nat
 | .mk _ _ _ _ ps _ _=>RT.sizes ps+1
def RT.sizes:List RT->Nat
 | []=>0
 | p::ps=>p.size+RT.sizes ps
end
mutual
def RT.pos:RT->Nat
 | .mk k _ mn mx ps _ _=>if k=5 then RT.poss ps*cpN mn mx else (if k=2 then 1 else 0)+RT.poss ps
def RT.poss:List RT->Nat
 | []=>0
 | p::ps=>p.pos+RT.poss ps
end
mutual
def RT.wrt:RT->Nat
 | .mk k _ mn mx ps _ _=>if k=5 then RT.wrts ps*cpN mn mx+1 else RT.wrts ps+1
def RT.wrts:List RT->Nat
 | []=>0
 | p::ps=>p.wrt+RT.wrts ps
end
mutual
def RT.rows:RT->List (Option Addr × List Value)
 | .mk _ _ _ _ ps a _=>(a,rtL ps)::RT.rowss ps
def RT.rowss:List RT->List (Option Addr × List Value)
 | []=>[]
 | p::ps=>p.rows++RT.rowss ps
end
theorem RT.pos2 {k:Int} {s:Ls} {mn mx:Int} {ps:List RT} {a:Option Addr} {c:Nat} (h:k=2):(RT.mk k s mn mx ps a c).pos=1+RT.poss ps:=by rw [RT.pos,if_neg (by omega),if_pos h]
theorem RT.pos5 {k:Int} {s:Ls} {mn mx:Int} {ps:List RT} {a:Option Addr} {c:Nat} (h:k=5):(RT.mk k s mn mx ps a c).pos=RT.poss ps*cpN mn mx:=by rw [RT.pos,if_pos h]
theorem RT.poso {k:Int} {s:Ls} {mn mx:Int} {ps:List RT} {a:Option Addr} {c:Nat} (h2:k≠2) (h5:k≠5):(RT.mk k s mn mx ps a c).pos=RT.poss ps:=by rw [RT.pos,if_neg h5,if_neg h2,Nat.zero_add]
def RT.VN:RT->Prop
 | .mk k s mn mx ps _ _=>(k=2∨s.zero)/\(k=5∨(mn=0/\mx=0)) /\
  (((k=1∨k=2)/\ps.length=0)∨((k=3∨k=4)/\2<=ps.length)∨(k=5/\ps.length=1/\0<=mn/\mn<=64/\(mx=-1∨(mn<=mx/\mx<=64))))
mutual
def RT.Vl:RT->Prop
 | .mk k s mn mx ps a c=>RT.VN (.mk k s mn mx ps a c)/\RT.Vls ps
def RT.Vls:List RT->Prop
 | []=>True
 | p::ps=>p.Vl/\RT.Vls ps
end
theorem RT.Vl_mem {p:RT}:∀ {ps:List RT},RT.Vls ps->p∈ps->p.Vl
 | q :: ps,h,hp => by
   rw [RT.Vls] at h
   rcases List.mem_cons.1 hp with rfl|hp
   ·exact h.1
   ·exact RT.Vl_mem h.2 hp
theorem RT.Vls_of:∀ {ps:List RT},(∀ p∈ps,p.Vl)->RT.Vls ps
 | [],_=>by rw [RT.Vls];trivial
 | q::ps,h=>by rw [RT.Vls];exact ⟨h q g5q,RT.Vls_of fun p hp=>h p (g4q _ hp)⟩
theorem RT.len_sizes:∀ ps:List RT,ps.length<=RT.sizes ps
 | []=>Nat.le_refl _
 | .mk k s mn mx qs a c :: ps => by
   have:=RT.len_sizes ps
   rw [RT.sizes,RT.size,List.length_cons];omega
theorem RT.size_mem {p:RT}:∀ {ps:List RT},p∈ps->p.size<=RT.sizes ps
 | q :: ps,h => by
   rw [RT.sizes]
   rcases List.mem_cons.1 h with rfl|h
   ·omega
   ·have:=RT.size_mem h;omega
theorem RT.rows_mem {p:RT} {x:Option Addr × List Value} (hx:x∈p.rows):∀ {ps:List RT},p∈ps->x∈RT.rowss ps
 | q :: ps,h => by
   rw [RT.rowss]
   rcases List.mem_cons.1 h with rfl|h
   ·exact List.mem_append_left _ hx
   ·exact List.mem_append_right _ (RT.rows_mem hx h)
def RIn (w:World) (fp:List Nat) (r:RT):Prop:=∀ x∈r.rows,In w fp x.1 x.2
theorem RIn.castL {w0 w:World} {fp0:List Nat} {L0 Lr:List Ent} {r:RT} (h:RIn w0 fp0 r) (hR:R w0 fp0 (L0++Lr) w):RIn w (fps L0) r:=fun x hx=>(h x hx).castL hR
theorem RIn.row {w:World} {fp:List Nat} {k:Int} {s:Ls} {mn mx:Int} {ps:List RT} {a:Option Addr} {c:Nat} (h:RIn w fp (.mk k s mn mx ps a c)):In w fp a (rtL ps):=h _ (by rw [RT.rows];exact g5q)
theorem RIn.rdp {w:World} {fp:List Nat} {L:List Ent} {k:Int} {s:Ls} {mn mx:Int} {ps:List RT} {a:Option Addr} {c i:Nat} {p:RT} (h:RIn w fp (.mk k s mn mx ps a c)) (hp:ps[i]?=some p):Rd w fp L (.el a (i*8)) p.cells :=
 h.row.rdn (vs:=p.cells) (by rw [RT.cells_len];decide) (by rw [RT.cells_len];exact zjc hp)
theorem RIn.kid {w:World} {fp:List Nat} {k:Int} {s:Ls} {mn mx:Int} {ps:List RT} {a:Option Addr} {c:Nat} {p:RT} (h:RIn w fp (.mk k s mn mx ps a c)) (hp:p∈ps):RIn w fp p:=fun x hx=>h x (by rw [RT.rows];exact g4q _ (RT.rows_mem hx hp))
structure Pz where
 nl:Bool
 fs:Nat
 lt:Nat
abbrev Pz.cells (p:Pz):List Value:=[.bool p.nl,.int .u64 (p.fs:Int),.int .u64 (p.lt:Int)]
abbrev Pz.v (p:Pz):Value:=.agg p.cells.toArray
abbrev WS:Type:=List Ls × List Nat
def yV (fol:List Nat) (a b:Pz):List Nat × Pz:=(qv fol a.lt b.fs,⟨a.nl&&b.nl,if a.nl=true then a.fs|||b.fs else a.fs,if b.nl=true then b.lt|||a.lt else b.lt⟩)
def zls (a b:Pz):Pz:=⟨a.nl||b.nl,a.fs|||b.fs,a.lt|||b.lt⟩
def itW (f:WS->WS × Pz):Nat->WS->WS × List Pz
 | 0,st=>(st,[])
 | n+1,st=>((itW f n (f st).1).1,(f st).2::(itW f n (f st).1).2)
def zfL (mn:Int) (inf:Bool) (i:Nat) (lst:Bool) (c:Pz) (z:List Nat × Pz):List Nat × Pz :=
 ((yV (if (inf&&lst)=true then qv z.1 c.lt c.fs else z.1) c z.2).1,if mn<=(i:Int) then { (yV (if (inf&&lst)=true then qv z.1 c.lt c.fs else z.1) c z.2).2 with nl:=true } else (yV (if (inf&&lst)=true then qv z.1 c.lt c.fs else z.1) c z.2).2)
def xx (mn:Int) (inf:Bool):Nat->List Pz->List Nat->List Nat × Pz
 | _,[],fol=>(fol,⟨true,0,0⟩)
 | i,c::cs,fol=>zfL mn inf i cs.isEmpty c (xx mn inf (i+1) cs fol)
mutual
def RT.wr:RT->WS->WS × Pz
 | .mk k s mn mx ps _ _,st=>if k=2 then ((st.1++[s],st.2++[0]),⟨false,2 ^ st.1.length,2 ^ st.1.length⟩) else
  if k=3 then RT.wrS ps ⟨true,0,0⟩ st else if k=4 then RT.wrA ps ⟨false,0,0⟩ st else
  if k=5 then (((RT.wrR ps (cpN mn mx) st).1.1,(xx mn (mx == -1) 0 (RT.wrR ps (cpN mn mx) st).2 (RT.wrR ps (cpN mn mx) st).1.2).1),(xx mn (mx == -1) 0 (RT.wrR ps (cpN mn mx) st).2 (RT.wrR ps (cpN mn mx) st).1.2).2)
  else (st,⟨true,0,0⟩)
def RT.wrS:List RT->Pz->WS->WS × Pz
 | [],a,st=>(st,a)
 | p::ps,a,st=>RT.wrS ps (yV (p.wr st).1.2 a (p.wr st).2).2 ((p.wr st).1.1,(yV (p.wr st).1.2 a (p.wr st).2).1)
def RT.wrA:List RT->Pz->WS->WS × Pz
 | [],a,st=>(st,a)
 | p::ps,a,st=>RT.wrA ps (zls a (p.wr st).2) (p.wr st).1
def RT.wrR:List RT->Nat->WS->WS × List Pz
 | [],_,st=>(st,[])
 | p::_,n,st=>itW (p.wr) n st
end
structure WOk (st:WS):Prop where
 len:st.2.length=st.1.length
 lt:∀ x∈st.2,x<18446744073709551616
def PzOk (n:Nat) (p:Pz):Prop:=p.fs<2 ^ n/\p.lt<2 ^ n
theorem PzOk.mono {n m:Nat} {p:Pz} (h:PzOk n p) (hm:n<=m):PzOk m p :=
 ⟨Nat.lt_of_lt_of_le h.1 (Nat.pow_le_pow_right (by decide) hm),Nat.lt_of_lt_of_le h.2 (Nat.pow_le_pow_right (by decide) hm)⟩
theorem PzOk.zero (n:Nat) (b:Bool):PzOk n ⟨b,0,0⟩:=⟨Nat.pow_pos (by decide),Nat.pow_pos (by decide)⟩
theorem zm3 {a b n:Nat} (h:a<2 ^ n) (k:b<2 ^ n):a|||b<2 ^ n:=Nat.or_lt_two_pow h k
theorem zfM {fol:List Nat} {fr to:Nat} (h:∀ x∈fol,x<18446744073709551616) (ht:to<18446744073709551616):∀ x∈qv fol fr to,x<18446744073709551616:=by
 intro x hx
 obtain ⟨i,hi,rfl⟩:=List.mem_map.1 hx
 have hi:=List.mem_range.1 hi
 have h1:fol.getD i 0<18446744073709551616:=h _ (zZ hi)
 split
 ·exact Nat.or_lt_two_pow (n:=64) h1 ht
 ·exact h1
theorem zhs {st:WS} {n:Nat} {a b:Pz} (hw:WOk st) (hn:n<=64) (ha:PzOk n a) (hb:PzOk n b):WOk (st.1,(yV st.2 a b).1)/\PzOk n (yV st.2 a b).2:=by
 have h2:b.fs<18446744073709551616:=Nat.lt_of_lt_of_le hb.1 (Nat.pow_le_pow_right (n:=2) (j:=64) (by decide) hn)
 refine ⟨⟨by simp only [yV];rw [xF];exact hw.len,zfM hw.lt h2⟩,?_,?_⟩
 ·simp only [yV];split
  ·exact zm3 ha.1 hb.1
  ·exact ha.1
 ·simp only [yV];split
  ·exact zm3 hb.2 ha.2
  ·exact hb.2
theorem zqI {n:Nat} {a b:Pz} (ha:PzOk n a) (hb:PzOk n b):PzOk n (zls a b):=⟨zm3 ha.1 hb.1,zm3 ha.2 hb.2⟩
theorem zg4 {f:WS->WS × Pz} {p:Nat} (hf:∀ st,WOk st->st.1.length+p<=64->WOk (f st).1/\PzOk (f st).1.1.length (f st).2/\(f st).1.1.length<=st.1.length+p/\st.1.length<=(f st).1.1.length) :
 ∀ (n:Nat) (st:WS),WOk st->st.1.length+p*n<=64->WOk (itW f n st).1/\(∀ c∈(itW f n st).2,PzOk (itW f n st).1.1.length c)/\(itW f n st).1.1.length<=st.1.length+p*n/\st.1.length<=(itW f n st).1.1.length/\(itW f n st).2.length=n
 | 0,st,hw,hl=>⟨hw,(fun c h=>by cases h),by simp [itW],by simp [itW],rfl⟩
 | n + 1,st,hw,hl => by
   rw [Nat.mul_succ] at hl ⊢
   obtain ⟨h1,h2,h3,h4⟩:=hf st hw (by omega)
   obtain ⟨k1,k2,k3,k4,k5⟩:=zg4 hf n _ h1 (by omega)
   rw [itW]
   refine ⟨k1,fun c hc=>?_,by dsimp only;omega,by dsimp only;omega,by dsimp only;rw [List.length_cons,k5]⟩
   rcases List.mem_cons.1 hc with rfl|hc
   ·exact h2.mono k4
   ·exact k2 c hc
theorem zvU {ss:List Ls} {n:Nat} {mn:Int} {inf:Bool} {i:Nat} {l:Bool} {c:Pz} {z:List Nat × Pz} (hw:WOk (ss,z.1)) (hn:n<=64) (hc:PzOk n c) (hz:PzOk n z.2):WOk (ss,(zfL mn inf i l c z).1)/\PzOk n (zfL mn inf i l c z).2:=by
 have h2:c.fs<18446744073709551616:=Nat.lt_of_lt_of_le hc.1 (Nat.pow_le_pow_right (n:=2) (j:=64) (by decide) hn)
 have hw2:WOk (ss,if (inf&&l)=true then qv z.1 c.lt c.fs else z.1):=by
  split
  ·exact ⟨by rw [xF];exact hw.len,zfM hw.lt h2⟩
  ·exact hw
 obtain ⟨k1,k2⟩:=zhs hw2 hn hc hz
 unfold zfL
 refine ⟨k1,?_⟩
 dsimp only
 split
 ·exact k2
 ·exact k2
theorem zht {ss:List Ls} {n:Nat} {mn:Int} {inf:Bool} (hn:n<=64):∀ (i:Nat) (cs:List Pz) (fol:List Nat),WOk (ss,fol)->(∀ c∈cs,PzOk n c)->WOk (ss,(xx mn inf i cs fol).1)/\PzOk n (xx mn inf i cs fol).2
 | i,[],fol,hw,hc=>⟨hw,PzOk.zero ..⟩
 | i,c :: cs,fol,hw,hc => by
   obtain ⟨k1,k2⟩:=zht hn (i+1) cs fol hw fun x hx=>hc x (g4q _ hx)
   rw [xx]
   exact zvU k1 hn (hc c g5q) k2
mutual
theorem RT.wr_ok:∀ (r:RT) (st:WS),WOk st->st.1.length+r.pos<=64->WOk (r.wr st).1/\PzOk (r.wr st).1.1.length (r.wr st).2/\(r.wr st).1.1.length<=st.1.length+r.pos/\st.1.length<=(r.wr st).1.1.length
 | .mk k s mn mx ps a c,st,hw,hl => by
   rw [RT.wr]
   by_cases h2:k=2
   ·rw [RT.pos2 h2] at hl ⊢
    rw [if_pos h2]
    have hp:2 ^ st.1.length<2 ^ (st.1.length+1):=Nat.pow_lt_pow_right (by decide) (Nat.lt_succ_self _)
    refine ⟨⟨by simp [hw.len],fun x hx=>?_⟩,⟨by simpa using hp,by simpa using hp⟩,by simp,by simp⟩
    rcases List.mem_append.1 hx with hx|hx
    ·exact hw.lt x hx
    ·rw [List.mem_singleton.1 hx];decide
   ·by_cases h5:k=5
    ·rw [RT.pos5 h5] at hl ⊢
     rw [if_neg h2,if_neg (by omega),if_neg (by omega),if_pos h5]
     obtain ⟨k1,k2,k3,k4⟩:=RT.wrR_ok ps (cpN mn mx) st hw hl
     generalize RT.wrR ps (cpN mn mx) st=q at *
     obtain ⟨⟨ss,fol⟩,cs⟩:=q
     dsimp only at k1 k2 k3 k4 ⊢
     obtain ⟨j1,j2⟩:=zht (mn:=mn) (inf:=mx == -1) (by omega:ss.length<=64) 0 cs fol k1 k2
     exact ⟨j1,j2,by omega,by omega⟩
    ·rw [RT.poso h2 h5] at hl ⊢
     rw [if_neg h2]
     by_cases h3:k=3
     ·rw [if_pos h3];exact RT.wrS_ok ps ⟨true,0,0⟩ st hw (PzOk.zero ..) hl
     ·rw [if_neg h3]
      by_cases h4:k=4
      ·rw [if_pos h4];exact RT.wrA_ok ps ⟨false,0,0⟩ st hw (PzOk.zero ..) hl
      ·rw [if_neg h4,if_neg h5];exact ⟨hw,PzOk.zero ..,by dsimp only;omega,by dsimp only;omega⟩
theorem RT.wrS_ok:∀ (ps:List RT) (a:Pz) (st:WS),WOk st->PzOk st.1.length a->st.1.length+RT.poss ps<=64->WOk (RT.wrS ps a st).1/\PzOk (RT.wrS ps a st).1.1.length (RT.wrS ps a st).2/\(RT.wrS ps a st).1.1.length<=st.1.length+RT.poss ps/\st.1.length<=(RT.wrS ps a st).1.1.length
 | [],a,st,hw,ha,hl=>⟨hw,ha,by simp [RT.wrS],by simp [RT.wrS]⟩
 | p :: ps,a,st,hw,ha,hl => by
   rw [RT.poss] at hl ⊢
   rw [RT.wrS]
   obtain ⟨h1,h2,h3,h4⟩:=RT.wr_ok p st hw (by omega)
   obtain ⟨k1,k2⟩:=zhs h1 (by omega) (ha.mono h4) h2
   obtain ⟨q1,q2,q3,q4⟩:=RT.wrS_ok ps _ _ k1 k2 (by dsimp only;omega)
   dsimp only at q3 q4
   exact ⟨q1,q2,by omega,by omega⟩
theorem RT.wrA_ok:∀ (ps:List RT) (a:Pz) (st:WS),WOk st->PzOk st.1.length a->st.1.length+RT.poss ps<=64->WOk (RT.wrA ps a st).1/\PzOk (RT.wrA ps a st).1.1.length (RT.wrA ps a st).2/\(RT.wrA ps a st).1.1.length<=st.1.length+RT.poss ps/\st.1.length<=(RT.wrA ps a st).1.1.length
 | [],a,st,hw,ha,hl=>⟨hw,ha,by simp [RT.wrA],by simp [RT.wrA]⟩
 | p :: ps,a,st,hw,ha,hl => by
   rw [RT.poss] at hl ⊢
   rw [RT.wrA]
   obtain ⟨h1,h2,h3,h4⟩:=RT.wr_ok p st hw (by omega)
   obtain ⟨q1,q2,q3,q4⟩:=RT.wrA_ok ps _ _ h1 (zqI (ha.mono h4) h2) (by omega)
   exact ⟨q1,q2,by omega,by omega⟩
theorem RT.wrR_ok:∀ (ps:List RT) (n:Nat) (st:WS),WOk st->st.1.length+RT.poss ps*n<=64->WOk (RT.wrR ps n st).1/\(∀ c∈(RT.wrR ps n st).2,PzOk (RT.wrR ps n st).1.1.length c)/\(RT.wrR ps n st).1.1.length<=st.1.length+RT.poss ps*n/\st.1.length<=(RT.wrR ps n st).1.1.length
 | [],n,st,hw,hl=>by rw [RT.wrR];exact ⟨hw,(fun c h=>by cases h),Nat.le_add_right _ _,Nat.le_refl _⟩
 | p :: ps,n,st,hw,hl => by
   rw [RT.poss,Nat.add_mul] at hl ⊢
   rw [RT.wrR]
   obtain ⟨k1,k2,k3,k4,_⟩:=zg4 (fun st h1 h2=>RT.wr_ok p st h1 h2) n st hw (by omega)
   exact ⟨k1,k2,by omega,k4⟩
end
end
section
open Go.EG
attribute [local irreducible] zT yE Go.Calls
set_option maxRecDepth 20000
set_option maxHeartbeats 4000000
abbrev zfN (w:World) (fp:List Nat):Prop:=In w fp (some ⟨0,0,none⟩) (zu .u8 tabI)
abbrev wL (b:Nat) (st:WS) (sa:Option Addr) (sc:Nat) (fa:Option Addr) (fc:Nat):List Ent :=
 [.box 7000 b [.slice sa st.1.length sc,.slice fa st.2.length fc] xL,.own 7001 sa st.1.length sc zj 4 (lsL st.1),.own 7002 fa st.2.length fc qr 1 (ulL st.2)]
theorem zu8 {l:List Nat} (h:∀ x∈l,x<18446744073709551616) {i:Nat}:(0:Int)<=((l.getD i 0:Nat):Int)/\((l.getD i 0:Nat):Int)<=18446744073709551615:=by
 by_cases hi:i<l.length
 ·have:=h _ (zZ (d:=0) hi)
  omega
 ·rw [g1q,List.getElem?_eq_none (by omega)];decide
theorem zqJ {x:Nat} (h0:0<x) (h:x<18446744073709551616):(((x:Nat):Int) - 1)%18446744073709551616=((x - 1:Nat):Int):=by omega
structure LkG where
 x:Nat
 fol:List Nat
theorem zfO (b:Nat) (st:WS) (sa:Option Addr) (sc:Nat) (fa:Option Addr) (fc:Nat) (fr to:Nat) (hw:WOk st) (hl:st.1.length<=64) (hfr:fr<2 ^ st.1.length) (hto:to<18446744073709551616) (fp:List Nat) (w:World) (hG:zfN w fp) (hR:R w fp (wL b st sa sc fa fc) w) :
 Calls Tryz.prog y7 #[pS b,.int .u64 (fr:Int),.int .u64 (to:Int)] w fun e w'=>∃ v L1,e=.returned v/\R w fp L1 w'/\(v=.tuple #[]/\L1=wL b (st.1,qv st.2 fr to) sa sc fa fc):=by
 refine zr [.ptr 7000 b 0,.v (.int .u64 (fr:Int)),.v (.int .u64 (to:Int))] zc3 (by simp) hR ?_
 have hfl:=hw.len
 (repeat' ((conv=>whnf);first|((first|apply zc|apply za|apply zd)<;>intro h<;>try (exfalso;omega))|refine pay ?_|intro _));(all_goals (conv=>whnf))
 refine zw LkG (fun g=>[(0,.ptr 7000 b 0),(1,.v (.int .u64 (g.x:Int))),(2,.v (.int .u64 (to:Int)))]) (fun g=>wL b (st.1,g.fol) sa sc fa fc)
  (fun g=>g.fol.length=st.1.length/\g.x<2 ^ st.1.length/\qv g.fol g.x to=qv st.2 fr to/\∀ y∈g.fol,y<18446744073709551616) (fun g=>g.x) ⟨fr,st.2⟩ ⟨hfl,hfr,rfl,hw.lt⟩ (by (repeat ((conv=>whnf);refine vS ?_));exact trivial) (Ref.takes [7000,7001,7002] rfl (.refl _)) ?_
 rintro ⟨x,fol⟩ ⟨h1,h2,h3,h4⟩
 dsimp only at h1 h2 h3 h4 ⊢
 have h264:(2:Nat) ^ st.1.length<=2 ^ 64:=Nat.pow_le_pow_right (by decide) hl
 have hx64:x<18446744073709551616:=Nat.lt_of_lt_of_le h2 h264
 by_cases h0:x=0
 ·subst h0
  (repeat' ((conv=>whnf);first|((first|apply zc|apply za|apply zd)<;>intro h<;>try (exfalso;omega))|refine pay ?_|intro _));(all_goals (conv=>whnf))
  all_goals try (exfalso;omega)
  rw [zrA] at h3
  exact ⟨⟨_,Ref.takes [7000,7001,7002] rfl (.refl _),rfl,by rw [←h3]⟩⟩
 ·have hpos:0<x:=by omega
  have hk:Lib.ctz 64 x<fol.length:=by rw [h1];exact zoU h2 (zhr hpos hx64)
  have hst:=zrB (to:=to) hpos hx64 hk
  have hlt:x&&&(x - 1)<x:=Nat.lt_of_le_of_lt Nat.and_le_right (by omega)
  have cT:=fun (W:World) (L':List Ent) (hR:R w fp L' W)=>zi9 x hpos hx64 W (hG.cast hR (fun _ h=>by cases h))
  generalize Lib.ctz 64 x=k at *
  have q0:((k:Nat):Int).toNat=k:=by omega
  have qx:=zqJ hpos hx64
  have hat:=zg2 hk
  have hisk:=zeH hk
  have hin:=zu8 h4 (i:=k)
  have hor:((((fol.getD k 0:Nat):Int).toNat|||((to:Nat):Int).toNat:Nat):Int)=((fol.getD k 0|||to:Nat):Int):=by rw [g7q,g7q]
  have hbo:(0:Int)<=((fol.getD k 0:Nat):Int)/\((fol.getD k 0:Nat):Int)<=18446744073709551615/\(0:Int)<=((to:Nat):Int)/\((to:Nat):Int)<=18446744073709551615:=⟨hin.1,hin.2,by omega,by omega⟩
  have hsp:=zku (l:=fol) (q:=k) (v:=fol.getD k 0|||to) hk
  have hlen:=zhq fol
  have hand:((((x:Nat):Int).toNat&&&((x - 1:Nat):Int).toNat:Nat):Int)=((x&&&(x - 1):Nat):Int):=by rw [g7q,g7q]
  (repeat' ((conv=>whnf);first|rw [q0]|rw [qx]|rw [hat]|rw [hor]|rw [hsp]|rw [hand]|refine zm (.v (.int .i64 (k:Int))) (fun w' hR=>cT w' _ hR) ?_|refine ⟨.sl 7002 _ _ _,⟨rfl,rfl,rfl,rfl⟩,?_⟩|refine zh ?_|((first|apply zc|apply za|apply zd)<;>intro h<;>try (exfalso;omega))|refine pay ?_|refine And.intro (by first|exact hbo|exact ⟨rfl,hisk⟩) ?_|intro _));(all_goals (conv=>whnf))
  all_goals try (exfalso;omega)
  have l1:(fol.set k (fol.getD k 0|||to)).length=fol.length:=List.length_set
  exact zi (⟨x&&&(x - 1),fol.set k (fol.getD k 0|||to)⟩:LkG) ⟨by dsimp only;rw [l1];exact h1,by dsimp only;omega,by dsimp only;rw [hst];exact h3,fun y hy=>by
   rcases List.mem_or_eq_of_mem_set hy with hy|rfl
   ·exact h4 y hy
   ·exact Nat.or_lt_two_pow (n:=64) (h4 _ (zZ hk)) hto⟩ hlt (by (repeat ((conv=>whnf);refine vS ?_));exact trivial) (by dsimp only [wL];rw [l1];exact Ref.takes [7000,7001,7002] rfl (.refl _))
structure AfG where
 x:Nat
 acc:Nat
theorem zpQ (b:Nat) (st:WS) (sa:Option Addr) (sc:Nat) (fa:Option Addr) (fc:Nat) (fr:Nat) (hw:WOk st) (hl:st.1.length<=64) (hfr:fr<2 ^ st.1.length) (fp:List Nat) (w:World) (hG:zfN w fp) (hR:R w fp (wL b st sa sc fa fc) w) :
 Calls Tryz.prog yS #[pS b,.int .u64 (fr:Int)] w fun e w'=>∃ v L1,e=.returned v/\R w fp L1 w'/\(v=.int .u64 (aft st.2 fr:Nat)/\L1=wL b st sa sc fa fc):=by
 refine zr [.ptr 7000 b 0,.v (.int .u64 (fr:Int))] zbY (by simp) hR ?_
 have hfl:=hw.len
 (repeat' ((conv=>whnf);first|((first|apply zc|apply za|apply zd)<;>intro h<;>try (exfalso;omega))|refine pay ?_|intro _));(all_goals (conv=>whnf))
 refine zw AfG (fun g=>[(0,.ptr 7000 b 0),(1,.v (.int .u64 (g.x:Int))),(5,.v (.int .u64 (g.acc:Int)))]) (fun g=>wL b st sa sc fa fc)
  (fun g=>g.x<2 ^ st.1.length/\g.acc<18446744073709551616/\g.acc|||aft st.2 g.x=aft st.2 fr) (fun g=>g.x) ⟨fr,0⟩ ⟨hfr,by show 0<18446744073709551616;decide,Nat.zero_or _⟩ (by (repeat ((conv=>whnf);refine vS ?_));exact trivial) (Ref.takes [7000,7001,7002] rfl (.refl _)) ?_
 rintro ⟨x,acc⟩ ⟨h2,h3,h4⟩
 dsimp only at h2 h3 h4 ⊢
 have h264:(2:Nat) ^ st.1.length<=2 ^ 64:=Nat.pow_le_pow_right (by decide) hl
 have hx64:x<18446744073709551616:=Nat.lt_of_lt_of_le h2 h264
 by_cases h0:x=0
 ·subst h0
  (repeat' ((conv=>whnf);first|((first|apply zc|apply za|apply zd)<;>intro h<;>try (exfalso;omega))|refine pay ?_|intro _));(all_goals (conv=>whnf))
  all_goals try (exfalso;omega)
  rw [zuI,Nat.or_zero] at h4
  exact ⟨⟨_,Ref.takes [7000,7001,7002] rfl (.refl _),by rw [←h4],rfl⟩⟩
 ·have hpos:0<x:=by omega
  have hk:Lib.ctz 64 x<st.2.length:=by rw [hfl];exact zoU h2 (zhr hpos hx64)
  have hst:=zuJ hpos hx64 hk
  have hlt:x&&&(x - 1)<x:=Nat.lt_of_le_of_lt Nat.and_le_right (by omega)
  have cT:=fun (W:World) (L':List Ent) (hR:R w fp L' W)=>zi9 x hpos hx64 W (hG.cast hR (fun _ h=>by cases h))
  generalize Lib.ctz 64 x=k at *
  have q0:((k:Nat):Int).toNat=k:=by omega
  have qx:=zqJ hpos hx64
  have hat:=zg2 hk
  have hisk:=zeH hk
  have hin:=zu8 hw.lt (i:=k)
  have hor:((((acc:Nat):Int).toNat|||((st.2.getD k 0:Nat):Int).toNat:Nat):Int)=((acc|||st.2.getD k 0:Nat):Int):=by rw [g7q,g7q]
  have hbo:(0:Int)<=((acc:Nat):Int)/\((acc:Nat):Int)<=18446744073709551615/\(0:Int)<=((st.2.getD k 0:Nat):Int)/\((st.2.getD k 0:Nat):Int)<=18446744073709551615:=⟨by omega,by omega,hin.1,hin.2⟩
  have hlen:=zhq st.2
  have hand:((((x:Nat):Int).toNat&&&((x - 1:Nat):Int).toNat:Nat):Int)=((x&&&(x - 1):Nat):Int):=by rw [g7q,g7q]
  have hb64:st.2.getD k 0<18446744073709551616:=hw.lt _ (zZ hk)
  (repeat' ((conv=>whnf);first|rw [q0]|rw [qx]|rw [hat]|rw [hor]|rw [hand]|refine zm (.v (.int .i64 (k:Int))) (fun w' hR=>cT w' _ hR) ?_|refine ⟨.sl 7002 _ _ _,⟨rfl,rfl,rfl,rfl⟩,?_⟩|refine zh ?_|((first|apply zc|apply za|apply zd)<;>intro h<;>try (exfalso;omega))|refine pay ?_|refine And.intro (by first|exact hbo|exact ⟨rfl,hisk⟩) ?_|intro _));(all_goals (conv=>whnf))
  all_goals try (exfalso;omega)
  exact zi (⟨x&&&(x - 1),acc|||st.2.getD k 0⟩:AfG) ⟨by dsimp only;omega,Nat.or_lt_two_pow (n:=64) h3 hb64,by dsimp only;rw [Nat.or_assoc,hst];exact h4⟩ hlt (by (repeat ((conv=>whnf);refine vS ?_));exact trivial) (Ref.takes [7000,7001,7002] rfl (.refl _))
def sqQ (b:Nat) (r:WS × Pz) (v:Value) (L1:List Ent):Prop:=∃ sa sc fa fc,v=r.2.v/\L1=wL b r.1 sa sc fa fc
theorem zfP (b:Nat) (st:WS) (sa:Option Addr) (sc:Nat) (fa:Option Addr) (fc:Nat) (x y:Pz) (hw:WOk st) (hl:st.1.length<=64) (hx:PzOk st.1.length x) (hy:PzOk st.1.length y) (fp:List Nat) (w:World) (hG:zfN w fp) (hR:R w fp (wL b st sa sc fa fc) w) :
 Calls Tryz.prog ye #[pS b,x.v,y.v] w fun e w'=>∃ v L1,e=.returned v/\R w fp L1 w'/\sqQ b ((st.1,(yV st.2 x y).1),(yV st.2 x y).2) v L1:=by
 refine zr [.ptr 7000 b 0,.v x.v,.v y.v] zaM (by simp) hR ?_
 have h264:(2:Nat) ^ st.1.length<=2 ^ 64:=Nat.pow_le_pow_right (by decide) hl
 obtain ⟨xn,xf,xl⟩:=x
 obtain ⟨yn,yf,yl⟩:=y
 obtain ⟨hx1,hx2⟩:=hx
 obtain ⟨hy1,hy2⟩:=hy
 dsimp only at hx1 hx2 hy1 hy2
 have cL:=fun (fp':List Nat) (W:World) hR hG=>zfO b st sa sc fa fc xl yf hw hl hx2 (Nat.lt_of_lt_of_le hy1 h264) fp' W hG hR
 have o1:((((xf:Nat):Int).toNat|||((yf:Nat):Int).toNat:Nat):Int)=((xf|||yf:Nat):Int):=by rw [g7q,g7q]
 have o2:((((yl:Nat):Int).toNat|||((xl:Nat):Int).toNat:Nat):Int)=((yl|||xl:Nat):Int):=by rw [g7q,g7q]
 have u1:xf<18446744073709551616:=Nat.lt_of_lt_of_le hx1 h264
 have u2:xl<18446744073709551616:=Nat.lt_of_lt_of_le hx2 h264
 have u3:yf<18446744073709551616:=Nat.lt_of_lt_of_le hy1 h264
 have u4:yl<18446744073709551616:=Nat.lt_of_lt_of_le hy2 h264
 cases xn<;>cases yn
 all_goals
  (repeat' ((conv=>whnf);first|rw [o1]|rw [o2]|(refine zD [7000,7001,7002] rfl (fun w' hR hR0=>cL _ w' hR0 (hG.castL hR)) ?_;rintro _ _ ⟨rfl,rfl⟩;refine ⟨.v _,rfl,?_⟩)|refine zh ?_|((first|apply zc|apply za|apply zd)<;>intro h<;>try (exfalso;omega))|refine pay ?_|refine And.intro (by first|exact ⟨by omega,by omega,by omega,by omega⟩) ?_|intro _));(all_goals (conv=>whnf))
 all_goals exact ⟨⟨_,Ref.takes [7000,7001,7002] rfl (.refl _),sa,sc,fa,fc,rfl,rfl⟩⟩
def z0P:Pz:=⟨false,0,0⟩
def pzL (l:List Pz):List Value:=l.flatMap Pz.cells
def za3 (cs:List Pz) (n:Nat):List Value:=pzL (cs++List.replicate (n - cs.length) z0P)
theorem zlt:∀ l:List Pz,(pzL l).length=l.length*3
 | []=>rfl
 | p :: l => by
   have ih:=zlt l
   have e:(pzL (p::l)).length=3+(pzL l).length:=by show (p.cells++pzL l).length=_;rw [g6q];rfl
   rw [e,ih,List.length_cons];omega
theorem zlu (l l':List Pz):pzL (l++l')=pzL l++pzL l':=List.flatMap_append ..
theorem zg5:∀ n:Nat,(List.replicate n [Value.bool false,.int .u64 0,.int .u64 0]).flatten=za3 [] n
 | 0=>rfl
 | n + 1 => by
   have ih:=zg5 n
   rw [List.replicate_succ,List.flatten_cons,ih];rfl
theorem zl9 (cs:List Pz) {n:Nat} (h:cs.length<=n):(za3 cs n).length=n*3:=by
 unfold za3
 rw [zlt,g6q,List.length_replicate,Nat.add_sub_cancel' h]
theorem zma (cs:List Pz) {n:Nat} (h:cs.length<n) (y:Pz):zv (za3 cs n) (cs.length*3) y.cells=za3 (cs++[y]) n:=by
 have e:n - cs.length=(n - (cs.length+1))+1:=by omega
 have hl:=zlt cs
 unfold zv za3
 rw [zlu,zlu,g6q,List.length_singleton,zlu,e,List.replicate_succ]
 have e2:pzL (z0P::List.replicate (n - (cs.length+1)) z0P)=z0P.cells++pzL (List.replicate (n - (cs.length+1)) z0P):=rfl
 have e3:pzL [y]=y.cells:=List.append_nil _
 have e4:(pzL cs++(z0P.cells++pzL (List.replicate (n - (cs.length+1)) z0P))).drop (cs.length*3+y.cells.length)=pzL (List.replicate (n - (cs.length+1)) z0P):=by
  rw [←hl,←List.drop_drop,List.drop_left]
  rfl
 rw [e2,e3,e4,←hl,List.take_left]
theorem zmb (cs:List Pz) {n:Nat} (h:cs.length=n):za3 cs n=pzL cs:=by unfold za3;rw [h,Nat.sub_self];simp
theorem zlv:∀ {l:List Pz} {i:Nat} {c:Pz},l[i]?=some c->((pzL l).drop (i*3)).take 3=c.cells
 | [],i,c,h=>by simp at h
 | p :: l,0,c,h => by
   simp only [List.getElem?_cons_zero,g3q] at h
   subst h;rfl
 | p :: l,i + 1,c,h => by
   simp only [List.getElem?_cons_succ] at h
   have ih:=zlv h
   have e:pzL (p::l)=p.cells++pzL l:=rfl
   rw [e,show (i+1)*3=p.cells.length+i*3 by show _=3+_;omega,←List.drop_drop,List.drop_left]
   exact ih
theorem zlw (f:WS->WS × Pz):∀ (n:Nat) (st:WS),(itW f n st).2.length=n
 | 0,st=>rfl
 | n+1,st=>by rw [itW,List.length_cons,zlw f n]
def zuK (b : Nat) (p : RT) : Prop := ∀ (st : WS) (sa : Option Addr) (sc : Nat) (fa : Option Addr) (fc : Nat),WOk st -> st.1.length + p.pos <= 64 -> ∀ (fp : List Nat) (w : World),zfN w fp -> RIn w fp p -> R w fp (wL b st sa sc fa fc) w ->
    Calls Tryz.prog zY #[pS b,p.v] w fun e w'=>∃ v L1,e=.returned v/\R w fp L1 w'/\sqQ b (p.wr st) v L1
structure RpG where
 st:WS
 cs:List Pz
 sa:Option Addr
 sc:Nat
 fa:Option Addr
 fc:Nat
structure RqG where
 j:Nat
 fol:List Nat
 p:Pz
 sa:Option Addr
 sc:Nat
 fa:Option Addr
 fc:Nat
theorem zmI (b:Nat) (s:Ls) (mn:Int) (n:Nat) (p:RT) (a:Option Addr) (c:Nat) (e1:max mn 1=(n:Int)) (hn64:n<=64) (hmn:0<=mn) (hmn2:mn<=64) (IH:zuK b p) (st:WS) (sa:Option Addr) (sc:Nat) (fa:Option Addr) (fc:Nat) (hw:WOk st) (hl:st.1.length+p.pos*n<=64) (fp:List Nat) (w:World) (hG:zfN w fp) (hin:RIn w fp (.mk 5 s mn (-1) [p] a c)) (hR:R w fp (wL b st sa sc fa fc) w) :
 Calls Tryz.prog yH #[pS b,RT.v (.mk 5 s mn (-1) [p] a c)] w fun e w'=>∃ v L1,e=.returned v/\R w fp L1 w'/\sqQ b (((itW p.wr n st).1.1,(xx mn true 0 (itW p.wr n st).2 (itW p.wr n st).1.2).1),(xx mn true 0 (itW p.wr n st).2 (itW p.wr n st).1.2).2) v L1:=by
 refine zr [.ptr 7000 b 0,.v (RT.v (.mk 5 s mn (-1) [p] a c))] uk (by simp) hR ?_
 have hfl:=hw.len
 have qn:((n:Nat):Int).toNat=n:=by omega
 have hzr:=zg5 n
 have rdq:=fun {L:List Ent}=>hin.rdp (L:=L) (i:=0) (p:=p) rfl
 rw [Nat.zero_mul] at rdq
 have hne:a≠none:=hin.row.ne' (k:=0) (by rw [vG];simp)
 have hinq:RIn w fp p:=hin.kid (by simp)
 obtain ⟨k5,hk5⟩:∃ q,itW p.wr n st=q:=⟨_,rfl⟩
 have hcl:=zlw p.wr n st
 have hok:=zg4 (fun st h1 h2=>RT.wr_ok p st h1 h2) n st hw hl
 rw [hk5] at hok hcl ⊢
 (repeat' ((conv=>whnf);first|rw [e1]|rw [qn]|refine zh ?_|((first|apply zc|apply za|apply zd)<;>intro h<;>try (exfalso;omega))|refine pay ?_|intro _));(all_goals (conv=>whnf))
 all_goals try (exfalso;omega)
 rename_i b3 b4 b19
 rw [hzr]
 refine zw RpG (fun g=>[(0,.ptr 7000 b 0),(3,.ptr 3 b3 0),(4,.ptr 4 b4 0),(5,.v (.int .i64 (n:Int))),(6,.sl 19 (some ⟨b19,0,none⟩) n n),(21,.v (.int .i64 (n:Int))),(22,.v (.int .i64 (g.cs.length:Int)))])
  (fun g=>wL b g.st g.sa g.sc g.fa g.fc++[.box 3 b3 (RT.cells (.mk 5 s mn (-1) [p] a c)) zC,.box 4 b4 [.bool false,.int .u64 0,.int .u64 0] zx,.own 19 (some ⟨b19,0,none⟩) n n zx 3 (za3 g.cs n)])
  (fun g=>g.cs.length<=n/\WOk g.st/\g.st.1.length+p.pos*(n - g.cs.length)<=64/\((itW p.wr (n - g.cs.length) g.st).1,g.cs++(itW p.wr (n - g.cs.length) g.st).2)=k5) (fun g=>n - g.cs.length)
  ⟨st,[],sa,sc,fa,fc⟩ ⟨Nat.zero_le _,hw,hl,by dsimp only;rw [List.length_nil,Nat.sub_zero,hk5];rfl⟩ (by (repeat ((conv=>whnf);refine vS ?_));exact trivial) (Ref.takes [7000,7001,7002,3,4,19] rfl (.refl _)) ?_
 rintro ⟨st',cs,sa',sc',fa',fc'⟩ ⟨hi,hw',hl',he⟩
 dsimp only at hi hw' hl' he ⊢
 obtain ⟨i,hil⟩:∃ i,cs.length=i:=⟨_,rfl⟩
 rw [hil] at hi hl' he ⊢
 by_cases hlt:i<n
 ·have q0:((i:Nat):Int).toNat=i:=by omega
  have hni:n - i=(n - (i+1))+1:=by omega
  rw [hni,itW] at he
  rw [hni,Nat.mul_succ] at hl'
  obtain ⟨k1,k2,k3,k4⟩:=RT.wr_ok p st' hw' (by omega)
  have cW:=fun (fp':List Nat) (W:World) hG hI hR=>IH st' sa' sc' fa' fc' hw' (by omega) fp' W hG hI hR
  obtain ⟨rq,hrq⟩:∃ r,p.wr st'=r:=⟨_,rfl⟩
  rw [hrq] at k1 k2 k3 k4 cW he
  have hsp:=zma cs (n:=n) (by omega) rq.2
  have hfp:=zl9 cs (n:=n) (by omega)
  rw [hil] at hsp
  obtain ⟨k',s',mn',mx',ps',a',c'⟩:=p
  (repeat' ((conv=>whnf);first|rw [q0]|rw [hsp]|refine ⟨RT.cells (.mk k' s' mn' mx' ps' a' c'),rfl,rdq,?_⟩|(refine zD [7000,7001,7002] rfl (fun w' hR hR0=>cW _ w' (hG.castL hR) (hinq.castL hR) hR0) ?_;rintro _ _ ⟨sa2,sc2,fa2,fc2,rfl,rfl⟩;refine ⟨.v _,rfl,?_⟩)|refine ⟨.sl 19 _ _ _,⟨rfl,rfl,rfl,rfl⟩,?_⟩|refine zh ?_|((first|apply zc|apply za|apply zd)<;>intro h<;>try (exfalso;omega))|refine pay ?_|intro _));(all_goals (conv=>whnf))
  all_goals try (exfalso;omega)
  have hln:(cs++[rq.2]).length=i+1:=by rw [g6q,hil];rfl
  exact zi (⟨rq.1,cs++[rq.2],sa2,sc2,fa2,fc2⟩:RpG) ⟨by dsimp only;omega,k1,by dsimp only;rw [hln];omega,by dsimp only;rw [hln,List.append_assoc];exact he⟩ (by dsimp only;omega) (by dsimp only;rw [hln];(repeat ((conv=>whnf);refine vS ?_));exact trivial) (Ref.takes [7000,7001,7002,3,4,19] rfl (.refl _))
 ·obtain rfl:n=i:=by omega
  rw [Nat.sub_self,itW,List.append_nil] at he
  rw [zmb cs hil]
  rw [←he] at hok ⊢
  dsimp only at hok ⊢
  obtain ⟨_,hpz,h64,_,_⟩:=hok
  have h64:st'.1.length<=64:=by omega
  clear hl'
  (repeat' ((conv=>whnf);first|refine zh ?_|((first|apply zc|apply za|apply zd)<;>intro h<;>try (exfalso;omega))|refine pay ?_|intro _));(all_goals (conv=>whnf))
  all_goals try (exfalso;omega)
  rename_i b8
  obtain ⟨ss,fol0⟩:=st'
  dsimp only at hpz h64 ⊢
  refine zw RqG (fun g=>[(0,.ptr 7000 b 0),(3,.ptr 3 b3 0),(4,.ptr 4 b4 0),(5,.v (.int .i64 (n:Int))),(6,.sl 19 (some ⟨b19,0,none⟩) n n),(8,.ptr 8 b8 0),(9,.v (.int .i64 ((g.j:Int) - 1)))])
   (fun g=>wL b (ss,g.fol) g.sa g.sc g.fa g.fc++[.box 3 b3 (RT.cells (.mk 5 s mn (-1) [p] a c)) zC,.box 4 b4 [.bool false,.int .u64 0,.int .u64 0] zx,.own 19 (some ⟨b19,0,none⟩) n n zx 3 (pzL cs),.box 8 b8 g.p.cells zx])
   (fun g=>g.j<=n/\(g.fol,g.p)=xx mn true g.j (cs.drop g.j) fol0) (fun g=>g.j)
   ⟨n,fol0,⟨true,0,0⟩,sa',sc',fa',fc'⟩ ⟨Nat.le_refl _,by dsimp only;rw [List.drop_of_length_le (by omega),xx]⟩ (by (repeat ((conv=>whnf);refine vS ?_));exact trivial) (Ref.takes [7000,7001,7002,3,4,19,8] rfl (.refl _)) ?_
  rintro ⟨j,fol,z,sa2,sc2,fa2,fc2⟩ ⟨hj,hz⟩
  dsimp only at hj hz ⊢
  obtain ⟨hwj,hzj⟩:=zht (ss:=ss) (n:=ss.length) (mn:=mn) (inf:=true ) h64 j (cs.drop j) fol0 hw' (fun x hx=>hpz x (List.mem_of_mem_drop hx))
  rw [←hz] at hwj hzj
  dsimp only at hwj hzj
  by_cases hj0:j=0
  ·subst hj0
   (repeat' ((conv=>whnf);first|refine zh ?_|((first|apply zc|apply za|apply zd)<;>intro h<;>try (exfalso;omega))|refine pay ?_|intro _));(all_goals (conv=>whnf))
   all_goals try (exfalso;omega)
   rw [List.drop_zero] at hz
   exact ⟨⟨_,Ref.takes [7000,7001,7002] rfl (.refl _),sa2,sc2,fa2,fc2,by rw [←hz];rfl,by rw [←hz]⟩⟩
  ·obtain ⟨q,rfl⟩:∃ q,j=q+1:=⟨j - 1,by omega⟩
   obtain ⟨x,hx⟩:∃ x,cs[q]?=some x:=⟨_,g2q (by omega)⟩
   have hxz:=hpz x (List.mem_of_getElem? hx)
   have hdr:cs.drop q=x::cs.drop (q+1):=by
    obtain ⟨h1,h2⟩:=List.getElem?_eq_some_iff.1 hx
    rw [←h2];exact (List.getElem_cons_drop h1).symm
   have hnx:xx mn true q (cs.drop q) fol0=zfL mn true q (cs.drop (q+1)).isEmpty x (fol,z):=by rw [hdr,xx,←hz]
   have hem:(cs.drop (q+1)).isEmpty=decide (q+1=n):=by
    rw [Bool.eq_iff_iff,List.isEmpty_iff,List.drop_eq_nil_iff,decide_eq_true_eq];omega
   rw [hem] at hnx
   unfold zfL at hnx
   have q0:(((q+1:Nat):Int) - 1).toNat=q:=by omega
   have q1:(((q+1:Nat):Int) - 1)=(q:Int):=by omega
   have hrow:=zlv hx
   have hfx:x.fs<18446744073709551616:=Nat.lt_of_lt_of_le hxz.1 (Nat.pow_le_pow_right (n:=2) (j:=64) (by decide) h64)
   have cL:=fun (fp':List Nat) (W:World) hG hR=>zfO b (ss,fol) sa2 sc2 fa2 fc2 x.lt x.fs hwj h64 hxz.2 hfx fp' W hG hR
   have hwl:WOk (ss,qv fol x.lt x.fs):=⟨by rw [xF];exact hwj.len,zfM hwj.lt hfx⟩
   have cS:=fun (fol':List Nat) (hw2:WOk (ss,fol')) (fp':List Nat) (W:World) hG hR=>zfP b (ss,fol') sa2 sc2 fa2 fc2 x z hw2 h64 hxz hzj fp' W hG hR
   by_cases hlast:q+1=n<;>by_cases hmq:mn<=(q:Int)
   all_goals
    simp only [hlast,hmq,decide_true,decide_false,Bool.and_true,Bool.and_false,Bool.false_and,Bool.true_and,if_true,if_false,Bool.false_eq_true] at hnx
    (repeat' ((conv=>whnf);first|rw [q0]|rw [q1]|refine uT hrow ?_|(refine zD [7000,7001,7002] rfl (fun w' hR hR0=>cL _ w' (hG.castL hR) hR0) ?_;rintro _ _ ⟨rfl,rfl⟩;refine ⟨.v _,rfl,?_⟩)|(refine zD [7000,7001,7002] rfl (fun w' hR hR0=>cS fol hwj _ w' (hG.castL hR) hR0) ?_;rintro _ _ ⟨sa3,sc3,fa3,fc3,rfl,rfl⟩;refine ⟨.v _,rfl,?_⟩)|(refine zD [7000,7001,7002] rfl (fun w' hR hR0=>cS (qv fol x.lt x.fs) hwl _ w' (hG.castL hR) hR0) ?_;rintro _ _ ⟨sa3,sc3,fa3,fc3,rfl,rfl⟩;refine ⟨.v _,rfl,?_⟩)|refine ⟨.sl 19 _ _ _,⟨rfl,rfl,rfl,rfl⟩,?_⟩|refine zh ?_|((first|apply zc|apply za|apply zd)<;>intro h<;>try (exfalso;omega))|refine pay ?_|intro _));(all_goals (conv=>whnf))
    all_goals try (exfalso;omega)
    all_goals exact zi (⟨q,_,_,sa3,sc3,fa3,fc3⟩:RqG) ⟨by dsimp only;omega,hnx.symm⟩ (by dsimp only;omega) (by (repeat ((conv=>whnf);refine vS ?_));exact trivial) (Ref.takes [7000,7001,7002,3,4,19,8] rfl (.refl _))
theorem zmJ (b:Nat) (s:Ls) (mn:Int) (n:Nat) (p:RT) (a:Option Addr) (c:Nat)  (hn64:n<=64) (hmn:0<=mn) (hmn2:mn<=64) (IH:zuK b p) (st:WS) (sa:Option Addr) (sc:Nat) (fa:Option Addr) (fc:Nat) (hw:WOk st) (hl:st.1.length+p.pos*n<=64) (fp:List Nat) (w:World) (hG:zfN w fp) (hin:RIn w fp (.mk 5 s mn (n:Int) [p] a c)) (hR:R w fp (wL b st sa sc fa fc) w) :
 Calls Tryz.prog yH #[pS b,RT.v (.mk 5 s mn (n:Int) [p] a c)] w fun e w'=>∃ v L1,e=.returned v/\R w fp L1 w'/\sqQ b (((itW p.wr n st).1.1,(xx mn false 0 (itW p.wr n st).2 (itW p.wr n st).1.2).1),(xx mn false 0 (itW p.wr n st).2 (itW p.wr n st).1.2).2) v L1:=by
 refine zr [.ptr 7000 b 0,.v (RT.v (.mk 5 s mn (n:Int) [p] a c))] uk (by simp) hR ?_
 have hfl:=hw.len
 have qn:((n:Nat):Int).toNat=n:=by omega
 have hzr:=zg5 n
 have rdq:=fun {L:List Ent}=>hin.rdp (L:=L) (i:=0) (p:=p) rfl
 rw [Nat.zero_mul] at rdq
 have hne:a≠none:=hin.row.ne' (k:=0) (by rw [vG];simp)
 have hinq:RIn w fp p:=hin.kid (by simp)
 obtain ⟨k5,hk5⟩:∃ q,itW p.wr n st=q:=⟨_,rfl⟩
 have hcl:=zlw p.wr n st
 have hok:=zg4 (fun st h1 h2=>RT.wr_ok p st h1 h2) n st hw hl
 rw [hk5] at hok hcl ⊢
 (repeat' ((conv=>whnf);first|rw [qn]|refine zh ?_|((first|apply zc|apply za|apply zd)<;>intro h<;>try (exfalso;omega))|refine pay ?_|intro _));(all_goals (conv=>whnf))
 all_goals try (exfalso;omega)
 rename_i b3 b4 b19
 rw [hzr]
 refine zw RpG (fun g=>[(0,.ptr 7000 b 0),(3,.ptr 3 b3 0),(4,.ptr 4 b4 0),(5,.v (.int .i64 (n:Int))),(6,.sl 19 (some ⟨b19,0,none⟩) n n),(21,.v (.int .i64 (n:Int))),(22,.v (.int .i64 (g.cs.length:Int)))])
  (fun g=>wL b g.st g.sa g.sc g.fa g.fc++[.box 3 b3 (RT.cells (.mk 5 s mn (n:Int) [p] a c)) zC,.box 4 b4 [.bool false,.int .u64 0,.int .u64 0] zx,.own 19 (some ⟨b19,0,none⟩) n n zx 3 (za3 g.cs n)])
  (fun g=>g.cs.length<=n/\WOk g.st/\g.st.1.length+p.pos*(n - g.cs.length)<=64/\((itW p.wr (n - g.cs.length) g.st).1,g.cs++(itW p.wr (n - g.cs.length) g.st).2)=k5) (fun g=>n - g.cs.length)
  ⟨st,[],sa,sc,fa,fc⟩ ⟨Nat.zero_le _,hw,hl,by dsimp only;rw [List.length_nil,Nat.sub_zero,hk5];rfl⟩ (by (repeat ((conv=>whnf);refine vS ?_));exact trivial) (Ref.takes [7000,7001,7002,3,4,19] rfl (.refl _)) ?_
 rintro ⟨st',cs,sa',sc',fa',fc'⟩ ⟨hi,hw',hl',he⟩
 dsimp only at hi hw' hl' he ⊢
 obtain ⟨i,hil⟩:∃ i,cs.length=i:=⟨_,rfl⟩
 rw [hil] at hi hl' he ⊢
 by_cases hlt:i<n
 ·have q0:((i:Nat):Int).toNat=i:=by omega
  have hni:n - i=(n - (i+1))+1:=by omega
  rw [hni,itW] at he
  rw [hni,Nat.mul_succ] at hl'
  obtain ⟨k1,k2,k3,k4⟩:=RT.wr_ok p st' hw' (by omega)
  have cW:=fun (fp':List Nat) (W:World) hG hI hR=>IH st' sa' sc' fa' fc' hw' (by omega) fp' W hG hI hR
  obtain ⟨rq,hrq⟩:∃ r,p.wr st'=r:=⟨_,rfl⟩
  rw [hrq] at k1 k2 k3 k4 cW he
  have hsp:=zma cs (n:=n) (by omega) rq.2
  have hfp:=zl9 cs (n:=n) (by omega)
  rw [hil] at hsp
  obtain ⟨k',s',mn',mx',ps',a',c'⟩:=p
  (repeat' ((conv=>whnf);first|rw [q0]|rw [hsp]|refine ⟨RT.cells (.mk k' s' mn' mx' ps' a' c'),rfl,rdq,?_⟩|(refine zD [7000,7001,7002] rfl (fun w' hR hR0=>cW _ w' (hG.castL hR) (hinq.castL hR) hR0) ?_;rintro _ _ ⟨sa2,sc2,fa2,fc2,rfl,rfl⟩;refine ⟨.v _,rfl,?_⟩)|refine ⟨.sl 19 _ _ _,⟨rfl,rfl,rfl,rfl⟩,?_⟩|refine zh ?_|((first|apply zc|apply za|apply zd)<;>intro h<;>try (exfalso;omega))|refine pay ?_|intro _));(all_goals (conv=>whnf))
  all_goals try (exfalso;omega)
  have hln:(cs++[rq.2]).length=i+1:=by rw [g6q,hil];rfl
  exact zi (⟨rq.1,cs++[rq.2],sa2,sc2,fa2,fc2⟩:RpG) ⟨by dsimp only;omega,k1,by dsimp only;rw [hln];omega,by dsimp only;rw [hln,List.append_assoc];exact he⟩ (by dsimp only;omega) (by dsimp only;rw [hln];(repeat ((conv=>whnf);refine vS ?_));exact trivial) (Ref.takes [7000,7001,7002,3,4,19] rfl (.refl _))
 ·obtain rfl:n=i:=by omega
  rw [Nat.sub_self,itW,List.append_nil] at he
  rw [zmb cs hil]
  rw [←he] at hok ⊢
  dsimp only at hok ⊢
  obtain ⟨_,hpz,h64,_,_⟩:=hok
  have h64:st'.1.length<=64:=by omega
  clear hl'
  (repeat' ((conv=>whnf);first|refine zh ?_|((first|apply zc|apply za|apply zd)<;>intro h<;>try (exfalso;omega))|refine pay ?_|intro _));(all_goals (conv=>whnf))
  all_goals try (exfalso;omega)
  rename_i b8
  obtain ⟨ss,fol0⟩:=st'
  dsimp only at hpz h64 ⊢
  refine zw RqG (fun g=>[(0,.ptr 7000 b 0),(3,.ptr 3 b3 0),(4,.ptr 4 b4 0),(5,.v (.int .i64 (n:Int))),(6,.sl 19 (some ⟨b19,0,none⟩) n n),(8,.ptr 8 b8 0),(9,.v (.int .i64 ((g.j:Int) - 1)))])
   (fun g=>wL b (ss,g.fol) g.sa g.sc g.fa g.fc++[.box 3 b3 (RT.cells (.mk 5 s mn (n:Int) [p] a c)) zC,.box 4 b4 [.bool false,.int .u64 0,.int .u64 0] zx,.own 19 (some ⟨b19,0,none⟩) n n zx 3 (pzL cs),.box 8 b8 g.p.cells zx])
   (fun g=>g.j<=n/\(g.fol,g.p)=xx mn false g.j (cs.drop g.j) fol0) (fun g=>g.j)
   ⟨n,fol0,⟨true,0,0⟩,sa',sc',fa',fc'⟩ ⟨Nat.le_refl _,by dsimp only;rw [List.drop_of_length_le (by omega),xx]⟩ (by (repeat ((conv=>whnf);refine vS ?_));exact trivial) (Ref.takes [7000,7001,7002,3,4,19,8] rfl (.refl _)) ?_
  rintro ⟨j,fol,z,sa2,sc2,fa2,fc2⟩ ⟨hj,hz⟩
  dsimp only at hj hz ⊢
  obtain ⟨hwj,hzj⟩:=zht (ss:=ss) (n:=ss.length) (mn:=mn) (inf:=false ) h64 j (cs.drop j) fol0 hw' (fun x hx=>hpz x (List.mem_of_mem_drop hx))
  rw [←hz] at hwj hzj
  dsimp only at hwj hzj
  by_cases hj0:j=0
  ·subst hj0
   (repeat' ((conv=>whnf);first|refine zh ?_|((first|apply zc|apply za|apply zd)<;>intro h<;>try (exfalso;omega))|refine pay ?_|intro _));(all_goals (conv=>whnf))
   all_goals try (exfalso;omega)
   rw [List.drop_zero] at hz
   exact ⟨⟨_,Ref.takes [7000,7001,7002] rfl (.refl _),sa2,sc2,fa2,fc2,by rw [←hz];rfl,by rw [←hz]⟩⟩
  ·obtain ⟨q,rfl⟩:∃ q,j=q+1:=⟨j - 1,by omega⟩
   obtain ⟨x,hx⟩:∃ x,cs[q]?=some x:=⟨_,g2q (by omega)⟩
   have hxz:=hpz x (List.mem_of_getElem? hx)
   have hdr:cs.drop q=x::cs.drop (q+1):=by
    obtain ⟨h1,h2⟩:=List.getElem?_eq_some_iff.1 hx
    rw [←h2];exact (List.getElem_cons_drop h1).symm
   have hnx:xx mn false q (cs.drop q) fol0=zfL mn false q (cs.drop (q+1)).isEmpty x (fol,z):=by rw [hdr,xx,←hz]
   have hem:(cs.drop (q+1)).isEmpty=decide (q+1=n):=by
    rw [Bool.eq_iff_iff,List.isEmpty_iff,List.drop_eq_nil_iff,decide_eq_true_eq];omega
   rw [hem] at hnx
   unfold zfL at hnx
   have q0:(((q+1:Nat):Int) - 1).toNat=q:=by omega
   have q1:(((q+1:Nat):Int) - 1)=(q:Int):=by omega
   have hrow:=zlv hx
   have hfx:x.fs<18446744073709551616:=Nat.lt_of_lt_of_le hxz.1 (Nat.pow_le_pow_right (n:=2) (j:=64) (by decide) h64)
   have cL:=fun (fp':List Nat) (W:World) hG hR=>zfO b (ss,fol) sa2 sc2 fa2 fc2 x.lt x.fs hwj h64 hxz.2 hfx fp' W hG hR
   have hwl:WOk (ss,qv fol x.lt x.fs):=⟨by rw [xF];exact hwj.len,zfM hwj.lt hfx⟩
   have cS:=fun (fol':List Nat) (hw2:WOk (ss,fol')) (fp':List Nat) (W:World) hG hR=>zfP b (ss,fol') sa2 sc2 fa2 fc2 x z hw2 h64 hxz hzj fp' W hG hR
   by_cases hlast:q+1=n<;>by_cases hmq:mn<=(q:Int)
   all_goals
    simp only [hlast,hmq,decide_true,decide_false,Bool.and_true,Bool.and_false,Bool.false_and,Bool.true_and,if_true,if_false,Bool.false_eq_true] at hnx
    (repeat' ((conv=>whnf);first|rw [q0]|rw [q1]|refine uT hrow ?_|(refine zD [7000,7001,7002] rfl (fun w' hR hR0=>cL _ w' (hG.castL hR) hR0) ?_;rintro _ _ ⟨rfl,rfl⟩;refine ⟨.v _,rfl,?_⟩)|(refine zD [7000,7001,7002] rfl (fun w' hR hR0=>cS fol hwj _ w' (hG.castL hR) hR0) ?_;rintro _ _ ⟨sa3,sc3,fa3,fc3,rfl,rfl⟩;refine ⟨.v _,rfl,?_⟩)|(refine zD [7000,7001,7002] rfl (fun w' hR hR0=>cS (qv fol x.lt x.fs) hwl _ w' (hG.castL hR) hR0) ?_;rintro _ _ ⟨sa3,sc3,fa3,fc3,rfl,rfl⟩;refine ⟨.v _,rfl,?_⟩)|refine ⟨.sl 19 _ _ _,⟨rfl,rfl,rfl,rfl⟩,?_⟩|refine zh ?_|((first|apply zc|apply za|apply zd)<;>intro h<;>try (exfalso;omega))|refine pay ?_|intro _));(all_goals (conv=>whnf))
    all_goals try (exfalso;omega)
    all_goals exact zi (⟨q,_,_,sa3,sc3,fa3,fc3⟩:RqG) ⟨by dsimp only;omega,hnx.symm⟩ (by dsimp only;omega) (by (repeat ((conv=>whnf);refine vS ?_));exact trivial) (Ref.takes [7000,7001,7002,3,4,19,8] rfl (.refl _))
structure WrG where
 i:Nat
 st:WS
 p:Pz
 sa:Option Addr
 sc:Nat
 fa:Option Addr
 fc:Nat
theorem zh8:∀ (N:Nat),N<=4096->∀ (r:RT),r.size<=N->r.Vl->∀ (b:Nat) (st:WS) (sa:Option Addr) (sc:Nat) (fa:Option Addr) (fc:Nat),WOk st->st.1.length+r.pos<=64->∀ (fp:List Nat) (w:World),zfN w fp->RIn w fp r->R w fp (wL b st sa sc fa fc) w ->
 Calls Tryz.prog zY #[pS b,r.v] w fun e w'=>∃ v L1,e=.returned v/\R w fp L1 w'/\sqQ b (r.wr st) v L1
 | 0,_,.mk k s mn mx ps a c,hN=>by rw [RT.size] at hN;omega
 | N + 1,hN4,.mk k s mn mx ps a c,hN => by
   intro hVl b st sa sc fa fc hw hl fp w hG hin hR
   have IH:=zh8 N (by omega)
   rw [RT.size] at hN
   have hps:=RT.len_sizes ps
   rw [RT.Vl] at hVl
   obtain ⟨hVN,hPl⟩:=hVl
   obtain ⟨_,_,hVN⟩:=hVN
   rw [RT.wr]
   refine zr [.ptr 7000 b 0,.v (RT.v (.mk k s mn mx ps a c))] zvO (by simp) hR ?_
   have hfl:=hw.len
   by_cases h2:k=2
   ·subst h2
    rw [RT.pos2 rfl] at hl
    rw [if_pos rfl]
    have hsh:=zu7 (n:=st.1.length) (by omega)
    have hap:lsL st.1++[.int .u64 (s.a:Int),.int .u64 (s.b:Int),.int .u64 (s.c:Int),.int .u64 (s.d:Int)]=lsL (st.1++[s]):=by rw [zfI];simp [lsL]
    have hap2:ulL st.2++[.int .u64 0]=ulL (st.2++[0]):=by simp [ulL,zu]
    have hbk:0<=((st.1.length:Nat):Int)/\((st.1.length:Nat):Int)<=biK .u64:=⟨by omega,show ((st.1.length:Nat):Int)<=64 by omega⟩
    (repeat' ((conv=>whnf);first|rw [hsh]|rw [hap]|rw [hap2]|refine ⟨.sl 7001 _ _ _,⟨rfl,rfl,rfl,rfl⟩,?_⟩|refine ⟨.sl 7002 _ _ _,⟨rfl,rfl,rfl,rfl⟩,?_⟩|refine zh ?_|((first|apply zc|apply za|apply zd)<;>intro h<;>try (exfalso;omega))|refine pay ?_|refine And.intro (by first|exact hbk) ?_|intro _));(all_goals (conv=>whnf))
    all_goals try (exfalso;omega)
    rename_i b3 b4 b30 a1 c1 b39 a2 c2
    have l1:(st.1++[s]).length=st.1.length+1:=by simp
    have l2:(st.2++[0]).length=st.2.length+1:=by simp
    exact ⟨⟨_,Ref.takes [7000,7001,7002] rfl (.refl _),a1,c1,a2,c2,rfl,by dsimp only [wL];rw [l1,l2]⟩⟩
   ·rw [if_neg h2]
    by_cases h3:k=3
    ·subst h3
     rw [RT.poso (by decide) (by decide)] at hl
     rw [if_pos rfl]
     (repeat' ((conv=>whnf);first|refine zh ?_|((first|apply zc|apply za|apply zd)<;>intro h<;>try (exfalso;omega))|refine pay ?_|intro _));(all_goals (conv=>whnf))
     all_goals try (exfalso;omega)
     rename_i b3 b4 b6
     refine zw WrG (fun g=>[(0,.ptr 7000 b 0),(3,.ptr 3 b3 0),(4,.ptr 4 b4 0),(6,.ptr 6 b6 0),(50,.v (.slice a ps.length c)),(51,.v (.int .i64 (ps.length:Int))),(52,.v (.int .i64 (g.i:Int)))])
      (fun g=>wL b g.st g.sa g.sc g.fa g.fc++[.box 3 b3 (RT.cells (.mk 3 s mn mx ps a c)) zC,.box 4 b4 [.bool false,.int .u64 0,.int .u64 0] zx,.box 6 b6 g.p.cells zx])
      (fun g=>g.i<=ps.length/\WOk g.st/\PzOk g.st.1.length g.p/\g.st.1.length+RT.poss (ps.drop g.i)<=64/\RT.wrS (ps.drop g.i) g.p g.st=RT.wrS ps ⟨true,0,0⟩ st) (fun g=>ps.length - g.i)
      ⟨0,st,⟨true,0,0⟩,sa,sc,fa,fc⟩ ⟨Nat.zero_le _,hw,PzOk.zero ..,hl,rfl⟩ (by (repeat ((conv=>whnf);refine vS ?_));exact trivial) (Ref.takes [7000,7001,7002,3,4,6] rfl (.refl _)) ?_
     rintro ⟨i,st',p,sa',sc',fa',fc'⟩ ⟨hi,hw',hp',hl',he⟩
     dsimp only at hi hw' hp' hl' he ⊢
     by_cases hlt:i<ps.length
     ·obtain ⟨q,hq⟩:∃ q,ps[i]?=some q:=⟨_,g2q hlt⟩
      have hqm:q∈ps:=List.mem_of_getElem? hq
      have hdr:ps.drop i=q::ps.drop (i+1):=by
       obtain ⟨h1,h2⟩:=List.getElem?_eq_some_iff.1 hq
       rw [←h2];exact (List.getElem_cons_drop h1).symm
      rw [hdr,RT.wrS] at he
      rw [hdr,RT.poss] at hl'
      have rdq:=fun {L:List Ent}=>hin.rdp (L:=L) hq
      have hne:a≠none:=hin.row.ne' (k:=i*8) (by rw [vG];omega)
      have hqs:=RT.size_mem hqm
      obtain ⟨k1,k2,k3,k4⟩:=RT.wr_ok q st' hw' (by omega)
      obtain ⟨j1,j2⟩:=zhs (a:=p) (b:=(q.wr st').2) k1 (by omega) (hp'.mono k4) k2
      have cW:=fun (fp':List Nat) (W:World) hG hI hR=>IH q (by omega) (RT.Vl_mem hPl hqm) b st' sa' sc' fa' fc' hw' (by omega) fp' W hG hI hR
      have hinq:=hin.kid hqm
      obtain ⟨rq,hrq⟩:∃ r,q.wr st'=r:=⟨_,rfl⟩
      rw [hrq] at k1 k2 k3 k4 j1 j2 cW he
      have q0:((i:Nat):Int).toNat=i:=by omega
      obtain ⟨k',s',mn',mx',ps',a',c'⟩:=q
      have cS:=fun (sa2:Option Addr) (sc2:Nat) (fa2:Option Addr) (fc2:Nat) (fp':List Nat) (W:World) hG hR=>zfP b rq.1 sa2 sc2 fa2 fc2 p rq.2 k1 (by omega) (hp'.mono k4) k2 fp' W hG hR
      (repeat' ((conv=>whnf);first|rw [q0]|refine ⟨RT.cells (.mk k' s' mn' mx' ps' a' c'),rfl,rdq,?_⟩|(refine zD [7000,7001,7002] rfl (fun w' hR hR0=>cW _ w' (hG.castL hR) (hinq.castL hR) hR0) ?_;rintro _ _ ⟨sa2,sc2,fa2,fc2,rfl,rfl⟩;refine ⟨.v _,rfl,?_⟩)|(refine zD [7000,7001,7002] rfl (fun w' hR hR0=>cS _ _ _ _ _ w' (hG.castL hR) hR0) ?_;rintro _ _ ⟨sa3,sc3,fa3,fc3,rfl,rfl⟩;refine ⟨.v _,rfl,?_⟩)|refine zh ?_|refine zca _ (Ref.takes [6,8] rfl (.refl _)) ?_|((first|apply zc|apply za|apply zd)<;>intro h<;>try (exfalso;omega))|refine pay ?_|refine And.intro (by first|exact Ref.takes [6,8] rfl (.refl _)) ?_|intro _));(all_goals (conv=>whnf))
      all_goals try (exfalso;omega)
      exact zi (⟨i+1,(rq.1.1,(yV rq.1.2 p rq.2).1),(yV rq.1.2 p rq.2).2,sa3,sc3,fa3,fc3⟩:WrG) ⟨hlt,j1,j2,by dsimp only;omega,he⟩ (by dsimp only;omega) (by (repeat ((conv=>whnf);refine vS ?_));exact trivial) (Ref.takes [7000,7001,7002,3,4,6] rfl (.refl _))
     ·rw [List.drop_of_length_le (by omega),RT.wrS] at he
      (repeat' ((conv=>whnf);first|refine zh ?_|((first|apply zc|apply za|apply zd)<;>intro h<;>try (exfalso;omega))|refine pay ?_|intro _));(all_goals (conv=>whnf))
      all_goals try (exfalso;omega)
      exact ⟨⟨_,Ref.takes [7000,7001,7002] rfl (.refl _),sa',sc',fa',fc',by rw [←he];rfl,by rw [←he]⟩⟩
    ·rw [if_neg h3]
     by_cases h4:k=4
     ·subst h4
      rw [RT.poso (by decide) (by decide)] at hl
      rw [if_pos rfl]
      (repeat' ((conv=>whnf);first|refine zh ?_|((first|apply zc|apply za|apply zd)<;>intro h<;>try (exfalso;omega))|refine pay ?_|intro _));(all_goals (conv=>whnf))
      all_goals try (exfalso;omega)
      rename_i b3 b4 b9
      refine zw WrG (fun g=>[(0,.ptr 7000 b 0),(3,.ptr 3 b3 0),(4,.ptr 4 b4 0),(9,.ptr 9 b9 0),(67,.v (.slice a ps.length c)),(68,.v (.int .i64 (ps.length:Int))),(69,.v (.int .i64 (g.i:Int)))])
       (fun g=>wL b g.st g.sa g.sc g.fa g.fc++[.box 3 b3 (RT.cells (.mk 4 s mn mx ps a c)) zC,.box 4 b4 [.bool false,.int .u64 0,.int .u64 0] zx,.box 9 b9 g.p.cells zx])
       (fun g=>g.i<=ps.length/\WOk g.st/\PzOk g.st.1.length g.p/\g.st.1.length+RT.poss (ps.drop g.i)<=64/\RT.wrA (ps.drop g.i) g.p g.st=RT.wrA ps ⟨false,0,0⟩ st) (fun g=>ps.length - g.i)
       ⟨0,st,⟨false,0,0⟩,sa,sc,fa,fc⟩ ⟨Nat.zero_le _,hw,PzOk.zero ..,hl,rfl⟩ (by (repeat ((conv=>whnf);refine vS ?_));exact trivial) (Ref.takes [7000,7001,7002,3,4,9] rfl (.refl _)) ?_
      rintro ⟨i,st',p,sa',sc',fa',fc'⟩ ⟨hi,hw',hp',hl',he⟩
      dsimp only at hi hw' hp' hl' he ⊢
      by_cases hlt:i<ps.length
      ·obtain ⟨q,hq⟩:∃ q,ps[i]?=some q:=⟨_,g2q hlt⟩
       have hqm:q∈ps:=List.mem_of_getElem? hq
       have hdr:ps.drop i=q::ps.drop (i+1):=by
        obtain ⟨h1,h2⟩:=List.getElem?_eq_some_iff.1 hq
        rw [←h2];exact (List.getElem_cons_drop h1).symm
       rw [hdr,RT.wrA] at he
       rw [hdr,RT.poss] at hl'
       have rdq:=fun {L:List Ent}=>hin.rdp (L:=L) hq
       have hne:a≠none:=hin.row.ne' (k:=i*8) (by rw [vG];omega)
       have hqs:=RT.size_mem hqm
       obtain ⟨k1,k2,k3,k4⟩:=RT.wr_ok q st' hw' (by omega)
       have j2:=zqI (hp'.mono k4) k2
       have cW:=fun (fp':List Nat) (W:World) hG hI hR=>IH q (by omega) (RT.Vl_mem hPl hqm) b st' sa' sc' fa' fc' hw' (by omega) fp' W hG hI hR
       have hinq:=hin.kid hqm
       obtain ⟨rq,hrq⟩:∃ r,q.wr st'=r:=⟨_,rfl⟩
       rw [hrq] at k1 k2 k3 k4 j2 cW he
       have q0:((i:Nat):Int).toNat=i:=by omega
       obtain ⟨k',s',mn',mx',ps',a',c'⟩:=q
       obtain ⟨st2,⟨yn,yf,yl⟩⟩:=rq
       obtain ⟨xn,xf,xl⟩:=p
       have h264:(2:Nat) ^ st2.1.length<=2 ^ 64:=Nat.pow_le_pow_right (by decide) (by dsimp only at k3;omega)
       obtain ⟨hx1,hx2⟩:=hp'.mono k4
       obtain ⟨hy1,hy2⟩:=k2
       dsimp only at hx1 hx2 hy1 hy2 k1 k3 k4
       have u1:xf<18446744073709551616:=Nat.lt_of_lt_of_le hx1 h264
       have u2:xl<18446744073709551616:=Nat.lt_of_lt_of_le hx2 h264
       have u3:yf<18446744073709551616:=Nat.lt_of_lt_of_le hy1 h264
       have u4:yl<18446744073709551616:=Nat.lt_of_lt_of_le hy2 h264
       have o1:((((xf:Nat):Int).toNat|||((yf:Nat):Int).toNat:Nat):Int)=((xf|||yf:Nat):Int):=by rw [g7q,g7q]
       have o2:((((xl:Nat):Int).toNat|||((yl:Nat):Int).toNat:Nat):Int)=((xl|||yl:Nat):Int):=by rw [g7q,g7q]
       cases xn<;>cases yn
       all_goals
        (repeat' ((conv=>whnf);first|rw [q0]|rw [o1]|rw [o2]|refine ⟨RT.cells (.mk k' s' mn' mx' ps' a' c'),rfl,rdq,?_⟩|(refine zD [7000,7001,7002] rfl (fun w' hR hR0=>cW _ w' (hG.castL hR) (hinq.castL hR) hR0) ?_;rintro _ _ ⟨sa2,sc2,fa2,fc2,rfl,rfl⟩;refine ⟨.v _,rfl,?_⟩)|refine zh ?_|((first|apply zc|apply za|apply zd)<;>intro h<;>try (exfalso;omega))|refine pay ?_|refine And.intro (by first|exact ⟨by omega,by omega,by omega,by omega⟩) ?_|intro _));(all_goals (conv=>whnf))
       all_goals try (exfalso;omega)
       all_goals exact zi (⟨i+1,st2,zls _ _,sa2,sc2,fa2,fc2⟩:WrG) ⟨hlt,k1,j2,by dsimp only;omega,he⟩ (by dsimp only;omega) (by (repeat ((conv=>whnf);refine vS ?_));exact trivial) (Ref.takes [7000,7001,7002,3,4,9] rfl (.refl _))
      ·rw [List.drop_of_length_le (by omega),RT.wrA] at he
       (repeat' ((conv=>whnf);first|refine zh ?_|((first|apply zc|apply za|apply zd)<;>intro h<;>try (exfalso;omega))|refine pay ?_|intro _));(all_goals (conv=>whnf))
       all_goals try (exfalso;omega)
       exact ⟨⟨_,Ref.takes [7000,7001,7002] rfl (.refl _),sa',sc',fa',fc',by rw [←he];rfl,by rw [←he]⟩⟩
     ·rw [if_neg h4]
      by_cases h5:k=5
      ·subst h5
       rw [RT.pos5 rfl] at hl
       rw [if_pos rfl]
       rcases hVN with ⟨h|h,_⟩|⟨h|h,_⟩|⟨_,hp1,hmn,hmn2,hmx⟩
       ·exact absurd h (by decide)
       ·exact absurd h (by decide)
       ·exact absurd h (by decide)
       ·exact absurd h (by decide)
       match ps,hp1 with
       | [p],_ =>
         rw [RT.poss,RT.poss,Nat.add_zero] at hl
         rw [RT.wrR]
         have hpm:p∈[p]:=List.mem_singleton_self p
         have hps2:=RT.size_mem hpm
         have hIH:zuK b p:=fun st sa sc fa fc h1 h2 fp w h3 h4 h5=>IH p (by omega) (RT.Vl_mem hPl hpm) b st sa sc fa fc h1 h2 fp w h3 h4 h5
         by_cases hinf:mx=-1
         ·subst hinf
          obtain ⟨n,hn⟩:∃ n,cpN mn (-1)=n:=⟨_,rfl⟩
          have e1:max mn 1=(n:Int):=by rw [←hn];unfold cpN;rw [if_pos rfl];omega
          rw [hn] at hl ⊢
          rw [show ((-1:Int) == -1)=true from rfl]
          have cR:=fun (fp':List Nat) (W:World) hG hI hR=>zmI b s mn n p a c e1 (by omega) hmn hmn2 hIH st sa sc fa fc hw hl fp' W hG hI hR
          (repeat' ((conv=>whnf);first|(refine zD [7000,7001,7002] rfl (fun w' hR hR0=>cR _ w' (hG.castL hR) (hin.castL hR) hR0) ?_;rintro _ _ ⟨sa2,sc2,fa2,fc2,rfl,rfl⟩;refine ⟨.v _,rfl,?_⟩)|refine zh ?_|((first|apply zc|apply za|apply zd)<;>intro h<;>try (exfalso;omega))|refine pay ?_|intro _));(all_goals (conv=>whnf))
          all_goals try (exfalso;omega)
          exact ⟨⟨_,Ref.takes [7000,7001,7002] rfl (.refl _),sa2,sc2,fa2,fc2,rfl,rfl⟩⟩
         ·obtain ⟨n,rfl⟩:∃ n:Nat,mx=n:=⟨mx.toNat,by omega⟩
          have hn:cpN mn (n:Int)=n:=by unfold cpN;rw [if_neg hinf,g7q]
          rw [hn] at hl ⊢
          rw [show ((n:Int) == -1)=false from beq_eq_false_iff_ne.2 hinf]
          have cR:=fun (fp':List Nat) (W:World) hG hI hR=>zmJ b s mn n p a c (by omega) hmn hmn2 hIH st sa sc fa fc hw hl fp' W hG hI hR
          (repeat' ((conv=>whnf);first|(refine zD [7000,7001,7002] rfl (fun w' hR hR0=>cR _ w' (hG.castL hR) (hin.castL hR) hR0) ?_;rintro _ _ ⟨sa2,sc2,fa2,fc2,rfl,rfl⟩;refine ⟨.v _,rfl,?_⟩)|refine zh ?_|((first|apply zc|apply za|apply zd)<;>intro h<;>try (exfalso;omega))|refine pay ?_|intro _));(all_goals (conv=>whnf))
          all_goals try (exfalso;omega)
          exact ⟨⟨_,Ref.takes [7000,7001,7002] rfl (.refl _),sa2,sc2,fa2,fc2,rfl,rfl⟩⟩
      rw [if_neg h5]
      (repeat' ((conv=>whnf);first|refine zh ?_|((first|apply zc|apply za|apply zd)<;>intro h<;>try (exfalso;omega))|refine pay ?_|intro _));(all_goals (conv=>whnf))
      all_goals try (exfalso;omega)
      exact ⟨⟨_,Ref.takes [7000,7001,7002] rfl (.refl _),sa,sc,fa,fc,rfl,rfl⟩⟩
structure NdIn (w:World) (fp:List Nat) (b off:Nat) (r:RT):Prop where
 cel:In w fp (some ⟨b,off,none⟩) r.cells
 tin:RIn w fp r
abbrev pV (b off:Nat):Value:=.pointer (some ⟨b,off,none⟩)
theorem NdIn.cast {w w':World} {fp fp':List Nat} {L:List Ent} {b off:Nat} {r:RT} (h:NdIn w fp b off r) (hR:R w fp L w') (hf:∀ x∈fp',x∈fps L):NdIn w' fp' b off r:=⟨h.cel.cast hR hf,fun x hx=>(h.tin x hx).cast hR hf⟩
theorem In.sub_row {w:World} {fp:List Nat} {b o n:Nat} {xs ys:List Value} (h:In w fp (some ⟨b,o,none⟩) xs) (hs:(xs.drop n).take ys.length=ys) (hp:0<ys.length):In w fp (some ⟨b,o+n,none⟩) ys:=by
 rcases h with rfl|⟨b',off,he,h1,h2,h3⟩
 ·simp at hs;rw [hs] at hp;simp at hp
 ·simp only [g3q,Addr.mk.injEq,and_true] at he
  obtain ⟨rfl,rfl⟩:=he
  refine .inr ⟨b,o+n,rfl,h1,h2,fun j v hv=>?_⟩
  rw [Nat.add_assoc]
  refine h3 (n+j) v ?_
  rw [←hs,List.getElem?_take] at hv
  split at hv
  ·simpa using hv
  ·cases hv
theorem NdIn.kid {w:World} {fp:List Nat} {b off j:Nat} {k:Int} {s:Ls} {mn mx:Int} {ps:List RT} {a:Option Addr} {c:Nat} {p:RT} (h:NdIn w fp b off (.mk k s mn mx ps a c)) (hp:ps[j]?=some p):∃ b0 o0,a=some ⟨b0,o0,none⟩/\NdIn w fp b0 (o0+j*8) p:=by
 have hrow:=h.tin.row
 have hj:=(List.getElem?_eq_some_iff.1 hp).1
 rcases hrow with h0|⟨b0,o0,rfl,h1,h2,h3⟩
 ·have:=vG ps
  rw [h0] at this
  simp at this;omega
 ·exact ⟨b0,o0,rfl,In.sub_row (.inr ⟨b0,o0,rfl,h1,h2,h3⟩) (by rw [RT.cells_len];exact zjc hp) (by rw [RT.cells_len];decide),h.tin.kid (List.mem_of_getElem? hp)⟩
theorem NdIn.castL {w0 w:World} {fp0:List Nat} {L0 Lr:List Ent} {b off:Nat} {r:RT} (h:NdIn w0 fp0 b off r) (hR:R w0 fp0 (L0++Lr) w):NdIn w (fps L0) b off r:=⟨h.cel.castL hR,h.tin.castL hR⟩
theorem RT.sizes_app:∀ (l:List RT) (p:RT),RT.sizes (l++[p])=RT.sizes l+p.size
 | [],p=>by simp only [List.nil_append,RT.sizes];omega
 | q::l,p=>by rw [List.cons_append,RT.sizes,RT.sizes,RT.sizes_app l p];omega
theorem RT.sizes_take:∀ (l:List RT) (j:Nat),RT.sizes (l.take j)<=RT.sizes l
 | l,0=>by rw [List.take_zero,RT.sizes];omega
 | [],j+1=>Nat.le_refl _
 | q::l,j+1=>by rw [List.take_succ_cons,RT.sizes,RT.sizes];have:=RT.sizes_take l j;omega
def cps (f:RT->Nat) (l:List RT):Nat:=(l.map fun p=>min (f p) 1048576).sum
theorem zqK (f:RT->Nat) (l:List RT) (p:RT):cps f (l++[p])=cps f l+min (f p) 1048576:=by simp [cps]
theorem zjd:∀ l:List RT,min (cps RT.pos l) 1048576=min (RT.poss l) 1048576
 | []=>rfl
 | p :: l => by
   have ih:=zjd l
   have e:cps RT.pos (p::l)=min p.pos 1048576+cps RT.pos l:=by simp [cps]
   rw [e,RT.poss];omega
theorem zje:∀ l:List RT,min (cps RT.wrt l) 1048576=min (RT.wrts l) 1048576
 | []=>rfl
 | p :: l => by
   have ih:=zje l
   have e:cps RT.wrt (p::l)=min p.wrt 1048576+cps RT.wrt l:=by simp [cps]
   rw [e,RT.wrts];omega
theorem zoX (f:RT->Nat):∀ l:List RT,cps f l<=RT.sizes l*1048576
 | []=>Nat.zero_le _
 | .mk k s mn mx ps a c :: l => by
   have ih:=zoX f l
   have e:cps f (.mk k s mn mx ps a c::l)=min (f (.mk k s mn mx ps a c)) 1048576+cps f l:=by simp [cps]
   rw [e,RT.sizes,RT.size];omega
theorem zuL {p a b C:Nat} (h:min a C=min b C):min (p+a) C=min (p+b) C:=by omega
theorem zqL {a b C:Nat} (h:min a C=min b C):min (a+1) C=min (b+1) C:=by omega
theorem zoY {X Y C:Nat} (h:min X C=min Y C):min (X:Int) (C:Int)=((min Y C:Nat):Int):=by omega
theorem zoZ {X Y C:Nat} (h:min (X+1) C=min Y C):min ((X:Int)+1) (C:Int)=((min Y C:Nat):Int):=by omega
theorem zqM {a b n C:Nat} (h:min a C=min b C):min (a*n) C=min (b*n) C:=by
 by_cases hn:n=0
 ·subst hn;simp
 ·have hn1:1<=n:=by omega
  by_cases hab:a=b
  ·rw [hab]
  ·have ha:C<=a:=by omega
   have hb:C<=b:=by omega
   have h1:C*1<=a*n:=Nat.mul_le_mul ha hn1
   have h2:C*1<=b*n:=Nat.mul_le_mul hb hn1
   omega
def ndQ (bm:Nat) (m0:Nat) (r:RT) (v:Value) (L1:List Ent):Prop:=∃ (p q:Int) (ok:Bool) (m:Nat),v=.tuple #[.int .i64 p,.int .i64 q,.bool ok]/\(ok=true->p=(min r.pos 1048576:Nat)/\q=(min r.wrt 1048576:Nat)/\m=m0+r.size/\m<=256)/\L1=[.box 7100 bm [.int .i64 (m:Int)] xw]
theorem zmK (k:Int) (s:Ls) (mn mx:Int) (ps:List RT) (a:Option Addr) (c:Nat) (b off:Nat) (h0:0<=mn) (hx:mx=-1∨0<=mx) (w:World) (hin:NdIn w [] b off (.mk k s mn mx ps a c)) :
 Calls Tryz.prog y9 #[pV b off] w fun e w'=>e=.returned (.int .i64 (cpN mn mx:Nat))/\Ext w w':=by
 refine zF [.el (some ⟨b,off,none⟩) 0] w zdw (by simp) ?_
 have rd5:=fun {L:List Ent}=>hin.cel.rd (L:=L) (k:=5) (v:=.int .i64 mn) rfl
 have rd6:=fun {L:List Ent}=>hin.cel.rd (L:=L) (k:=6) (v:=.int .i64 mx) rfl
 by_cases hm:mx=-1
 ·have e:((cpN mn mx:Nat):Int)=max mn 1:=by unfold cpN;rw [if_pos hm];omega
  (repeat' ((conv=>whnf);first|refine ⟨_,rd5,?_⟩|refine ⟨_,rd6,?_⟩|((first|apply zc|apply za|apply zd)<;>intro h<;>try (exfalso;omega))|refine pay ?_|refine And.intro (by first|exact (by simp)) ?_|intro _));(all_goals (conv=>whnf))
  all_goals try (exfalso;omega)
  exact ⟨by rw [e]⟩
 ·have e:((cpN mn mx:Nat):Int)=mx:=by unfold cpN;rw [if_neg hm];omega
  (repeat' ((conv=>whnf);first|refine ⟨_,rd5,?_⟩|refine ⟨_,rd6,?_⟩|((first|apply zc|apply za|apply zd)<;>intro h<;>try (exfalso;omega))|refine pay ?_|refine And.intro (by first|exact (by simp)) ?_|intro _));(all_goals (conv=>whnf))
  all_goals try (exfalso;omega)
  exact ⟨by rw [e]⟩
structure NdG where
 j:Nat
 m:Nat
theorem zxu {mn mx:Int} (h:mn<=64) (hx:mx<=64):cpN mn mx<=64:=by unfold cpN;split<;>omega
theorem zkv:∀ (N:Nat) (r:RT),r.size<=N->r.Vl->∀ (b off bm m0 d:Nat),m0<=256->d<=33->∀ (fp:List Nat) (w:World),NdIn w fp b off r->R w fp [.box 7100 bm [.int .i64 (m0:Int)] xw] w ->
 Calls Tryz.prog zP #[pS bm,pV b off,.int .i64 (d:Int)] w fun e w'=>∃ v L1,e=.returned v/\R w fp L1 w'/\ndQ bm m0 r v L1
 | 0,.mk k s mn mx ps a c,hN=>by rw [RT.size] at hN;omega
 | N + 1,.mk k s mn mx ps a c,hN => by
   intro hVl b off bm m0 d hm0 hd fp w hin hR
   have IH:=zkv N
   have hsz:(RT.mk k s mn mx ps a c).size=RT.sizes ps+1:=by rw [RT.size]
   rw [hsz] at hN
   have hps:=RT.len_sizes ps
   rw [RT.Vl] at hVl
   obtain ⟨⟨_,_,hVN⟩,hPl⟩:=hVl
   refine zr [.ptr 7100 bm 0,.el (some ⟨b,off,none⟩) 0,.v (.int .i64 (d:Int))] zeD (by simp) hR ?_
   have rd0:=fun {L:List Ent}=>hin.cel.rd (L:=L) (k:=0) (v:=.int .i64 k) rfl
   have rd7:=fun {L:List Ent}=>hin.cel.rd (L:=L) (k:=7) (v:=.slice a ps.length c) rfl
   by_cases hb:256<m0+1∨32<d
   ·(repeat' ((conv=>whnf);first|refine zh ?_|((first|apply zc|apply za|apply zd)<;>intro h<;>try (exfalso;omega))|refine pay ?_|refine And.intro (by first|exact (by simp)) ?_|intro _));(all_goals (conv=>whnf))
    all_goals try (exfalso;omega)
    all_goals exact ⟨⟨_,Ref.takes [7100] rfl (.refl _),0,0,false,m0+1,rfl,(fun h=>by cases h),rfl⟩⟩
   ·obtain ⟨p0,hp0,hp1⟩:∃ p0:Nat,p0=(if k=2 then 1 else 0)/\p0<=1:=⟨_,rfl,by split<;>omega⟩
    have hq0:p0=1/\k=2∨p0=0/\k≠2:=by rw [hp0];split<;>omega
    clear hp0
    have hfin:k≠5->min (p0+cps RT.pos ps) 1048576=min (RT.mk k s mn mx ps a c).pos 1048576/\min (cps RT.wrt ps+1) 1048576=min (RT.mk k s mn mx ps a c).wrt 1048576:=fun h5=>by
     have e1:=zjd ps
     have e2:=zje ps
     have e3:(RT.mk k s mn mx ps a c).pos=p0+RT.poss ps:=by
      rcases hq0 with ⟨h1,h2⟩|⟨h1,h2⟩
      ·rw [RT.pos2 h2,h1]
      ·rw [RT.poso h2 h5,h1,Nat.zero_add]
     have e4:(RT.mk k s mn mx ps a c).wrt=RT.wrts ps+1:=by rw [RT.wrt,if_neg h5]
     rw [e3,e4];exact ⟨zuL e1,zqL e2⟩
    have hfin5:k=5->min (cps RT.pos ps*cpN mn mx) 1048576=min (RT.mk k s mn mx ps a c).pos 1048576/\min (cps RT.wrt ps*cpN mn mx+1) 1048576=min (RT.mk k s mn mx ps a c).wrt 1048576:=fun h5=>by
     have e1:=zqM (n:=cpN mn mx) (zjd ps)
     have e2:=zqM (n:=cpN mn mx) (zje ps)
     have e4:(RT.mk k s mn mx ps a c).wrt=RT.wrts ps*cpN mn mx+1:=by rw [RT.wrt,if_pos h5]
     rw [RT.pos5 h5,e4];exact ⟨e1,zqL e2⟩
    by_cases hk2:k=2
    all_goals
     (repeat' ((conv=>whnf);first|refine ⟨_,rd0,?_⟩|refine ⟨_,_,_,rd7,?_⟩|refine zh ?_|((first|apply zc|apply za|apply zd)<;>intro h<;>try (exfalso;omega))|refine pay ?_|refine And.intro (by first|exact (by simp)) ?_|intro _));(all_goals (conv=>whnf))
    all_goals try (exfalso;omega)
    all_goals
     refine zw NdG (fun g=>[(0,.ptr 7100 bm 0),(1,.el (some ⟨b,off,none⟩) 0),(2,.v (.int .i64 (d:Int))),(6,.v (.int .i64 ((p0+cps RT.pos (ps.take g.j):Nat):Int))),(7,.v (.int .i64 ((cps RT.wrt (ps.take g.j):Nat):Int))),(8,.v (.bool false)),(37,.v (.slice a ps.length c)),(38,.v (.int .i64 (ps.length:Int))),(39,.v (.int .i64 (g.j:Int)))])
      (fun g=>[.box 7100 bm [.int .i64 (g.m:Int)] xw]) (fun g=>g.j<=ps.length/\g.m=m0+1+RT.sizes (ps.take g.j)/\g.m<=256) (fun g=>ps.length - g.j)
      ⟨0,m0+1⟩ ⟨Nat.zero_le _,rfl,by dsimp only;omega⟩ (by have e1:cps RT.pos (ps.take 0)=0:=rfl;have e2:cps RT.wrt (ps.take 0)=0:=rfl;dsimp only;rw [e1,e2];(repeat ((conv=>whnf);refine vS ?_));exact trivial) (Ref.takes [7100] rfl (.box (by rw [Int.natCast_succ]) (.refl _))) ?_
    all_goals
     rintro ⟨j,m⟩ ⟨hj,hm,hm2⟩
     dsimp only at hj hm hm2 ⊢
     have c1:=zoX RT.pos (ps.take j)
     have c2:=zoX RT.wrt (ps.take j)
     have c3:RT.sizes (ps.take j)<=256:=by omega
     have c5:j<=256:=by have h:=RT.len_sizes (ps.take j);rw [List.length_take] at h;omega
     have c4:RT.sizes (ps.take j)*1048576<=256*1048576:=Nat.mul_le_mul_right _ c3
     by_cases hlt:j<ps.length
    all_goals first
     | (exfalso;omega)
     | (rename (¬j<ps.length)=>hge;skip)
     | (rename (j < ps.length) => hlt
        obtain ⟨q,hq⟩:∃ q,ps[j]?=some q:=⟨_,g2q hlt⟩
        have hqm:q∈ps:=List.mem_of_getElem? hq
        have hqs:=RT.size_mem hqm
        obtain ⟨b0,o0,ha,hk⟩:=hin.kid hq
        subst ha
        have htk:ps.take (j+1)=ps.take j++[q]:=by rw [List.take_add_one,hq];rfl
        have e1:=zqK RT.pos (ps.take j) q
        have e2:=zqK RT.wrt (ps.take j) q
        have e3:=RT.sizes_app (ps.take j) q
        rw [←htk] at e1 e2 e3
        have q0:((j:Nat):Int).toNat=j:=by omega
        have hd1:((d+1:Nat):Int)=(d:Int)+1:=rfl
        have cN:=fun (fp':List Nat) (W:World) hI hR=>(show Calls Tryz.prog zP #[pS bm,(SV.el (some ⟨b0,o0,none⟩) (j*8)).val,.int .i64 ((d:Int)+1)] W _ by
         have hv:(SV.el (some ⟨b0,o0,none⟩) (j*8)).val=pV b0 (o0+j*8):=by simp [SV.val,qo]
         rw [hv,←hd1]
         exact IH q (by omega) (RT.Vl_mem hPl hqm) b0 (o0+j*8) bm m (d+1) (by omega) (by omega) fp' W hI hR)
        (repeat' ((conv=>whnf);first|rw [q0]|refine ⟨_,rd0,?_⟩|refine ⟨_,_,_,rd7,?_⟩|(refine zD [7100] rfl (fun w' hR hR0=>cN _ w' (hk.castL hR) hR0) ?_;rintro _ _ ⟨p',q',ok',m',rfl,hok,rfl⟩;rcases ok' with _|_;all_goals (try obtain ⟨rfl,rfl,hm3,hm4⟩:=hok rfl);all_goals refine ⟨.v _,rfl,?_⟩)|refine zh ?_|((first|apply zc|apply za|apply zd)<;>intro h<;>try (exfalso;omega))|refine pay ?_|refine And.intro (by first|exact (by simp)) ?_|intro _));(all_goals (conv=>whnf))
        all_goals try (exfalso;omega)
        all_goals first
         | exact ⟨⟨_,Ref.takes [7100] rfl (.refl _),0,0,false,m',rfl,(fun h=>Bool.noConfusion h),rfl⟩⟩
         | exact zi (⟨j+1,m'⟩:NdG) ⟨hlt,by dsimp only;omega,by dsimp only;omega⟩ (by dsimp only;omega) (by dsimp only;(repeat ((conv=>whnf);refine vS ?_));exact trivial) (Ref.takes [7100] rfl (.refl _)))
    all_goals
     have hje:j=ps.length:=by omega
     subst hje
     rw [List.take_length] at hm c1 c2 c3 c4 ⊢
     obtain ⟨P,hP⟩:∃ P,cps RT.pos ps=P:=⟨_,rfl⟩
     obtain ⟨Q,hQ⟩:∃ Q,cps RT.wrt ps=Q:=⟨_,rfl⟩
     rw [hP,hQ] at hfin hfin5
     rw [hP] at c1
     rw [hQ] at c2
     rw [hP,hQ]
     by_cases h5:k=5
    all_goals first
     | (exfalso;omega)
     | (rename (¬k=5)=>h5;skip)
     | (rename (k = 5) => h5
        obtain ⟨hmn,hmn2,hmx⟩:0<=mn/\mn<=64/\(mx=-1∨(mn<=mx/\mx<=64)):=by
         rcases hVN with ⟨h|h,_⟩|⟨h|h,_⟩|⟨_,hp1,h1,h2,h3⟩<;>first|omega|exact ⟨h1,h2,h3⟩
        have cC:=fun (W:World) (L':List Ent) (hR:R w fp L' W)=>zmK k s mn mx ps a c b off hmn (by omega) W (hin.cast hR (by simp))
        have hcp:=zxu hmn2 (show mx<=64 by omega)
        obtain ⟨f1,f2⟩:=hfin5 h5
        have hp00:p0=0:=by omega
        subst hp00
        clear hfin hfin5
        generalize cpN mn mx=n at *
        have g1:P*n<=268435456*64:=Nat.mul_le_mul (by omega) hcp
        have g2:Q*n<=268435456*64:=Nat.mul_le_mul (by omega) hcp
        clear c1 c2 c4
        have g3:((0+P:Nat):Int)*((n:Nat):Int)=((P*n:Nat):Int):=by rw [Nat.zero_add,Int.natCast_mul]
        have g4:((Q:Nat):Int)*((n:Nat):Int)=((Q*n:Nat):Int):=by rw [Int.natCast_mul]
        generalize P*n=X at *
        generalize Q*n=Y at *
        (repeat' ((conv=>whnf);first|refine ⟨_,rd0,?_⟩|refine ⟨_,_,_,rd7,?_⟩|rw [g3]|rw [g4]|refine zm (.v (.int .i64 (n:Nat))) (fun w' hR=>cC w' _ hR) ?_|refine zh ?_|((first|apply zc|apply za|apply zd)<;>intro h<;>try (exfalso;omega))|refine pay ?_|refine And.intro (by first|exact (by simp)) ?_|intro _));(all_goals (conv=>whnf))
        all_goals try (exfalso;omega)
        exact ⟨⟨_,Ref.takes [7100] rfl (.refl _),_,_,true,m,rfl,fun _=>⟨zoY f1,zoZ f2,by rw [hsz];omega,hm2⟩,rfl⟩⟩)
    all_goals
     rename (¬k=5)=>h5
     obtain ⟨f1,f2⟩:=hfin h5
     (repeat' ((conv=>whnf);first|refine ⟨_,rd0,?_⟩|refine ⟨_,_,_,rd7,?_⟩|refine zh ?_|((first|apply zc|apply za|apply zd)<;>intro h<;>try (exfalso;omega))|refine pay ?_|refine And.intro (by first|exact (by simp)) ?_|intro _));(all_goals (conv=>whnf))
    all_goals try (exfalso;omega)
    all_goals exact ⟨⟨_,Ref.takes [7100] rfl (.refl _),_,_,true,m,rfl,fun _=>⟨zoY f1,zoZ f2,by rw [hsz];omega,hm2⟩,rfl⟩⟩
def msQ (r:RT) (v:Value) (L1:List Ent):Prop:=L1=[]/\((∃ p:Int,r.pos<=64/\r.size<=256/\v=.tuple #[.int .i64 p,.nilIface])∨∃ n,v=.tuple #[.int .i64 0,yg n])
theorem zuM {X C:Nat} (hC:64<C) (h:((min X C:Nat):Int)<=64):X<=64:=by omega
theorem zmL (r:RT) (hVl:r.Vl) (b off:Nat) (w:World) (hin:NdIn w [] b off r) :
 Calls Tryz.prog vX #[pV b off] w fun e w'=>∃ v L1,e=.returned v/\R w [] L1 w'/\msQ r v L1:=by
 refine zQ [.el (some ⟨b,off,none⟩) 0] zc0 (by simp) ?_
 have cN:=fun (bm:Nat) (fp:List Nat) (W:World) hI hR=>(show Calls Tryz.prog zP #[pS bm,(SV.el (some ⟨b,off,none⟩) 0).val,.int .i64 1] W _ from zkv r.size r (Nat.le_refl _) hVl b off bm 0 1 (by omega) (by omega) fp W hI hR)
 obtain ⟨A,hA⟩:∃ A,min r.pos 1048576=A:=⟨_,rfl⟩
 obtain ⟨B,hB⟩:∃ B,min r.wrt 1048576=B:=⟨_,rfl⟩
 have hA2:(A:Int)<=64->r.pos<=64:=fun h=>by rw [←hA] at h;exact zuM (C:=1048576) (by decide) h
 unfold ndQ at cN
 rw [hA,hB] at cN
 (repeat' ((conv=>whnf);first|(refine zD [4] rfl (fun w' hR hR0=>cN _ _ w' (hin.castL hR) (Ref.takes [4] rfl (.box rfl (.nil _)) w' hR0)) ?_;rintro _ _ ⟨p',q',ok',m',rfl,hok,rfl⟩;rcases ok' with _|_;all_goals (try obtain ⟨rfl,rfl,hm3,hm4⟩:=hok rfl);all_goals refine ⟨.v _,rfl,?_⟩)|refine zh ?_|((first|apply zc|apply za|apply zd)<;>intro h<;>try (exfalso;omega))|refine pay ?_|intro _));(all_goals (conv=>whnf))
 all_goals try (exfalso;omega)
 all_goals first
  | exact ⟨⟨[],Ref.takes [] rfl (.nil _),rfl,.inr ⟨9,rfl⟩⟩⟩
  | exact ⟨⟨[],Ref.takes [] rfl (.nil _),rfl,.inl ⟨_,hA2 (by omega),by omega,rfl⟩⟩⟩
def vnQ (r:RT) (v:Value) (L1:List Ent):Prop:=L1=[]/\∃ z:Bool,v=.bool z/\(z=true->r.VN)
theorem zdz (r:RT) (hs:r.size<=2199023255552) (b off:Nat) (w:World) (hin:NdIn w [] b off r) :
 Calls Tryz.prog yN #[pV b off] w fun e w'=>∃ v L1,e=.returned v/\R w [] L1 w'/\vnQ r v L1:=by
 refine zQ [.el (some ⟨b,off,none⟩) 0] zgM (by simp) ?_
 obtain ⟨k,s,mn,mx,ps,a,c⟩:=r
 rw [RT.size] at hs
 have hps:=RT.len_sizes ps
 have rd0:=fun {L:List Ent}=>hin.cel.rd (L:=L) (k:=0) (v:=.int .i64 k) rfl
 have rd5:=fun {L:List Ent}=>hin.cel.rd (L:=L) (k:=5) (v:=.int .i64 mn) rfl
 have rd6:=fun {L:List Ent}=>hin.cel.rd (L:=L) (k:=6) (v:=.int .i64 mx) rfl
 have rd7:=fun {L:List Ent}=>hin.cel.rd (L:=L) (k:=7) (v:=.slice a ps.length c) rfl
 have rd1:∀ {L:List Ent},Rd w [] L (.el (some ⟨b,off,none⟩) 1) s.cells:=fun {L}=>hin.cel.rdn (L:=L) (k:=1) (vs:=s.cells) (show 0<4 by decide) rfl
 by_cases hk:k=2
 ·subst hk
  (repeat' ((conv=>whnf);first|refine ⟨_,rd0,?_⟩|refine ⟨_,rd5,?_⟩|refine ⟨_,rd6,?_⟩|refine ⟨_,_,_,rd7,?_⟩|refine ⟨s.cells,rfl,rd1,?_⟩|refine zh ?_|((first|apply zc|apply za|apply zd)<;>intro h<;>try (exfalso;omega))|refine pay ?_|refine And.intro (by first|exact (by simp)) ?_|intro _));(all_goals (conv=>whnf))
  all_goals try (exfalso;omega)
  all_goals refine ⟨⟨[],Ref.takes [] rfl (.nil _),rfl,_,rfl,fun hz=>?_⟩⟩
  all_goals first
   | exact Bool.noConfusion hz
   | ((try simp only [decide_eq_true_eq] at hz);rw [RT.VN];unfold Ls.zero;refine ⟨by omega,by omega,by omega⟩)
 ·(repeat' ((conv=>whnf);first|refine ⟨_,rd0,?_⟩|refine ⟨_,rd5,?_⟩|refine ⟨_,rd6,?_⟩|refine ⟨_,_,_,rd7,?_⟩|refine ⟨s.cells,rfl,rd1,?_⟩|refine zh ?_|((first|apply zc|apply za|apply zd)<;>intro h<;>try (exfalso;omega))|refine pay ?_|refine And.intro (by first|exact (by simp)) ?_|intro _));(all_goals (conv=>whnf))
  all_goals try (exfalso;omega)
  all_goals refine ⟨⟨[],Ref.takes [] rfl (.nil _),rfl,_,rfl,fun hz=>?_⟩⟩
  all_goals first
   | exact Bool.noConfusion hz
   | ((try simp only [decide_eq_true_eq] at hz);rw [RT.VN];unfold Ls.zero;refine ⟨by omega,by omega,by omega⟩)
def PlB (w:World) (b:Nat):Prop:=∃ cs T,w.heap[b]?=some (.cells cs T (0,0))
def RPl (w:World) (r:RT):Prop:=∀ x∈r.rows,∀ ad:Addr,x.1=some ad->PlB w ad.block
structure Nq where
 b:Nat
 off:Nat
 r:RT
abbrev Nq.v (n:Nq):Value:=pV n.b n.off
structure NdOk (w:World) (n:Nq):Prop where
 inn:NdIn w [] n.b n.off n.r
 pl:PlB w n.b
 rpl:RPl w n.r
 sz:n.r.size<=2199023255552
theorem PlB.later {w w':World} {L:List Ent} {b:Nat} (h:PlB w b) (hR:R w [] L w'):PlB w' b:=by
 obtain ⟨cs,T,hb⟩:=h
 refine ⟨cs,T,?_⟩
 rw [hR.old b (Array.getElem?_eq_some_iff.1 hb).1 (by simp)];exact hb
theorem zo0 {w w':World} {L:List Ent} {b o k:Nat} (h:PlB w b) (hR:R w [] L w'):vo w' (SV.el (some ⟨b,o,none⟩) k).val:=by
 intro ad he
 have hv:(SV.el (some ⟨b,o,none⟩) k).val=pV b (o+k):=by simp [SV.val,qo]
 rw [hv] at he
 cases he
 exact h.later hR
def MG (w:World) (m:List (Value × Value)):Prop:=∀ p∈m,(∃ b o,p.1=pV b o/\PlB w b)/\p.2=.bool true
theorem MG.plain {w w':World} {L:List Ent} {m:List (Value × Value)} (h:MG w m) (hR:R w [] L w'):∀ p∈m,vo w' p.1:=by
 intro p hp ad he
 obtain ⟨⟨b,o,hb,hpl⟩,_⟩:=h p hp
 rw [hb] at he
 cases he
 exact hpl.later hR
theorem zo1 {x v:Value}:∀ {m:List (Value × Value)},qI m x=some v->∃ p∈m,p.2=v
 | (k,u) :: m,h => by
   unfold qI at h
   split at h
   ·cases h;exact ⟨_,g5q,rfl⟩
   ·obtain ⟨p,hp,he⟩:=zo1 h
    exact ⟨p,g4q _ hp,he⟩
theorem MG.val {w:World} {m:List (Value × Value)} (h:MG w m) {x v:Value} (hv:qI m x=some v):v=.bool true:=by
 obtain ⟨p,hp,rfl⟩:=zo1 hv
 exact (h p hp).2
theorem zo2 {x v:Value}:∀ {m:List (Value × Value)},∀ p∈yd m x v,p=(x,v)∨p∈m
 | [],p,h=>by rw [yd,List.mem_singleton] at h;exact .inl h
 | (k,u) :: m,p,h => by
   unfold yd at h
   split at h
   ·rcases List.mem_cons.1 h with h|h
    ·exact .inl h
    ·exact .inr (g4q _ h)
   ·rcases List.mem_cons.1 h with h|h
    ·exact .inr (h ▸ g5q)
    ·exact (zo2 p h).imp id (g4q _)
theorem MG.set {w:World} {m:List (Value × Value)} (h:MG w m) {b o k:Nat} (hp:PlB w b):MG w (yd m (SV.el (some ⟨b,o,none⟩) k).val (.bool true)):=by
 intro p hm
 rcases zo2 p hm with rfl|hm
 ·exact ⟨⟨b,o+k,by simp [SV.val,qo],hp⟩,rfl⟩
 ·exact h p hm
theorem NdOk.kid {w:World} {b off j:Nat} {k:Int} {s:Ls} {mn mx:Int} {ps:List RT} {a:Option Addr} {c:Nat} {p:RT} (h:NdOk w ⟨b,off,.mk k s mn mx ps a c⟩) (hp:ps[j]?=some p):∃ b0 o0,a=some ⟨b0,o0,none⟩/\NdOk w ⟨b0,o0+j*8,p⟩:=by
 obtain ⟨b0,o0,ha,hk⟩:=h.inn.kid hp
 have hm:=List.mem_of_getElem? hp
 have hsz:=h.sz
 have:=RT.size_mem hm
 dsimp only at hsz
 rw [RT.size] at hsz
 refine ⟨b0,o0,ha,hk,h.rpl (a,rtL ps) (by dsimp only;rw [RT.rows];exact g5q) _ ha,fun x hx=>h.rpl x (by dsimp only;rw [RT.rows];exact g4q _ (RT.rows_mem hx hm)),by dsimp only;omega⟩
def sn (m:List (Value × Value)) (b o:Nat):Prop:=qI m (pV b o)=some (.bool true)
theorem zhu {b o b' o':Nat}:qB (pV b o) (pV b' o')=decide (b=b'/\o=o'):=by
 unfold qB pV
 dsimp only
 rw [decide_eq_decide];simp
theorem zeJ {w:World} {b o b' o':Nat}:∀ {m:List (Value × Value)},MG w m->(sn (yd m (pV b o) (.bool true)) b' o'↔(b'=b/\o'=o)∨sn m b' o')
 | [],h => by
   unfold sn
   have e:qI (yd ([]:List (Value × Value)) (pV b o) (.bool true)) (pV b' o')=if qB (pV b' o') (pV b o) then some (.bool true) else none:=rfl
   have e2:qI ([]:List (Value × Value)) (pV b' o')=none:=rfl
   rw [e,e2,zhu]
   by_cases he:b'=b/\o'=o
   ·simp [he]
   ·simp [he]
 | (x,u) :: m,h => by
   obtain ⟨⟨bx,ox,hx,_⟩,hu⟩:=h (x,u) g5q
   dsimp only at hx hu
   subst hx hu
   have ih:=zeJ (b:=b) (o:=o) (b':=b') (o':=o') (m:=m) fun p hp=>h p (g4q _ hp)
   unfold sn at ih ⊢
   rw [yd,zhu]
   by_cases h1:b=bx/\o=ox
   ·obtain ⟨rfl,rfl⟩:=h1
    simp only [and_self,decide_true,if_true]
    simp only [qI,zhu]
    by_cases he:b'=b/\o'=o
    ·simp [he]
    ·simp [he]
   ·simp only [h1,decide_false,Bool.false_eq_true,if_false]
    simp only [qI,zhu]
    by_cases he:b'=bx/\o'=ox
    ·simp [he]
    ·simp only [he,decide_false,Bool.false_eq_true,if_false]
     exact ih
def Dn (w:World) (m:List (Value × Value)) (b o:Nat):Prop:=∀ k s mn mx ps a c,NdOk w ⟨b,o,.mk k s mn mx ps a c⟩->RT.VN (.mk k s mn mx ps a c)/\∀ j,j<ps.length->∀ b0 o0,a=some ⟨b0,o0,none⟩->sn m b0 (o0+j*8)
theorem Dn.mono {w:World} {m m':List (Value × Value)} {b o:Nat} (h:Dn w m b o) (hm:∀ b o,sn m b o->sn m' b o):Dn w m' b o:=fun k s mn mx ps a c hn=>by
 obtain ⟨h1,h2⟩:=h k s mn mx ps a c hn
 exact ⟨h1,fun j hj b0 o0 ha=>hm _ _ (h2 j hj b0 o0 ha)⟩
theorem zvV {w:World} {a:Option Addr} {xs ys:List Value} (hx:In w [] a xs) (hy:In w [] a ys) (hl:xs.length=ys.length):xs=ys:=by
 rcases hx with rfl|⟨b,off,ha,_,_,h3⟩
 ·cases ys with
  | nil=>rfl
  | cons y ys=>simp at hl
 ·rcases hy with rfl|⟨b',off',ha',_,_,h3'⟩
  ·exact List.length_eq_zero_iff.1 hl
  ·rw [ha] at ha'
   simp only [g3q,Addr.mk.injEq,and_true] at ha'
   obtain ⟨rfl,rfl⟩:=ha'
   refine List.ext_getElem hl fun i h1 h2=>?_
   have e1:=h3 i _ (g2q h1)
   have e2:=h3' i _ (g2q h2)
   rw [e1] at e2
   exact Option.some.inj e2
theorem Dn.of {w:World} {m:List (Value × Value)} {b o:Nat} {k:Int} {s:Ls} {mn mx:Int} {ps:List RT} {a:Option Addr} {c:Nat} (hn:NdOk w ⟨b,o,.mk k s mn mx ps a c⟩) (hv:RT.VN (.mk k s mn mx ps a c)) (hk:∀ j,j<ps.length->∀ b0 o0,a=some ⟨b0,o0,none⟩->sn m b0 (o0+j*8)):Dn w m b o:=by
 intro k' s' mn' mx' ps' a' c' hn'
 have e:=zvV hn.inn.cel hn'.inn.cel (by rw [RT.cells_len,RT.cells_len])
 simp only [RT.cells,List.cons.injEq,Value.int.injEq,Value.slice.injEq,true_and,and_true] at e
 obtain ⟨e1,e2,e3,e4,e5,e6,e7,e8,e9,e10⟩:=e
 refine ⟨?_,fun j hj b0 o0 ha=>hk j (by omega) b0 o0 (by rw [e8];exact ha)⟩
 rw [RT.VN] at hv ⊢
 unfold Ls.zero at *
 obtain ⟨h1,h2,h3⟩:=hv
 refine ⟨by omega,by omega,by omega⟩
theorem zo3 {w:World} {m:List (Value × Value)} (h:∀ b o,sn m b o->Dn w m b o):∀ (N:Nat) (r:RT) (b o:Nat),r.size<=N->sn m b o->NdOk w ⟨b,o,r⟩->r.Vl
 | 0,.mk k s mn mx ps a c,b,o,hN,hs,hn=>by rw [RT.size] at hN;omega
 | N + 1,.mk k s mn mx ps a c,b,o,hN,hs,hn => by
   rw [RT.size] at hN
   obtain ⟨h1,h2⟩:=h b o hs k s mn mx ps a c hn
   rw [RT.Vl]
   refine ⟨h1,RT.Vls_of fun p hp=>?_⟩
   obtain ⟨j,hj⟩:=List.getElem?_of_mem hp
   have hjl:=(List.getElem?_eq_some_iff.1 hj).1
   obtain ⟨b0,o0,ha,hk⟩:=hn.kid hj
   have:=RT.size_mem hp
   exact zo3 h N p b0 (o0+j*8) (by omega) (h2 j hjl b0 o0 ha) hk
def ndv (l:List Nq):List Value:=l.map Nq.v
def nds (l:List Nq):Nat:=(l.map fun n=>n.r.size).sum
theorem zlx:∀ l:List Nq,l.length<=nds l
 | []=>Nat.le_refl _
 | ⟨b,o,.mk k s mn mx ps a c⟩ :: l => by
   have:=zlx l
   unfold nds at this ⊢
   rw [List.map_cons,List.sum_cons,List.length_cons,RT.size];omega
theorem zvW (l:List Nq) (x:Nq):nds (l++[x])=nds l+x.r.size:=by simp [nds]
theorem zvX (l:List Nq) (x:Nq):ndv l++[x.v]=ndv (l++[x]):=by simp [ndv]
structure VaG where
 l:List Nq
 m:List (Value × Value)
 a:Option Addr
 c:Nat
structure VbG where
 j:Nat
 l:List Nq
 m:List (Value × Value)
 a:Option Addr
 c:Nat
def vlQ (r:RT) (v:Value) (L1:List Ent):Prop:=L1=[]/\∃ z:Bool,v=.bool z/\(z=true->r.Vl)
def SnI (w:World) (l:List Nq) (m:List (Value × Value)) (E:Nat->Nat->Prop):Prop:=∀ b o,sn m b o->(∃ x∈l,x.b=b/\x.off=o)∨Dn w m b o∨E b o
theorem zpR (n:Nq) (w:World) (hn:NdOk w n) :
 Calls Tryz.prog vE #[n.v] w fun e w'=>∃ v L1,e=.returned v/\R w [] L1 w'/\vlQ n.r v L1:=by
 refine zQ [.el (some ⟨n.b,n.off,none⟩) 0] zsU (by simp) ?_
 have hm0:MG w []:=fun p hp=>by cases hp
 have hv0:(SV.el (some ⟨n.b,n.off,none⟩) 0).val=pV n.b n.off:=by simp [SV.val,qo]
 have hpl:=fun {L:List Ent} (w':World) (hR:R w [] L w')=>(⟨zo0 (o:=n.off) (k:=0) hn.pl hR,fun p hp=>by cases hp⟩:vo w' (SV.el (some ⟨n.b,n.off,none⟩) 0).val/\∀ p∈([]:List (Value × Value)),vo w' p.1)
 (repeat' ((conv=>whnf);first|refine zh ?_|((first|apply zc|apply za|apply zd)<;>intro h<;>try (exfalso;omega))|refine pay ?_|refine And.intro (by first|exact ⟨rfl,rfl,_,rfl⟩|exact hpl) ?_|intro _));(all_goals (conv=>whnf))
 all_goals try (exfalso;omega)
 rename_i mb b12
 refine zw VaG (fun g=>[(0,.el (some ⟨n.b,n.off,none⟩) 0),(2,.v (.bool false)),(3,.mp 8 mb),(4,.sl 12 g.a g.l.length g.c)]) (fun g=>[.own 12 g.a g.l.length g.c qR 1 (ndv g.l),.mapE 8 mb .ptr g.m])
  (fun g=>(∀ x∈g.l,NdOk w x)/\MG w g.m/\nds g.l<=2199023255552/\SnI w g.l g.m (fun _ _=>False)/\sn g.m n.b n.off) (fun g=>nds g.l) ⟨[n],yd [] (SV.el (some ⟨n.b,n.off,none⟩) 0).val (.bool true),some ⟨b12,0,none⟩,1⟩
  ⟨fun x hx=>by rw [List.mem_singleton.1 hx];exact hn,hm0.set hn.pl,by simpa [nds] using hn.sz,fun b o hs=>.inl ⟨n,List.mem_singleton_self n,by
   rw [hv0,zeJ hm0] at hs
   rcases hs with ⟨h1,h2⟩|hs
   ·exact ⟨h1.symm,h2.symm⟩
   ·cases hs⟩,by dsimp only;rw [hv0,zeJ hm0];exact .inl ⟨rfl,rfl⟩⟩ (by (repeat ((conv=>whnf);refine vS ?_));exact trivial) (Ref.takes [12,8] rfl (.refl _)) ?_
 rintro ⟨l,m,a,c⟩ ⟨hl,hm,hsz,hSn,hrt⟩
 dsimp only at hl hm hsz hSn hrt ⊢
 rcases List.eq_nil_or_concat l with rfl|⟨init,x,rfl⟩
 ·(repeat' ((conv=>whnf);first|refine zh ?_|((first|apply zc|apply za|apply zd)<;>intro h<;>try (exfalso;omega))|refine pay ?_|intro _));(all_goals (conv=>whnf))
  all_goals first|(exfalso;simp at *;done)|skip
  exact ⟨⟨[],Ref.takes [] rfl (.nil _),rfl,true,rfl,fun _=>zo3 (fun b o hs=>by
   rcases hSn b o hs with ⟨x,hx,_⟩|h|h
   ·cases hx
   ·exact h
   ·exact h.elim) _ n.r n.b n.off (Nat.le_refl _) hrt hn⟩⟩
 ·rw [List.concat_eq_append] at hl hsz hSn ⊢
  have hx:NdOk w x:=hl x (by simp)
  have hinit:∀ y∈init,NdOk w y:=fun y hy=>hl y (by simp [hy])
  have hlen:(init++[x]).length=init.length+1:=by simp
  have hns:nds (init++[x])=nds init+x.r.size:=by simp [nds]
  rw [hns] at hsz
  have hat:(ndv (init++[x]))[init.length]?=some x.v:=by simp [ndv]
  have htk:(ndv (init++[x])).take init.length=ndv init:=by simp [ndv]
  have q0:(((init.length+1:Nat):Int) - 1).toNat=init.length:=by omega
  obtain ⟨xb,xo,xr⟩:=x
  obtain ⟨k,s,mn,mx,ps,pa,pc⟩:=xr
  have hxs:=hx.sz
  dsimp only at hxs hsz
  rw [RT.size] at hxs hsz
  have hps:=RT.len_sizes ps
  have hil:=zlx init
  have cV:=fun (W:World) (L':List Ent) (hR:R w [] L' W)=>(show Calls Tryz.prog yN #[(SV.el (some ⟨xb,xo,none⟩) 0).val] W _ from zdz (.mk k s mn mx ps pa pc) (by rw [RT.size];omega) xb xo W (hx.inn.cast hR (fun _ h=>by cases h)))
  have rd7:=fun {L:List Ent}=>hx.inn.cel.rd (L:=L) (k:=7) (v:=.slice pa ps.length pc) rfl
  rw [hlen,hns,RT.size]
  (repeat' ((conv=>whnf);first|rw [q0]|refine zek hat ?_|refine ⟨_,_,_,rd7,?_⟩|refine ⟨.el (some ⟨xb,xo,none⟩) 0,⟨rfl,trivial⟩,?_⟩|(refine zz (fun w' hR=>cV w' _ hR) ?_;rintro _ _ ⟨rfl,z,rfl,hVN⟩;refine ⟨.v _,rfl,?_⟩)|refine zh ?_|((first|apply zc|apply za|apply zd)<;>intro h<;>try (exfalso;omega))|refine pay ?_|refine And.intro (by first|exact (by simp)) ?_|intro _));(all_goals (conv=>whnf))
  all_goals try (exfalso;omega)
  ·exact ⟨⟨[],Ref.takes [] rfl (.nil _),rfl,false,rfl,fun h=>Bool.noConfusion h⟩⟩
  ·have hVN':=hVN (by assumption)
   refine zw VbG (fun g=>[(0,.el (some ⟨n.b,n.off,none⟩) 0),(2,.v (.bool false)),(3,.mp 8 mb),(4,.sl 12 g.a g.l.length g.c),(5,.el (some ⟨xb,xo,none⟩) 0),(33,.v (.slice pa ps.length pc)),(34,.v (.int .i64 (ps.length:Int))),(35,.v (.int .i64 (g.j:Int)))])
    (fun g=>[.own 12 g.a g.l.length g.c qR 1 (ndv g.l),.mapE 8 mb .ptr g.m])
    (fun g=>g.j<=ps.length/\(∀ x∈g.l,NdOk w x)/\MG w g.m/\nds g.l<=nds init+RT.sizes (ps.take g.j)/\SnI w g.l g.m (fun b o=>b=xb/\o=xo)/\sn g.m n.b n.off/\∀ j,j<g.j->∀ b0 o0,pa=some ⟨b0,o0,none⟩->sn g.m b0 (o0+j*8)) (fun g=>ps.length - g.j) ⟨0,init,m,a,c⟩
    ⟨Nat.zero_le _,hinit,hm,Nat.le_add_right _ _,fun b o hs=>by
     rcases hSn b o hs with ⟨y,hy,h1,h2⟩|h|h
     ·rcases List.mem_append.1 hy with hy|hy
      ·exact .inl ⟨y,hy,h1,h2⟩
      ·rw [List.mem_singleton.1 hy] at h1 h2
       exact .inr (.inr ⟨h1.symm,h2.symm⟩)
     ·exact .inr (.inl h)
     ·exact h.elim,hrt,fun j h=>absurd h (Nat.not_lt_zero _)⟩ (by (repeat ((conv=>whnf);refine vS ?_));exact trivial) (Ref.takes [12,8] rfl (.own rfl (by rw [Nat.mul_one,htk]) (.refl _))) ?_
   rintro ⟨j,l,m',a',c'⟩ ⟨hj,hl',hm',hns',hSn',hrt',hkd⟩
   dsimp only at hj hl' hm' hns' hSn' hrt' hkd ⊢
   have hst:=RT.sizes_take ps j
   have hll:=zlx l
   clear hlen hns hat htk
   by_cases hlt:j<ps.length
   ·obtain ⟨q,hq⟩:∃ q,ps[j]?=some q:=⟨_,g2q hlt⟩
    have hqm:q∈ps:=List.mem_of_getElem? hq
    have hqs:=RT.size_mem hqm
    obtain ⟨b0,o0,ha,hk⟩:=hx.kid hq
    subst ha
    have htk:ps.take (j+1)=ps.take j++[q]:=by rw [List.take_add_one,hq];rfl
    have e2:=RT.sizes_app (ps.take j) q
    rw [←htk] at e2
    have hst2:=RT.sizes_take ps (j+1)
    have q1:((j:Nat):Int).toNat=j:=by omega
    have hpk:=fun {L:List Ent} (w':World) (hR:R w [] L w')=>(⟨zo0 (o:=o0) (k:=j*8) hk.pl hR,hm'.plain hR⟩:vo w' (SV.el (some ⟨b0,o0,none⟩) (j*8)).val/\∀ p∈m',vo w' p.1)
    have hms:=hm'.set (o:=o0) (k:=j*8) hk.pl
    have hna:=zvW l ⟨b0,o0+j*8,q⟩
    have hva:ndv l++[(SV.el (some ⟨b0,o0,none⟩) (j*8)).val]=ndv (l++[⟨b0,o0+j*8,q⟩]):=by
     rw [←zvX];congr 2;simp [SV.val,qo]
    have hl1:(l++[(⟨b0,o0+j*8,q⟩:Nq)]).length=l.length+1:=by simp
    have hmem:∀ x∈l++[(⟨b0,o0+j*8,q⟩:Nq)],NdOk w x:=fun x hx=>by
     rcases List.mem_append.1 hx with hx|hx
     ·exact hl' x hx
     ·rw [List.mem_singleton.1 hx];exact hk
    (repeat' ((conv=>whnf);first|rw [q1]|refine ⟨_,_,_,rd7,?_⟩|(refine ⟨⟨fun v hv=>?_,fun hn=>?_⟩⟩;(obtain rfl:=hm'.val hv))|refine zh ?_|((first|apply zc|apply za|apply zd)<;>intro h<;>try (exfalso;omega))|refine pay ?_|refine And.intro (by first|exact ⟨rfl,rfl,_,rfl⟩|exact hpk|exact (by simp)) ?_|intro _));(all_goals (conv=>whnf))
    all_goals try (exfalso;omega)
    ·rename_i hv
     have hvs:sn m' b0 (o0+j*8):=by
      unfold sn
      rw [←hv];congr 1;simp [SV.val,qo]
     exact zi (⟨j+1,l,m',a',c'⟩:VbG) ⟨hlt,hl',hm',by dsimp only;omega,hSn',hrt',fun i hi b1 o1 h1=>by
      by_cases he:i=j
      ·simp only [g3q,Addr.mk.injEq,and_true] at h1
       obtain ⟨rfl,rfl⟩:=h1
       rw [he];exact hvs
      ·exact hkd i (by dsimp only at hi;omega) b1 o1 h1⟩ (by dsimp only;omega) (by (repeat ((conv=>whnf);refine vS ?_));exact trivial) (Ref.takes [12,8] rfl (.refl _))
    ·rename_i b52 a2 c2
     have hkv:(SV.el (some ⟨b0,o0,none⟩) (j*8)).val=pV b0 (o0+j*8):=by simp [SV.val,qo]
     have hmono:∀ b o,sn m' b o->sn (yd m' (SV.el (some ⟨b0,o0,none⟩) (j*8)).val (.bool true)) b o:=fun b o h=>by rw [hkv,zeJ hm'];exact .inr h
     exact zi (⟨j+1,l++[(⟨b0,o0+j*8,q⟩:Nq)],yd m' (SV.el (some ⟨b0,o0,none⟩) (j*8)).val (.bool true),a2,c2⟩:VbG) ⟨hlt,hmem,hms,by dsimp only;rw [hna];dsimp only;omega,fun b o hs=>by
      rw [hkv,zeJ hm'] at hs
      rcases hs with ⟨h1,h2⟩|hs
      ·exact .inl ⟨_,List.mem_append_right _ (List.mem_singleton_self _),h1.symm,h2.symm⟩
      ·rcases hSn' b o hs with ⟨y,hy,h1,h2⟩|h|h
       ·exact .inl ⟨y,List.mem_append_left _ hy,h1,h2⟩
       ·exact .inr (.inl (h.mono hmono))
       ·exact .inr (.inr h),hmono _ _ hrt',fun i hi b1 o1 h1=>by
      by_cases he:i=j
      ·simp only [g3q,Addr.mk.injEq,and_true] at h1
       obtain ⟨rfl,rfl⟩:=h1
       rw [he];dsimp only;rw [hkv,zeJ hm'];exact .inl ⟨rfl,rfl⟩
      ·exact hmono _ _ (hkd i (by dsimp only at hi;omega) b1 o1 h1)⟩ (by dsimp only;omega) (by dsimp only;rw [hl1];(repeat ((conv=>whnf);refine vS ?_));exact trivial) (Ref.takes [12,8] rfl (.own hl1.symm hva (.refl _)))
   ·obtain rfl:j=ps.length:=by omega
    have hDn:Dn w m' xb xo:=Dn.of hx hVN' fun i hi b1 o1 h1=>hkd i hi b1 o1 h1
    (repeat' ((conv=>whnf);first|refine zh ?_|((first|apply zc|apply za|apply zd)<;>intro h<;>try (exfalso;omega))|refine pay ?_|intro _));(all_goals (conv=>whnf))
    all_goals try (exfalso;omega)
    exact zi (⟨l,m',a',c'⟩:VaG) ⟨hl',hm',by dsimp only;omega,fun b o hs=>by
     rcases hSn' b o hs with h|h|⟨rfl,rfl⟩
     ·exact .inl h
     ·exact .inr (.inl h)
     ·exact .inr (.inl hDn),hrt'⟩ (by dsimp only;omega) (by (repeat ((conv=>whnf);refine vS ?_));exact trivial) (Ref.takes [12,8] rfl (.refl _))
def rcQ (r:RT) (v:Value) (L1:List Ent):Prop:=L1=[]/\((r.pos<=64/\r.size<=256/\r.Vl/\v=.nilIface)∨∃ n,v=yg n)
theorem RPl.later {w w':World} {L:List Ent} {r:RT} (h:RPl w r) (hR:R w [] L w'):RPl w' r:=fun x hx ad ha=>(h x hx ad ha).later hR
theorem zu9 {w0 w:World} {L:List Ent} {key b T:Nat} {r:RT} (hR:R w0 [] L w) (hb:yh key L=some (b,r.cells,T)) (hin:RIn w0 [] r) (hpl:RPl w0 r) (hs:r.size<=2199023255552):NdOk w ⟨b,0,r⟩:=by
 refine ⟨⟨In.box hR hb,fun x hx=>(hin x hx).cast hR (fun _ h=>by cases h)⟩,⟨_,_,zch hR hb⟩,hpl.later hR,hs⟩
theorem zo4 (r:RT) (hs:r.size<=2199023255552) (w:World) (hin:RIn w [] r) (hpl:RPl w r) :
 Calls Tryz.prog xv #[r.v] w fun e w'=>∃ v L1,e=.returned v/\R w [] L1 w'/\rcQ r v L1:=by
 refine zQ [.v r.v] zeB (by simp) ?_
 have cV:=fun (b:Nat) (W:World) (L':List Ent) (hR:R w [] L' W) (hb:yh 1 L'=some (b,r.cells,zC))=>zpR ⟨b,0,r⟩ W (zu9 hR hb hin hpl hs)
 have cM:=fun (hVl:r.Vl) (b:Nat) (W:World) (L':List Ent) (hR:R w [] L' W) (hb:yh 1 L'=some (b,r.cells,zC))=>zmL r hVl b 0 W (zu9 hR hb hin hpl hs).inn
 obtain ⟨k,s,mn,mx,ps,a,c⟩:=r
 (repeat' ((conv=>whnf);first|(refine zz (fun w' hR=>cV _ w' _ hR rfl) ?_;rintro _ _ ⟨rfl,z,rfl,hVl⟩;refine ⟨.v _,rfl,?_⟩)|(refine zz (fun w' hR=>cM (hVl (by assumption)) _ w' _ hR rfl) ?_;rintro _ _ ⟨rfl,⟨p,hp,hsz,rfl⟩|⟨n,rfl⟩⟩;all_goals refine ⟨.v _,rfl,?_⟩)|refine zh ?_|((first|apply zc|apply za|apply zd)<;>intro h<;>try (exfalso;omega))|refine pay ?_|intro _));(all_goals (conv=>whnf))
 all_goals try (exfalso;omega)
 all_goals first
  | exact ⟨⟨[],Ref.takes [] rfl (.nil _),rfl,.inl ⟨hp,hsz,hVl (by assumption),rfl⟩⟩⟩
  | exact ⟨⟨[],Ref.takes [] rfl (.nil _),rfl,.inr ⟨_,rfl⟩⟩⟩
end
section
open Go.EG
def zhv (ss:List Ls) (b:Nat):Nat->Nat
 | 0=>0
 | i+1=>if (ss.getD i default).has b=true then zhv ss b i|||2 ^ i else zhv ss b i
theorem zmc (ss:List Ls) (b j:Nat):∀ n,(zhv ss b n).testBit j=(decide (j<n)&&(ss.getD j default).has b)
 | 0=>by simp [zhv]
 | n + 1 => by
   have ih:=zmc ss b j n
   unfold zhv
   by_cases hj:j=n
   ·subst hj
    split
    ·rename_i hz;rw [Nat.testBit_or,ih,Nat.testBit_two_pow_self,hz];simp
    ·rename_i hz;rw [ih];simp at hz;simp [hz]
   ·have hd:decide (j<n+1)=decide (j<n):=by rw [decide_eq_decide];omega
    split
    ·rw [Nat.testBit_or,ih,Nat.testBit_two_pow_of_ne (fun h=>hj h.symm),Bool.or_false,hd]
    ·rw [ih,hd]
def zfQ (ss:List Ls) (b:Nat):Nat:=zhv ss b ss.length
theorem zo5 (ss:List Ls) (b j:Nat):(zfQ ss b).testBit j=(decide (j<ss.length)&&(ss.getD j default).has b):=zmc ..
theorem ztb {ss:List Ls} {ps:List Ls} {p:Ls} {b:Nat} (hH:Homo ss ps) (hp:p∈ps) (hb:b<256) (hpb:p.has b=true):qj ss p ss.length=zfQ ss b:=by
 refine Nat.eq_of_testBit_eq fun j=>?_
 rw [zl7,zo5]
 by_cases hj:j<ss.length
 ·simp only [hj,decide_true,Bool.true_and]
  have hs:ss.getD j default∈ss:=by rw [g1q,g2q hj];exact List.getElem_mem _
  generalize ss.getD j default=s at *
  cases hz:(s.meet p).zb
  ·have hnz:¬(s.meet p).zero:=fun h=>by rw [Ls.zb_iff.2 h] at hz;cases hz
   obtain ⟨x,hx,hxm⟩:=Ls.some_of hnz
   rw [Ls.has_meet,Bool.and_eq_true] at hxm
   rcases hH s hs p hp with h|h
   ·rw [h b hb hpb];rfl
   ·rw [h x hx hxm.2] at hxm;exact absurd hxm.1 (by simp)
  ·have h:=Ls.zero_has (Ls.zb_iff.1 hz) b
   rw [Ls.has_meet,hpb,Bool.and_true] at h
   rw [h];rfl
 ·simp [hj]
structure Wz where
 ss:List Ls
 fol:List Nat
 p:Pz
def Wz.nxO (z:Wz) (sr:Bool):Option Nat->Nat
 | none=>z.p.fs
 | some S=>if sr=true then aft z.fol S|||z.p.fs else aft z.fol S
def Wz.accO (z:Wz) (sr:Bool):Option Nat->Bool
 | none=>z.p.nl
 | some S=>decide (S&&&z.p.lt≠0)||(sr&&z.p.nl)
def Wz.runO (z:Wz) (sr:Bool):Option Nat->List Nat->Option Nat
 | o,[]=>o
 | o,b::t=>z.runO sr (some (z.nxO sr o&&&zfQ z.ss b)) t
def v6 (S:List Nat) (q:Nat):Option Nat:=if q=0 then none else some (S.getD (q - 1) 0)
structure CsI (z:Wz) (sr:Bool) (al:List Nat) (i:Nat) (S:List Nat) (rows:List (List Nat)) (accs:List Bool):Prop where
 nod:S.Nodup
 lt:∀ x∈S,x<2 ^ z.ss.length
 le:i<=S.length+1
 rl:rows.length=i
 acl:accs.length=i
 row:∀ q r,rows[q]?=some r->r.length=al.length/\∀ c,c<al.length->1<=r.getD c 0/\S[r.getD c 0 - 1]?=some (z.nxO sr (v6 S q)&&&al.getD c 0)
 ac:∀ q,q<i->accs.getD q false=z.accO sr (v6 S q)
theorem CsI.start (z:Wz) (sr:Bool) (al:List Nat):CsI z sr al 0 [] [] [] :=
 ⟨List.nodup_nil,(fun x h=>by cases h),by simp,rfl,rfl,(fun q r h=>by simp at h),fun q h=>absurd h (by omega)⟩
structure CrI (z:Wz) (al:List Nat) (nx:Nat) (c:Nat) (S S':List Nat) (row:List Nat):Prop where
 pre:S <+: S'
 nod:S'.Nodup
 lt:∀ x∈S',x<2 ^ z.ss.length
 most:S'.length<=S.length+c
 rl:row.length=al.length
 cl:∀ j,j<c->1<=row.getD j 0/\S'[row.getD j 0 - 1]?=some (nx&&&al.getD j 0)
theorem CrI.start {z:Wz} {sr:Bool} {al:List Nat} {i:Nat} {S:List Nat} {rows:List (List Nat)} {accs:List Bool} (h:CsI z sr al i S rows accs) (nx:Nat):CrI z al nx 0 S S (List.replicate al.length 0) :=
 ⟨List.prefix_refl _,h.nod,h.lt,Nat.le_refl _,by simp,fun j h=>absurd h (by omega)⟩
theorem zmd {l:List Nat} {c x j:Nat} (hc:c<l.length):(l.set c x).getD j 0=if j=c then x else l.getD j 0:=by
 simp only [g1q,List.getElem?_set]
 by_cases h:c=j
 ·subst h;rw [if_pos rfl,if_pos hc,if_pos rfl];rfl
 ·rw [if_neg h,if_neg (fun e=>h e.symm)]
theorem CrI.old {z:Wz} {al:List Nat} {nx c:Nat} {S S' row:List Nat} (h:CrI z al nx c S S' row) (hc:c<al.length) {t:Nat} (ht:S'[t]?=some (nx&&&al.getD c 0)):CrI z al nx (c+1) S S' (row.set c (t+1)):=by
 refine ⟨h.pre,h.nod,h.lt,by have:=h.most;omega,by rw [List.length_set];exact h.rl,fun j hj=>?_⟩
 rw [zmd (by rw [h.rl];exact hc)]
 by_cases he:j=c
 ·rw [if_pos he,he];exact ⟨by omega,ht⟩
 ·rw [if_neg he];exact h.cl j (by omega)
theorem CrI.new {z:Wz} {al:List Nat} {nx c:Nat} {S S' row:List Nat} (h:CrI z al nx c S S' row) (hc:c<al.length) (ht:(nx&&&al.getD c 0)∉S') (hlt:al.getD c 0<2 ^ z.ss.length):CrI z al nx (c+1) S (S'++[nx&&&al.getD c 0]) (row.set c (S'.length+1)):=by
 refine ⟨h.pre.trans (List.prefix_append _ _),?_,?_,by have:=h.most;simp;omega,by rw [List.length_set];exact h.rl,fun j hj=>?_⟩
 ·rw [List.nodup_append]
  exact ⟨h.nod,by simp,fun a ha b hb=>by rw [List.mem_singleton] at hb;subst hb;exact fun e=>ht (e ▸ ha)⟩
 ·intro x hx
  rcases List.mem_append.1 hx with hx|hx
  ·exact h.lt x hx
  ·rw [List.mem_singleton.1 hx];exact Nat.lt_of_le_of_lt Nat.and_le_right hlt
 ·rw [zmd (by rw [h.rl];exact hc)]
  by_cases he:j=c
  ·rw [if_pos he,he];exact ⟨by omega,by simp⟩
  ·rw [if_neg he]
   obtain ⟨h1,h2⟩:=h.cl j (by omega)
   refine ⟨h1,?_⟩
   rw [List.getElem?_append_left (List.getElem?_eq_some_iff.1 h2).1];exact h2
theorem zuN {S S':List Nat} (h:S <+: S') {j:Nat} (hj:j<S.length):S'.getD j 0=S.getD j 0:=by
 obtain ⟨T,rfl⟩:=h
 rw [g1q,List.getElem?_append_left hj,←g1q]
theorem zvY {S S':List Nat} (h:S <+: S') {j x:Nat} (hj:S[j]?=some x):S'[j]?=some x:=by
 obtain ⟨T,rfl⟩:=h
 rw [List.getElem?_append_left (List.getElem?_eq_some_iff.1 hj).1];exact hj
theorem CsI.next {z:Wz} {sr:Bool} {al:List Nat} {i:Nat} {S S' row:List Nat} {rows:List (List Nat)} {accs:List Bool} (h:CsI z sr al i S rows accs) (hi:i<=S.length) (hr:CrI z al (z.nxO sr (v6 S i)) al.length S S' row) :
 CsI z sr al (i+1) S' (rows++[row]) (accs++[z.accO sr (v6 S i)]):=by
 have hpl:=hr.pre.length_le
 have hst:∀ q,q<=i->v6 S' q=v6 S q:=fun q hq=>by
  unfold v6
  by_cases h0:q=0
  ·rw [if_pos h0,if_pos h0]
  ·rw [if_neg h0,if_neg h0,zuN hr.pre (by omega)]
 refine ⟨hr.nod,hr.lt,by omega,by rw [g6q,h.rl];rfl,by rw [g6q,h.acl];rfl,fun q r hq=>?_,fun q hq=>?_⟩
 ·have hql:=(List.getElem?_eq_some_iff.1 hq).1
  rw [g6q,h.rl,List.length_singleton] at hql
  by_cases he:q=i
  ·subst he
   rw [List.getElem?_append_right (by rw [h.rl];exact Nat.le_refl _),h.rl,Nat.sub_self] at hq
   simp only [List.getElem?_cons_zero,g3q] at hq
   subst hq
   rw [hst q (Nat.le_refl _)]
   exact ⟨hr.rl,hr.cl⟩
  ·rw [List.getElem?_append_left (by rw [h.rl];omega)] at hq
   obtain ⟨h1,h2⟩:=h.row q r hq
   rw [hst q (by omega)]
   exact ⟨h1,fun c hc=>⟨(h2 c hc).1,zvY hr.pre (h2 c hc).2⟩⟩
 ·rw [g1q]
  by_cases he:q=i
  ·subst he
   rw [List.getElem?_append_right (by rw [h.acl];exact Nat.le_refl _),h.acl,Nat.sub_self,hst q (Nat.le_refl _)];rfl
  ·rw [List.getElem?_append_left (by rw [h.acl];omega),←g1q,hst q (by omega)]
   exact h.ac q (by omega)
def zbv (cls:List Nat) (rows:List (List Nat)) (accs:List Bool):Mch:=⟨0,cls.map Int.ofNat,rows.map fun r=>r.map Int.ofNat,accs⟩
theorem zxv {z:Wz} {sr:Bool} {al:List Nat} {S:List Nat} {rows:List (List Nat)} {accs:List Bool} {cls:List Nat} (h:CsI z sr al (S.length+1) S rows accs) (hs:S.length<=255) (hc:cls.length=256) (hk:1<=al.length/\al.length<=256) (hcl:∀ x,x<256->cls.getD x 0<al.length):MOk (zbv cls rows accs) al.length:=by
 have hn:(zbv cls rows accs).nx.length=S.length+1:=by show (rows.map _).length=_;rw [g8q,h.rl]
 refine ⟨by show (cls.map _).length=_;rw [g8q,hc],by omega,by omega,by rw [hn];exact h.acl,⟨Int.le_refl _,by rw [hn];show (0:Int)<_;omega⟩,hk,fun r hr=>?_,fun c hcm=>?_⟩
 ·obtain ⟨r',hr',rfl⟩:=List.mem_map.1 hr
  obtain ⟨q,hq⟩:=List.getElem?_of_mem hr'
  obtain ⟨h1,h2⟩:=h.row q r' hq
  refine ⟨by rw [g8q];exact h1,fun x hx=>?_⟩
  obtain ⟨y,hy,rfl⟩:=List.mem_map.1 hx
  obtain ⟨c,hc',he⟩:=List.getElem_of_mem hy
  obtain ⟨h3,h4⟩:=h2 c (by omega)
  have he':r'.getD c 0=y:=by rw [g1q,g2q hc'];exact he
  rw [he'] at h3 h4
  have:=(List.getElem?_eq_some_iff.1 h4).1
  rw [hn]
  exact ⟨Int.natCast_nonneg _,by show (y:Int)<_;omega⟩
 ·obtain ⟨y,hy,rfl⟩:=List.mem_map.1 hcm
  obtain ⟨x,hx,he⟩:=List.getElem_of_mem hy
  have:=hcl x (by omega)
  rw [g1q,g2q hx] at this
  have he':y<al.length:=by rw [←he];exact this
  exact ⟨Int.natCast_nonneg _,Int.ofNat_lt.2 he'⟩
theorem zvZ {z:Wz} {sr:Bool} {al:List Nat} {S:List Nat} {rows:List (List Nat)} {accs:List Bool} {cls:List Nat} (h:CsI z sr al (S.length+1) S rows accs) (hcl:∀ x,x<256->cls.getD x 0<al.length) (hc:cls.length=256)
 (hm:∀ x,x<256->al.getD (cls.getD x 0) 0=zfQ z.ss x) {q b:Nat} (hq:q<=S.length) (hb:b<256) :
 1<=stp (zbv cls rows accs) q b/\S[stp (zbv cls rows accs) q b - 1]?=some (z.nxO sr (v6 S q)&&&zfQ z.ss b):=by
 obtain ⟨r,hr⟩:∃ r,rows[q]?=some r:=⟨_,g2q (by rw [h.rl];omega)⟩
 obtain ⟨h1,h2⟩:=h.row q r hr
 have h3:=h2 _ (hcl b hb)
 rw [hm b hb] at h3
 have e:stp (zbv cls rows accs) q b=r.getD (cls.getD b 0) 0:=by
  unfold stp zbv
  dsimp only
  have e1:(cls.map Int.ofNat).getD b 0=((cls.getD b 0:Nat):Int):=by
   rw [g1q,List.getElem?_map,g1q,g2q (by omega)];rfl
  rw [e1,g7q]
  have e2:(rows.map fun r=>r.map Int.ofNat).getD q []=r.map Int.ofNat:=by rw [g1q,List.getElem?_map,hr];rfl
  have hcb:cls.getD b 0<r.length:=by rw [h1];exact hcl b hb
  generalize cls.getD b 0=c at *
  rw [e2,g1q,List.getElem?_map,g1q,g2q hcb];rfl
 rw [e];exact h3
theorem zqN {z:Wz} {sr:Bool} {al:List Nat} {S:List Nat} {rows:List (List Nat)} {accs:List Bool} {cls:List Nat} (h:CsI z sr al (S.length+1) S rows accs) (hcl:∀ x,x<256->cls.getD x 0<al.length) (hc:cls.length=256)
 (hm:∀ x,x<256->al.getD (cls.getD x 0) 0=zfQ z.ss x):∀ (t:List Nat) (q:Nat),q<=S.length->BT t->lng (zbv cls rows accs) q t=z.accO sr (z.runO sr (v6 S q) t)
 | [],q,hq,_ => by
   show accs.getD q false=_
   rw [h.ac q (by omega)];rfl
 | b :: t,q,hq,hb => by
   obtain ⟨h1,h2⟩:=zvZ h hcl hc hm hq (hb b g5q)
   have hlt:=(List.getElem?_eq_some_iff.1 h2).1
   show lng (zbv cls rows accs) (stp (zbv cls rows accs) q b) t=_
   have hcu:v6 S (stp (zbv cls rows accs) q b)=some (z.nxO sr (v6 S q)&&&zfQ z.ss b):=by
    unfold v6
    rw [if_neg (by omega),g1q,h2];rfl
   rw [zqN h hcl hc hm t _ (by omega) (fun x hx=>hb x (g4q _ hx)),hcu]
   rfl
end
section
open Go.EG
attribute [local irreducible] zT yE Go.Calls
set_option maxRecDepth 20000
set_option maxHeartbeats 4000000
def zb2:Nat->List Nat->List (Value × Value)
 | _,[]=>[]
 | i,x::S=>(.int .u64 (x:Int),.int .i64 ((i+1:Nat):Int))::zb2 (i+1) S
abbrev zjf (S:List Nat):List (Value × Value):=zb2 0 S
theorem zly {x y:Nat}:qB (.int .u64 (x:Int)) (.int .u64 (y:Int))=decide (x=y):=by
 unfold qB;rw [decide_eq_decide];omega
theorem zkw:∀ {S:List Nat} {i t:Nat},t∉S->qI (zb2 i S) (.int .u64 (t:Int))=none/\yd (zb2 i S) (.int .u64 (t:Int)) (.int .i64 ((i+S.length+1:Nat):Int))=zb2 i (S++[t])
 | [],i,t,h=>⟨rfl,rfl⟩
 | x :: S,i,t,h => by
   have hx:¬t=x:=fun e=>h (e ▸ g5q)
   obtain ⟨h1,h2⟩:=zkw (S:=S) (i:=i+1) (t:=t) fun hm=>h (g4q _ hm)
   simp only [zb2,qI,yd,zly,hx,decide_false,Bool.false_eq_true,if_false,List.cons_append]
   refine ⟨h1,?_⟩
   rw [←h2,List.length_cons,show i+(S.length+1)+1=i+1+S.length+1 by omega]
theorem zkx:∀ {S:List Nat} {i j t:Nat},S.Nodup->S[j]?=some t->qI (zb2 i S) (.int .u64 (t:Int))=some (.int .i64 ((i+j+1:Nat):Int))
 | [],i,j,t,hn,h=>by simp at h
 | x :: S,i,0,t,hn,h => by
   simp only [List.getElem?_cons_zero,g3q] at h
   subst h
   simp only [zb2,qI,zly,decide_true,if_true]
 | x :: S,i,j + 1,t,hn,h => by
   simp only [List.getElem?_cons_succ] at h
   have hx:¬t=x:=fun e=>(List.nodup_cons.1 hn).1 (e ▸ List.mem_of_getElem? h)
   have ih:=zkx (i:=i+1) (List.nodup_cons.1 hn).2 h
   simp only [zb2,qI,zly,hx,decide_false,Bool.false_eq_true,if_false]
   rw [ih,show i+(j+1)+1=i+1+j+1 by omega]
theorem ztc {S:List Nat} {t:Nat} (h:t∉S):qI (zjf S) (.int .u64 (t:Int))=none/\yd (zjf S) (.int .u64 (t:Int)) (.int .i64 ((S.length+1:Nat):Int))=zjf (S++[t]):=by
 have:=zkw (i:=0) h
 rw [Nat.zero_add] at this
 exact this
theorem ztd {S:List Nat} {j t:Nat} (hn:S.Nodup) (h:S[j]?=some t):qI (zjf S) (.int .u64 (t:Int))=some (.int .i64 ((j+1:Nat):Int)):=by
 have:=zkx (i:=0) hn h
 rw [Nat.zero_add] at this
 exact this
def RT.z (r:RT):Wz:=⟨(r.wr ([],[])).1.1,(r.wr ([],[])).1.2,(r.wr ([],[])).2⟩
def cnQ (sr:Bool) (r:RT) (v:Value) (L1:List Ent):Prop:=(∃ n,v=.tuple #[.agg #[.int .i64 0,.slice none 0 0,.slice none 0 0,.slice none 0 0],yg n]/\L1=[]) ∨
 ∃ y F kc,v=.tuple #[MA.v y,.nilIface]/\L1=[frE 82 F]/\MFz F y/\Can y.m kc/\r.pos<=64/\r.size<=256/\r.Vl/\∀ t,BT t->lng y.m y.m.start.toNat t=r.z.accO sr (r.z.runO sr none t)
structure CtG where
 i:Nat
 S:List Nat
 sa:Option Addr
 sc:Nat
 rows:List (List Nat)
 nr:List RA
 na:Option Addr
 nc:Nat
 accs:List Bool
 ra:Option Addr
 rc:Nat
 F:List Frz
structure CuG where
 c:Nat
 S:List Nat
 sa:Option Addr
 sc:Nat
 row:List Nat
theorem zxw {w0 w:World} {fp:List Nat} {b:Nat} (h:R w0 fp [.box 29 b [.slice none 0 0,.slice none 0 0] xL] w):R w0 fp (wL b ([],[]) none 0 none 0) w :=
 (Ref.takes (w0:=w0) (fp0:=fp) [29,7001,7002] rfl (.box rfl (.refl _))) w ((h.ownNil 7002 qr 1).ownNil 7001 zj 4)
abbrev wK (b:Nat) (st:WS) (sa:Option Addr) (sc:Nat) (fa:Option Addr) (fc:Nat):List Ent :=
 [.box 29 b [.slice sa st.1.length sc,.slice fa st.2.length fc] xL,.own 7001 sa st.1.length sc zj 4 (lsL st.1),.own 7002 fa st.2.length fc qr 1 (ulL st.2)]
theorem zva {w0 w:World} {fp:List Nat} {b:Nat} {st:WS} {sa:Option Addr} {sc:Nat} {fa:Option Addr} {fc:Nat} (h:R w0 fp (wL b st sa sc fa fc) w):R w0 fp (wK b st sa sc fa fc) w :=
 (Ref.takes (w0:=w0) (fp0:=fp) [7000,7001,7002] rfl (.box rfl (.refl _))) w h
theorem zxS {w0 w:World} {fp:List Nat} {b:Nat} {st:WS} {sa:Option Addr} {sc:Nat} {fa:Option Addr} {fc:Nat} (h:R w0 fp (wK b st sa sc fa fc) w):R w0 fp (wL b st sa sc fa fc) w :=
 (Ref.takes (w0:=w0) (fp0:=fp) [29,7001,7002] rfl (.box rfl (.refl _))) w h
def sqK (b:Nat) (r:WS × Pz) (v:Value) (L1:List Ent):Prop:=∃ sa sc fa fc,v=r.2.v/\L1=wK b r.1 sa sc fa fc
theorem zo6 (r:RT) (hs:r.size<=4096) (hVl:r.Vl) (hp:r.pos<=64) (b:Nat) (fp:List Nat) (w:World) (hG:zfN w fp) (hI:RIn w fp r) (hR:R w fp [.box 29 b [.slice none 0 0,.slice none 0 0] xL] w) :
 Calls Tryz.prog zY #[pS b,r.v] w fun e w'=>∃ v L1,e=.returned v/\R w fp L1 w'/\sqK b (r.wr ([],[])) v L1 :=
 (zh8 4096 (Nat.le_refl _) r hs hVl b ([],[]) none 0 none 0 ⟨rfl,fun x h=>by cases h⟩ (by simpa using hp) fp w hG hI (zxw hR)).mono fun e w' ⟨v,L1,he,hR',sa,sc,fa,fc,hv,hL⟩=>by
  subst hL
  exact ⟨v,_,he,zva hR',sa,sc,fa,fc,hv,rfl⟩
theorem zo7 (b:Nat) (st:WS) (sa:Option Addr) (sc:Nat) (fa:Option Addr) (fc:Nat) (fr:Nat) (hw:WOk st) (hl:st.1.length<=64) (hfr:fr<2 ^ st.1.length) (fp:List Nat) (w:World) (hG:zfN w fp) (hR:R w fp (wK b st sa sc fa fc) w) :
 Calls Tryz.prog yS #[pS b,.int .u64 (fr:Int)] w fun e w'=>∃ v L1,e=.returned v/\R w fp L1 w'/\(v=.int .u64 (aft st.2 fr:Nat)/\L1=wK b st sa sc fa fc) :=
 (zpQ b st sa sc fa fc fr hw hl hfr fp w hG (zxS hR)).mono fun e w' ⟨v,L1,he,hR',hv,hL⟩=>by
  subst hL
  exact ⟨v,_,he,zva hR',hv,rfl⟩
theorem zdA (sr:Bool) (r:RT) (hs:r.size<=2199023255552) (w:World) (hG:Tab w) (hin:RIn w [] r)
 (cC:∀ (W:World) (L':List Ent),R w [] L' W->Calls Tryz.prog xv #[r.v] W fun e w'=>∃ v L1,e=.returned v/\R W [] L1 w'/\rcQ r v L1) :
 Calls Tryz.prog xS #[r.v,.bool sr] w fun e w'=>∃ v L1,e=.returned v/\R w [] L1 w'/\cnQ sr r v L1:=by
 refine zQ [.v r.v,.v (.bool sr)] zvR (by simp) ?_
 have hw0:WOk ([],[]):=⟨rfl,fun x h=>by cases h⟩
 have cW:=fun (hp:r.pos<=64) (hsz:r.size<=256) (hVl:r.Vl) (b:Nat) (fp:List Nat) (W:World) hG hI hR=>zo6 r (by omega) hVl hp b fp W hG hI hR
 have hwk:=fun (hp:r.pos<=64)=>RT.wr_ok r ([],[]) hw0 (by simpa using hp)
 have hz:r.z=⟨(r.wr ([],[])).1.1,(r.wr ([],[])).1.2,(r.wr ([],[])).2⟩:=rfl
 obtain ⟨q,hq⟩:∃ q,r.wr ([],[])=q:=⟨_,rfl⟩
 rw [hq] at cW hwk hz
 have cK:=fun (hp:r.pos<=64) (W:World) (L':List Ent) (hR:R w [] L' W) (sa:Option Addr) (sc:Nat) hI=>zmH q.1.1 (by have:=(hwk hp).2.2.1;simpa using Nat.le_trans this (by simpa using hp)) sa sc W (hG.cast hR (fun _ h=>by cases h)) hI
 have hrc:∃ k s mn mx ps a c,r=.mk k s mn mx ps a c:=by cases r;exact ⟨_,_,_,_,_,_,_,rfl⟩
 obtain ⟨k,s,mn,mx,ps0,a,c,hr⟩:=hrc
 have hrv:r.v=RT.v (.mk k s mn mx ps0 a c):=by rw [hr]
 rw [hrv] at cC cW ⊢
 obtain ⟨⟨ss,fol⟩,whole⟩:=q
 obtain ⟨wn,wf,wl⟩:=whole
 (repeat' ((conv=>whnf);first|(refine zz (fun w' hR=>cC w' _ hR) ?_;rintro _ _ ⟨rfl,⟨hp,hsz,hVl,rfl⟩|⟨n,rfl⟩⟩;all_goals refine ⟨.v _,rfl,?_⟩)|(refine zD [29] rfl (fun w' hR hR0=>cW hp hsz hVl _ _ w' (hG.castL hR) (RIn.castL hin hR) hR0) ?_;rintro _ _ ⟨wsa,wsc,wfa,wfc,rfl,rfl⟩;refine ⟨.v _,rfl,?_⟩)|(refine zz (fun w' hR=>cK hp w' _ hR _ _ (In.ownR (key:=7001) hR rfl)) ?_;rintro _ _ ⟨ps,cls,ca,cc,aa,ac,rfl,rfl,hP,hH,hCI⟩;refine ⟨.v _,rfl,?_⟩)|refine ⟨.sl 7001 _ _ _,⟨rfl,rfl,rfl,rfl⟩,?_⟩|refine zh ?_|((first|apply zc|apply za|apply zd)<;>intro h<;>try (exfalso;omega))|refine pay ?_|intro _));(all_goals (conv=>whnf))
 all_goals try (exfalso;omega)
 ·rename_i b2 b4 b29 b8 b9 mb
  obtain ⟨wok,pok,wl1,_⟩:=hwk hp
  obtain ⟨pok1,pok2⟩:=pok
  dsimp only at wok pok1 pok2 wl1
  have hss:ss.length<=64:=by simp at wl1;omega
  have hfl:fol.length=ss.length:=wok.len
  obtain ⟨hps1,hps2⟩:=hP.len
  obtain ⟨al,hal⟩:∃ al,vF ps ss ps.length=al:=⟨_,rfl⟩
  have hall:al.length=ps.length:=by rw [←hal];exact zoQ ..
  have halg:∀ c,c<ps.length->al.getD c 0=qj ss (ps.getD c default) ss.length:=fun c hc=>by rw [←hal,zoR _ _ _ _ hc,if_pos hc]
  have hal2:∀ c,c<ps.length->al.getD c 0<2 ^ ss.length:=fun c hc=>by rw [halg c hc];exact zjb ..
  rw [hal]
  obtain ⟨z,hzz⟩:∃ z:Wz,z=⟨ss,fol,⟨wn,wf,wl⟩⟩:=⟨_,rfl⟩
  have zss:z.ss=ss:=by rw [hzz]
  have zfol:z.fol=fol:=by rw [hzz]
  have zp:z.p=⟨wn,wf,wl⟩:=by rw [hzz]
  rw [←hzz] at hz
  have h264:(2:Nat) ^ ss.length<=2 ^ 64:=Nat.pow_le_pow_right (by decide) hss
  have uf:wf<18446744073709551616:=Nat.lt_of_lt_of_le pok1 h264
  have ul:wl<18446744073709551616:=Nat.lt_of_lt_of_le pok2 h264
  refine zw CtG (fun g=>[(1,.v (.bool sr)),(4,.ptr 4 b4 0),(5,.v .nilIface),(7,.ptr 29 b29 0),(8,.ptr 8 b8 0),(9,.ptr 9 b9 0),(10,.sl 818 aa ps.length ac),(11,.sl 104 g.sa g.S.length g.sc),(12,.mp 41 mb),(13,.v (.int .i64 (g.i:Int)))])
   (fun g=>wK b29 (ss,fol) wsa wsc wfa wfc++[.box 8 b8 [.bool wn,.int .u64 (wf:Int),.int .u64 (wl:Int)] zx,.box 9 b9 [.int .i64 0,.slice ca 256 cc,.slice g.na g.i g.nc,.slice g.ra g.i g.rc] zg,.own 801 ca 256 cc zk 1 (enL cls),.own 818 aa ps.length ac qr 1 (ulL al),.own 104 g.sa g.S.length g.sc qr 1 (ulL g.S),.mapE 41 mb (.int .u64) (zjf g.S),.own 124 g.na g.i g.nc qm 1 (g.nr.map RA.v),.own 130 g.ra g.i g.rc qe 1 (g.accs.map Value.bool),frE 79 g.F,.box 4 b4 mz zg])
   (fun g=>CsI z sr al g.i g.S g.rows g.accs/\g.S.length<=255/\g.nr.map RA.xs=g.rows.map (fun r=>r.map Int.ofNat)/\∀ r∈g.nr,FIn g.F r.a (zu .i64 r.xs)) (fun g=>256 - g.i)
   ⟨0,[],none,0,[],[],none,0,[],none,0,[]⟩ ⟨CsI.start z sr al,Nat.zero_le _,rfl,fun r hr=>by cases hr⟩ (by (repeat ((conv=>whnf);refine vS ?_));exact trivial)
   ((Ref.ownNil 104 qr 1).trans ((Ref.ownNil 124 qm 1).trans ((Ref.ownNil 130 qe 1).trans ((Ref.freezeNew 79).trans (Ref.takes [29,7001,7002,8,9,801,818,104,41,124,130,79,4] rfl (.refl _)))))) ?_
  rintro ⟨i,S,sa,sc,rows,nr,na,nc,accs,ra,rc,F⟩ ⟨hI,hSl,hnr,hfr⟩
  dsimp only at hI hSl hnr hfr ⊢
  have hile:=hI.le
  by_cases hlt:i<=S.length
  ·obtain ⟨N,hN⟩:∃ N,z.nxO sr (v6 S i)=N:=⟨_,rfl⟩
   obtain ⟨A,hA⟩:∃ A,z.accO sr (v6 S i)=A:=⟨_,rfl⟩
   have hnl:N<18446744073709551616:=by
    have hafl:∀ x,aft fol x<18446744073709551616:=fun x=>zta (n:=64) wok.lt
    rw [←hN]
    unfold v6
    split
    ·unfold Wz.nxO;rw [zp];exact uf
    ·unfold Wz.nxO
     rw [zfol,zp]
     dsimp only
     split
     ·exact Nat.or_lt_two_pow (n:=64) (hafl _) uf
     ·exact hafl _
   (repeat' ((conv=>whnf);first|refine zh ?_|((first|apply zc|apply za|apply zd)<;>intro h<;>try (exfalso;omega))|refine pay ?_|intro _));(all_goals (conv=>whnf))
   all_goals try (exfalso;omega)
   refine zcu Unit (fun _=>[(1,.v (.bool sr)),(4,.ptr 4 b4 0),(5,.v .nilIface),(7,.ptr 29 b29 0),(8,.ptr 8 b8 0),(9,.ptr 9 b9 0),(10,.sl 818 aa ps.length ac),(11,.sl 104 sa S.length sc),(12,.mp 41 mb),(13,.v (.int .i64 (i:Int))),(14,.v (.int .u64 (N:Nat))),(15,.v (.bool A))])
    (fun _=>wK b29 (ss,fol) wsa wsc wfa wfc++[.box 8 b8 [.bool wn,.int .u64 (wf:Int),.int .u64 (wl:Int)] zx,.box 9 b9 [.int .i64 0,.slice ca 256 cc,.slice na i nc,.slice ra i rc] zg,.own 801 ca 256 cc zk 1 (enL cls),.own 818 aa ps.length ac qr 1 (ulL al),.own 104 sa S.length sc qr 1 (ulL S),.mapE 41 mb (.int .u64) (zjf S),.own 124 na i nc qm 1 (nr.map RA.v),.own 130 ra i rc qe 1 (accs.map Value.bool),frE 79 F,.box 4 b4 mz zg])
    (fun _=>True) ?_ ?_
   ·by_cases h0:i=0
    ·have hnx0:N=wf:=by rw [←hN,h0];unfold v6 Wz.nxO;rw [if_pos rfl,zp]
     have hac0:A=wn:=by rw [←hA,h0];unfold v6 Wz.accO;rw [if_pos rfl,zp]
     rw [hnx0,hac0]
     (repeat' ((conv=>whnf);first|((first|apply zc|apply za|apply zd)<;>intro h<;>try (exfalso;omega))|refine pay ?_|intro _));(all_goals (conv=>whnf))
     all_goals try (exfalso;omega)
     exact xJ () trivial (by (repeat ((conv=>whnf);refine vS ?_));exact trivial) (Ref.refl _)
    ·have hi1:i - 1<S.length:=by omega
     obtain ⟨cur,hcur⟩:∃ c,S.getD (i - 1) 0=c:=⟨_,rfl⟩
     have hcl:cur<2 ^ ss.length:=by
      rw [←hcur,←zss];exact hI.lt _ (zZ (d:=0) hi1)
     have hcl64:cur<18446744073709551616:=Nat.lt_of_lt_of_le hcl h264
     have hcu:v6 S i=some cur:=by unfold v6;rw [if_neg h0,hcur]
     have hafl:aft fol cur<18446744073709551616:=zta (n:=64) wok.lt
     have q0:(((i:Nat):Int) - 1).toNat=i - 1:=by omega
     have hat:=zg2 hi1
     have hisk:=zeH hi1
     have hsl:=zhq S
     rw [hcur] at hat
     have hor:((((aft fol cur:Nat):Int).toNat|||((wf:Nat):Int).toNat:Nat):Int)=((aft fol cur|||wf:Nat):Int):=by rw [g7q,g7q]
     have hand:((((cur:Nat):Int).toNat&&&((wl:Nat):Int).toNat:Nat):Int)=((cur&&&wl:Nat):Int):=by rw [g7q,g7q]
     have cA:=fun (fp:List Nat) (W:World) hG hR=>zo7 b29 (ss,fol) wsa wsc wfa wfc cur wok hss hcl fp W hG hR
     rw [hcu] at hN hA
     unfold Wz.nxO at hN
     unfold Wz.accO at hA
     rw [zfol,zp] at hN
     rw [zp] at hA
     dsimp only at hN hA
     rw [←hN,←hA]
     cases sr
     all_goals
      by_cases hz0:cur&&&wl=0
     all_goals
      obtain ⟨bb,hb,hbb⟩:∃ bb,(!decide (((cur&&&wl:Nat):Int)=0))=bb/\bb=decide (cur&&&wl≠0):=⟨_,rfl,by by_cases h:cur&&&wl=0<;>simp [h]⟩
      simp only [hz0,ne_eq,not_true_eq_false,not_false_eq_true,decide_true,decide_false] at hbb
      subst hbb
      simp only [hz0,ne_eq,not_true_eq_false,not_false_eq_true,decide_true,decide_false,Bool.false_or,Bool.true_or,Bool.false_and,Bool.true_and,Bool.false_eq_true,if_true,if_false]
      (repeat' ((conv=>whnf);first|rw [q0]|rw [hat]|rw [hor]|rw [hand]|(refine zD [29,7001,7002] rfl (fun w' hR hR0=>cA _ w' (hG.castL hR) hR0) ?_;rintro _ _ ⟨rfl,rfl⟩;refine ⟨.v _,rfl,?_⟩)|refine zh ?_|((first|apply zc|apply za|apply zd)<;>intro h<;>try (exfalso;omega))|refine pay ?_|refine And.intro (by first|exact ⟨rfl,hisk⟩|exact ⟨by omega,by omega,by omega,by omega⟩) ?_|intro _));(all_goals (conv=>whnf))
      all_goals try (exfalso;omega)
      all_goals exact xJ () trivial (by (try rw [hb]);(repeat ((conv=>whnf);refine vS ?_));exact trivial) (Ref.takes [29,7001,7002,8,9,801,818,104,41,124,130,79,4] rfl (.refl _))
   ·rintro ⟨⟩ -
    have hz1:=zdy ps.length
    have qn:((ps.length:Nat):Int).toNat=ps.length:=by omega
    (repeat' ((conv=>whnf);first|rw [qn]|refine zh ?_|((first|apply zc|apply za|apply zd)<;>intro h<;>try (exfalso;omega))|refine pay ?_|intro _));(all_goals (conv=>whnf))
    all_goals try (exfalso;omega)
    rename_i b82
    rw [hz1]
    refine zw CuG (fun g=>[(1,.v (.bool sr)),(4,.ptr 4 b4 0),(5,.v .nilIface),(7,.ptr 29 b29 0),(8,.ptr 8 b8 0),(9,.ptr 9 b9 0),(10,.sl 818 aa ps.length ac),(11,.sl 104 g.sa g.S.length g.sc),(12,.mp 41 mb),(13,.v (.int .i64 (i:Int))),(14,.v (.int .u64 (N:Nat))),(15,.v (.bool A)),(16,.sl 82 (some ⟨b82,0,none⟩) ps.length ps.length),(83,.sl 818 aa ps.length ac),(84,.v (.int .i64 (ps.length:Int))),(85,.v (.int .i64 (g.c:Int)))])
     (fun g=>wK b29 (ss,fol) wsa wsc wfa wfc++[.box 8 b8 [.bool wn,.int .u64 (wf:Int),.int .u64 (wl:Int)] zx,.box 9 b9 [.int .i64 0,.slice ca 256 cc,.slice na i nc,.slice ra i rc] zg,.own 801 ca 256 cc zk 1 (enL cls),.own 818 aa ps.length ac qr 1 (ulL al),.own 104 g.sa g.S.length g.sc qr 1 (ulL g.S),.mapE 41 mb (.int .u64) (zjf g.S),.own 124 na i nc qm 1 (nr.map RA.v),.own 130 ra i rc qe 1 (accs.map Value.bool),frE 79 F,.box 4 b4 mz zg,.own 82 (some ⟨b82,0,none⟩) ps.length ps.length zk 1 (enL g.row)])
     (fun g=>g.c<=ps.length/\CrI z al N g.c S g.S g.row) (fun g=>ps.length - g.c) ⟨0,S,sa,sc,List.replicate ps.length 0⟩ ⟨Nat.zero_le _,by have:=CrI.start hI N;rwa [hall] at this⟩ (by (repeat ((conv=>whnf);refine vS ?_));exact trivial)
     (Ref.takes [29,7001,7002,8,9,801,818,104,41,124,130,79,4,82] rfl (.refl _)) ?_
    rintro ⟨c,S',sa',sc',row⟩ ⟨hc,hCr⟩
    dsimp only at hc hCr ⊢
    have hal3:=hCr.most
    by_cases hcl:c<ps.length
    ·obtain ⟨t,ht⟩:∃ t,N&&&al.getD c 0=t:=⟨_,rfl⟩
     have q0:((c:Nat):Int).toNat=c:=by omega
     have hat:=zg2 (l:=al) (j:=c) (by omega)
     have hisk:=zeH (l:=al) (j:=c) (by omega)
     have ha64:al.getD c 0<18446744073709551616:=Nat.lt_of_lt_of_le (hal2 c hcl) h264
     have hand:((((N:Nat):Int).toNat&&&((al.getD c 0:Nat):Int).toNat:Nat):Int)=((t:Nat):Int):=by rw [g7q,g7q,ht]
     have hrl:row.length=ps.length:=by rw [hCr.rl,hall]
     have hlr:=qW row
     by_cases hm:t∈S'
     ·obtain ⟨j,hj⟩:=List.getElem?_of_mem hm
      have hg:=ztd hCr.nod hj
      have hsp:=qJ (l:=row) (q:=c) (v:=j+1) (by omega)
      have hC':=hCr.old (by omega) (t:=j) (by rw [ht];exact hj)
      have hjl:=(List.getElem?_eq_some_iff.1 hj).1
      (repeat' ((conv=>whnf);first|rw [q0]|rw [hat]|rw [hand]|rw [hsp]|refine zau hg ?_|refine ⟨.sl 818 _ _ _,⟨rfl,rfl,rfl,rfl⟩,?_⟩|refine zh ?_|((first|apply zc|apply za|apply zd)<;>intro h<;>try (exfalso;omega))|refine pay ?_|refine And.intro (by first|exact ⟨rfl,hisk⟩|exact ⟨by omega,by omega,by omega,by omega⟩|exact ⟨rfl,rfl,_,rfl⟩) ?_|intro _));(all_goals (conv=>whnf))
      all_goals try (exfalso;omega)
      exact zi (⟨c+1,S',sa',sc',row.set c (j+1)⟩:CuG) ⟨hcl,hC'⟩ (by dsimp only;omega) (by (repeat ((conv=>whnf);refine vS ?_));exact trivial) (Ref.takes [29,7001,7002,8,9,801,818,104,41,124,130,79,4,82] rfl (.refl _))
     ·obtain ⟨hg,hg2⟩:=ztc hm
      have hsp:=qJ (l:=row) (q:=c) (v:=S'.length+1) (by omega)
      have hC':=hCr.new (by omega) (by rw [ht];exact hm) (by rw [zss];exact hal2 c hcl)
      rw [ht] at hC'
      have hap:ulL S'++[.int .u64 (t:Int)]=ulL (S'++[t]):=by simp [ulL,zu]
      have hl1:(S'++[t]).length=S'.length+1:=by simp
      (repeat' ((conv=>whnf);first|rw [q0]|rw [hat]|rw [hand]|rw [hsp]|rw [hap]|rw [hg2]|refine jO hg ?_|refine ⟨.sl 818 _ _ _,⟨rfl,rfl,rfl,rfl⟩,?_⟩|refine zh ?_|((first|apply zc|apply za|apply zd)<;>intro h<;>try (exfalso;omega))|refine pay ?_|refine And.intro (by first|exact ⟨rfl,hisk⟩|exact ⟨by omega,by omega,by omega,by omega⟩|exact ⟨rfl,rfl,_,rfl⟩) ?_|intro _));(all_goals (conv=>whnf))
      all_goals try (exfalso;omega)
      rename_i b103 a2 c2
      exact zi (⟨c+1,S'++[t],a2,c2,row.set c (S'.length+1)⟩:CuG) ⟨hcl,hC'⟩ (by dsimp only;omega) (by dsimp only;rw [hl1];(repeat ((conv=>whnf);refine vS ?_));exact trivial) (by dsimp only;rw [hl1];exact Ref.takes [29,7001,7002,8,9,801,818,104,41,124,130,79,4,82] rfl (.refl _))
    ·obtain rfl:c=ps.length:=by omega
     have hrl:row.length=ps.length:=by rw [hCr.rl,hall]
     rw [←hall] at hCr
     by_cases hfull:256<=S'.length
     ·(repeat' ((conv=>whnf);first|refine zh ?_|((first|apply zc|apply za|apply zd)<;>intro h<;>try (exfalso;omega))|refine pay ?_|intro _));(all_goals (conv=>whnf))
      all_goals try (exfalso;omega)
      exact ⟨⟨[],Ref.takes [] rfl (.nil _),.inl ⟨9,rfl,rfl⟩⟩⟩
     ·have hI':=hI.next hlt (by rw [hN];exact hCr)
      rw [hA] at hI'
      have hnv:nr.map RA.v++[Value.slice (some ⟨b82,0,none⟩) ps.length ps.length]=(nr++[(⟨row.map Int.ofNat,some ⟨b82,0,none⟩,ps.length⟩:RA)]).map RA.v:=by
       rw [List.map_append,List.map_singleton]
       unfold RA.v
       rw [g8q,hrl]
      have hav:accs.map Value.bool++[.bool A]=(accs++[A]).map Value.bool:=by rw [List.map_append];rfl
      (repeat' ((conv=>whnf);first|rw [hnv]|rw [hav]|refine ⟨.sl 124 _ _ _,⟨rfl,rfl,rfl,rfl⟩,?_⟩|refine ⟨.sl 130 _ _ _,⟨rfl,rfl,rfl,rfl⟩,?_⟩|refine zh ?_|((first|apply zc|apply za|apply zd)<;>intro h<;>try (exfalso;omega))|refine pay ?_|refine And.intro (by first|exact ⟨by unfold maxLen;omega,by omega⟩) ?_|intro _));(all_goals (conv=>whnf))
      all_goals try (exfalso;omega)
      rename_i b123 a124 c124 b129 a130 c130
      refine zi (⟨i+1,S',sa',sc',rows++[row],nr++[⟨row.map Int.ofNat,some ⟨b82,0,none⟩,ps.length⟩],a124,c124,accs++[A],a130,c130,⟨some ⟨b82,0,none⟩,ps.length,ps.length,enL row⟩::F⟩:CtG) ⟨hI',by dsimp only;omega,?_,?_⟩ (by dsimp only;omega) (by (repeat ((conv=>whnf);refine vS ?_));exact trivial) ?_
      ·dsimp only
       rw [List.map_append,List.map_append,hnr];rfl
      ·intro r hr
       rcases List.mem_append.1 hr with hr|hr
       ·exact (hfr r hr).tail
       ·rw [List.mem_singleton] at hr
        subst hr
        exact FIn.head
      ·dsimp only
       exact (Ref.takes [82,79,29,7001,7002,8,9,801,818,104,41,124,130,4] rfl (.refl _)).trans (Ref.freezeRow.trans (Ref.takes [29,7001,7002,8,9,801,818,104,41,124,130,79,4] rfl (.refl _)))
  ·obtain rfl:i=S.length+1:=by omega
   have hclen:=hCI.len
   have hcl2:∀ x,x<256->cls.getD x 0<al.length:=fun x hx=>by rw [hall];rcases hCI.lt x with h|h<;>omega
   have hm2:∀ x,x<256->al.getD (cls.getD x 0) 0=zfQ z.ss x:=fun x hx=>by
    obtain ⟨p,hpm,hpx⟩:=hP.cover x hx
    obtain ⟨j,hj⟩:=List.getElem?_of_mem hpm
    have hjl:=(List.getElem?_eq_some_iff.1 hj).1
    rw [hCI.cl j p x hjl hj hx hpx,halg j hjl,zss,g1q,hj]
    exact ztb hH hpm hx hpx
   have hM:=zxv hI hSl hclen (by rw [hall];exact ⟨hps1,hps2⟩) hcl2
   have hL:=zqN hI hcl2 hclen hm2
   obtain ⟨x,hx⟩:∃ x:MA,x=⟨0,cls.map Int.ofNat,ca,cc,nr,na,nc,accs,ra,rc⟩:=⟨_,rfl⟩
   have hxm:x.m=zbv cls rows accs:=by rw [hx];unfold MA.m zbv;dsimp only;rw [hnr]
   rw [←hxm] at hM hL
   have hnrl:nr.length=S.length+1:=by
    have:=congrArg List.length hnr
    rw [g8q,g8q,hI.rl] at this;exact this
   have hxv:x.v=.agg #[.int .i64 0,.slice ca 256 cc,.slice na (S.length+1) nc,.slice ra (S.length+1) rc]:=by
    rw [hx]
    unfold MA.v MA.cells
    dsimp only
    rw [g8q,hclen,hnrl,hI.acl]
   have cM:=fun (W:World) (hI:McI W [] x)=>zlm 82 x hI hM
   rw [hxv] at cM
   have hMc:∀ {L':List Ent} {W:World},R w [] L' W->In W [] ca (enL cls)->In W [] na (nr.map RA.v)->In W [] ra (accs.map Value.bool)->frE 79 F∈L'->McI W [] x:=fun hR h1 h2 h3 h4=>by
    rw [hx]
    exact ⟨h1,h2,h3,fun r hr=>(hfr r hr).in_ hR h4⟩
   (repeat' ((conv=>whnf);first|(refine zz (fun w' hR=>cM w' (hMc hR (In.ownR (key:=801) hR rfl) (In.ownR (key:=124) hR rfl) (In.ownR (key:=130) hR rfl) ((zV (key:=79) rfl).mem_iff.2 g5q))) ?_;rintro _ _ ⟨y,F',kc,rfl,rfl,hy,hC,hSm⟩;refine ⟨.v _,rfl,?_⟩)|refine zh ?_|((first|apply zc|apply za|apply zd)<;>intro h<;>try (exfalso;omega))|refine pay ?_|intro _));(all_goals (conv=>whnf))
   all_goals try (exfalso;omega)
   have hx0:x.m.start.toNat=0:=by rw [hxm];rfl
   refine ⟨⟨_,Ref.takes [82] rfl (.refl _),.inr ⟨y,F',kc,rfl,rfl,hy,hC,hp,hsz,hVl,fun t ht=>?_⟩⟩⟩
   have h1:=hSm t ht
   rw [hx0,hL t 0 (Nat.zero_le _) ht] at h1
   rw [hz];exact h1
 ·exact ⟨⟨[],Ref.takes [] rfl (.nil _),.inl ⟨n,rfl,rfl⟩⟩⟩
end
section
open Go.EG
def Pth (S E:Nat->Nat->Prop):List Nat->Nat->Nat->Prop
 | [],_,_=>False
 | b::t,i,j=>S i b/\((t=[]/\i=j)∨∃ k,E i k/\Pth S E t k j)
theorem Pth.ne {S E:Nat->Nat->Prop} {t:List Nat} {i j:Nat} (h:Pth S E t i j):t≠[]:=by
 rintro rfl;exact h
theorem Pth.join {S E E2:Nat->Nat->Prop} (hE:∀ i k,E i k->E2 i k):∀ {u v:List Nat} {i j x y:Nat},Pth S E u i x->E2 x y->Pth S E2 v y j->Pth S E2 (u++v) i j
 | [],v,i,j,x,y,h,he,hv=>h.elim
 | b :: u,v,i,j,x,y,h,he,hv => by
   obtain ⟨h1,⟨rfl,rfl⟩|⟨k,hk,hu⟩⟩:=h
   ·exact ⟨h1,.inr ⟨y,he,hv⟩⟩
   ·exact ⟨h1,.inr ⟨k,hE _ _ hk,Pth.join hE hu he hv⟩⟩
theorem Pth.mono {S E E2:Nat->Nat->Prop} (hE:∀ i k,E i k->E2 i k):∀ {u:List Nat} {i j:Nat},Pth S E u i j->Pth S E2 u i j
 | [],i,j,h=>h
 | b :: u,i,j,h => by
   obtain ⟨h1,h2|⟨k,hk,hu⟩⟩:=h
   ·exact ⟨h1,.inl h2⟩
   ·exact ⟨h1,.inr ⟨k,hE _ _ hk,Pth.mono hE hu⟩⟩
theorem Pth.loc {S S2 E E2:Nat->Nat->Prop} {R:Nat->Prop} (hS:∀ i b,R i->(S i b↔S2 i b)) (hE:∀ i k,R i->(E i k↔E2 i k)) (hc:∀ i k,R i->E i k->R k):∀ {t:List Nat} {i j:Nat},R i->(Pth S E t i j↔Pth S2 E2 t i j)
 | [],i,j,h=>Iff.rfl
 | b :: t,i,j,h => by
   constructor
   ·rintro ⟨h1,h2|⟨k,hk,ht⟩⟩
    ·exact ⟨(hS _ _ h).1 h1,.inl h2⟩
    ·exact ⟨(hS _ _ h).1 h1,.inr ⟨k,(hE _ _ h).1 hk,(Pth.loc hS hE hc (hc _ _ h hk)).1 ht⟩⟩
   ·rintro ⟨h1,h2|⟨k,hk,ht⟩⟩
    ·exact ⟨(hS _ _ h).2 h1,.inl h2⟩
    ·have hk':=(hE _ _ h).2 hk
     exact ⟨(hS _ _ h).2 h1,.inr ⟨k,hk',(Pth.loc hS hE hc (hc _ _ h hk')).2 ht⟩⟩
theorem Pth.stay {S E:Nat->Nat->Prop} {R:Nat->Prop} (hc:∀ i k,R i->E i k->R k):∀ {t:List Nat} {i j:Nat},R i->Pth S E t i j->R j
 | [],i,j,h,hp=>hp.elim
 | b :: t,i,j,h,hp => by
   obtain ⟨h1,⟨rfl,rfl⟩|⟨k,hk,ht⟩⟩:=hp
   ·exact h
   ·exact Pth.stay hc (hc _ _ h hk) ht
theorem Pth.split {S E E2:Nat->Nat->Prop} {P Q:Nat->Prop} (hE:∀ i k,E2 i k->E i k∨(P i/\Q k)):∀ {t:List Nat} {i j:Nat},Pth S E2 t i j->Pth S E t i j∨∃ u v x y,t=u++v/\Pth S E u i x/\P x/\Q y/\Pth S E2 v y j
 | [],i,j,h=>h.elim
 | b :: t,i,j,h => by
   obtain ⟨h1,h2|⟨k,hk,ht⟩⟩:=h
   ·exact .inl ⟨h1,.inl h2⟩
   ·rcases hE i k hk with hk|⟨hp,hq⟩
    ·rcases Pth.split hE ht with h|⟨u,v,x,y,rfl,hu,hx,hy,hv⟩
     ·exact .inl ⟨h1,.inr ⟨k,hk,h⟩⟩
     ·exact .inr ⟨b::u,v,x,y,rfl,⟨h1,.inr ⟨k,hk,hu⟩⟩,hx,hy,hv⟩
    ·exact .inr ⟨[b],t,i,k,rfl,⟨h1,.inl ⟨rfl,rfl⟩⟩,hp,hq,ht⟩
theorem Pth.snoc {S E:Nat->Nat->Prop}:∀ {t:List Nat} {i j b:Nat},t≠[]->(Pth S E (t++[b]) i j↔∃ k,Pth S E t i k/\E k j/\S j b)
 | [],i,j,b,h=>absurd rfl h
 | [c],i,j,b,h => by
   constructor
   ·rintro ⟨h1,⟨h2,_⟩|⟨k,hk,h2,⟨_,rfl⟩|⟨_,_,h3⟩⟩⟩
    ·cases h2
    ·exact ⟨i,⟨h1,.inl ⟨rfl,rfl⟩⟩,hk,h2⟩
    ·exact h3.elim
   ·rintro ⟨k,⟨h1,⟨_,rfl⟩|⟨_,_,h2⟩⟩,hk,hb⟩
    ·exact ⟨h1,.inr ⟨j,hk,hb,.inl ⟨rfl,rfl⟩⟩⟩
    ·exact h2.elim
 | c :: d :: t,i,j,b,h => by
   have ih:=fun i=>Pth.snoc (S:=S) (E:=E) (t:=d::t) (i:=i) (j:=j) (b:=b) (by simp)
   constructor
   ·rintro ⟨h1,⟨h2,_⟩|⟨k,hk,h2⟩⟩
    ·cases h2
    ·obtain ⟨x,hx,h3⟩:=(ih k).1 h2
     exact ⟨x,⟨h1,.inr ⟨k,hk,hx⟩⟩,h3⟩
   ·rintro ⟨x,⟨h1,⟨h2,_⟩|⟨k,hk,h2⟩⟩,h3⟩
    ·cases h2
    ·exact ⟨h1,.inr ⟨k,hk,(ih k).2 ⟨x,h2,h3⟩⟩⟩
def PwL (L:List Nat->Prop):Nat->List Nat->Prop
 | 0,t=>t=[]
 | k+1,t=>∃ u v,t=u++v/\L u/\PwL L k v
mutual
def RT.Mt:RT->List Nat->Prop
 | .mk k s mn mx ps _ _,t=>if k=2 then ∃ b,t=[b]/\s.has b=true else if k=3 then RT.MtS ps t else if k=4 then RT.MtA ps t else if k=5 then RT.MtR ps mn mx t else t=[]
def RT.MtS:List RT->List Nat->Prop
 | [],t=>t=[]
 | p::ps,t=>∃ u v,t=u++v/\p.Mt u/\RT.MtS ps v
def RT.MtA:List RT->List Nat->Prop
 | [],_=>False
 | p::ps,t=>p.Mt t∨RT.MtA ps t
def RT.MtR:List RT->Int->Int->List Nat->Prop
 | [],_,_,t=>t=[]
 | p::_,mn,mx,t=>∃ k,mn.toNat<=k/\(mx=-1∨k<=mx.toNat)/\PwL p.Mt k t
end
theorem PwL.mono {L L2:List Nat->Prop} (h:∀ t,L t->L2 t):∀ {k:Nat} {t:List Nat},PwL L k t->PwL L2 k t
 | 0,t,hp=>hp
 | k+1,t,⟨u,v,e,hu,hv⟩=>⟨u,v,e,h u hu,PwL.mono h hv⟩
theorem PwL.drop {L Lp:List Nat->Prop} (h:∀ t,L t->t=[]∨Lp t):∀ {k:Nat} {t:List Nat},PwL L k t->t=[]∨∃ k',1<=k'/\PwL Lp k' t
 | 0,t,hp=>.inl hp
 | k + 1,t,⟨u,v,e,hu,hv⟩ => by
   rcases h u hu with rfl|hu
   ·rw [List.nil_append] at e
    subst e
    exact PwL.drop h hv
   ·rcases PwL.drop h hv with rfl|⟨k',h1,h2⟩
    ·exact .inr ⟨1,Nat.le_refl _,u,[],e,hu,rfl⟩
    ·exact .inr ⟨k'+1,by omega,u,v,e,hu,h2⟩
theorem PwL.nil {L:List Nat->Prop}:∀ {k:Nat},1<=k->PwL L k []->L []
 | k + 1,_,⟨u,v,e,hu,_⟩ => by
   have:u=[]:=by
    cases u with
    | nil=>rfl
    | cons _ _=>cases e
   rw [this] at hu;exact hu
def SL (st:WS) (i b:Nat):Prop:=i<st.1.length/\(st.1.getD i default).has b=true
def EL (st:WS) (i k:Nat):Prop:=(st.2.getD i 0).testBit k=true
def bt (x i:Nat):Prop:=x.testBit i=true
def Lgp (st:WS) (p:Pz) (t:List Nat):Prop:=∃ i j,bt p.fs i/\bt p.lt j/\Pth (SL st) (EL st) t i j
def Lg (st:WS) (p:Pz) (t:List Nat):Prop:=(t=[]/\p.nl=true)∨Lgp st p t
structure WrOk (st st':WS) (p:Pz) (L:List Nat->Prop):Prop where
 len:st.1.length<=st'.1.length
 ss:∀ i,i<st.1.length->st'.1.getD i default=st.1.getD i default
 fol:∀ i,i<st.1.length->st'.2.getD i 0=st.2.getD i 0
 fs:∀ i,bt p.fs i->st.1.length<=i/\i<st'.1.length
 lt:∀ i,bt p.lt i->st.1.length<=i/\i<st'.1.length
 cl:∀ i k,st.1.length<=i->i<st'.1.length->EL st' i k->st.1.length<=k/\k<st'.1.length
 fl:st'.2.length=st'.1.length
 lg:∀ t,Lg st' p t↔L t
theorem bt_or {x y i:Nat}:bt (x|||y) i↔bt x i∨bt y i:=by unfold bt;rw [Nat.testBit_or,Bool.or_eq_true]
theorem zaT {i:Nat}:¬bt 0 i:=by unfold bt;simp
theorem WrOk.congr {st st':WS} {p:Pz} {L L2:List Nat->Prop} (h:WrOk st st' p L) (hL:∀ t,L t↔L2 t):WrOk st st' p L2:={ h with lg:=fun t=>(h.lg t).trans (hL t) }
theorem WrOk.eps {st:WS} (hf:st.2.length=st.1.length):WrOk st st ⟨true,0,0⟩ fun t=>t=[]:=by
 refine ⟨Nat.le_refl _,fun _ _=>rfl,fun _ _=>rfl,fun i h=>absurd h zaT,fun i h=>absurd h zaT,fun i k h1 h2 _=>by omega,hf,fun t=>?_⟩
 constructor
 ·rintro (⟨h,_⟩|⟨i,j,h,_⟩)
  ·exact h
  ·exact absurd h zaT
 ·intro h;exact .inl ⟨h,rfl⟩
theorem WrOk.none {st:WS} (hf:st.2.length=st.1.length):WrOk st st ⟨false,0,0⟩ fun _=>False:=by
 refine ⟨Nat.le_refl _,fun _ _=>rfl,fun _ _=>rfl,fun i h=>absurd h zaT,fun i h=>absurd h zaT,fun i k h1 h2 _=>by omega,hf,fun t=>?_⟩
 constructor
 ·rintro (⟨_,h⟩|⟨i,j,h,_⟩)
  ·cases h
  ·exact absurd h zaT
 ·intro h;exact h.elim
theorem WrOk.keep {st0 st st':WS} {a:Pz} {L1:List Nat->Prop} (h1:WrOk st0 st a L1) (hl:st.1.length<=st'.1.length) (hs:∀ i,i<st.1.length->st'.1.getD i default=st.1.getD i default) (hf:∀ i,i<st.1.length->st'.2.getD i 0=st.2.getD i 0) {t:List Nat} {i j:Nat} (hi:st0.1.length<=i/\i<st.1.length):Pth (SL st') (EL st') t i j↔Pth (SL st) (EL st) t i j:=by
 refine Pth.loc (R:=fun i=>st0.1.length<=i/\i<st.1.length) (fun i b hi=>?_) (fun i k hi=>?_) (fun i k hi he=>?_) hi
 ·unfold SL
  rw [hs i hi.2]
  constructor
  ·rintro ⟨_,h⟩;exact ⟨hi.2,h⟩
  ·rintro ⟨_,h⟩;exact ⟨by omega,h⟩
 ·unfold EL;rw [hf i hi.2]
 ·unfold EL at he
  rw [hf i hi.2] at he
  exact h1.cl i k hi.1 hi.2 he
theorem zqO {ss:List Ls} {fol:List Nat} {fr to i k:Nat}:EL (ss,qv fol fr to) i k↔EL (ss,fol) i k∨(i<fol.length/\bt fr i/\bt to k):=by
 unfold EL
 dsimp only
 by_cases hi:i<fol.length
 ·rw [jV _ _ _ _ hi]
  by_cases hb:fr.testBit i=true
  ·rw [if_pos hb,Nat.testBit_or,Bool.or_eq_true]
   unfold bt
   simp [hi,hb]
  ·rw [if_neg hb]
   unfold bt
   simp [hb]
 ·have e1:(qv fol fr to).getD i 0=0:=by rw [g1q,List.getElem?_eq_none (by rw [xF];omega)];rfl
  have e2:fol.getD i 0=0:=by rw [g1q,List.getElem?_eq_none (by omega)];rfl
  rw [e1,e2]
  simp [hi]
theorem WrOk.seq {st0 st st':WS} {a b:Pz} {L1 L2:List Nat->Prop} (h1:WrOk st0 st a L1) (h2:WrOk st st' b L2):WrOk st0 (st'.1,(yV st'.2 a b).1) (yV st'.2 a b).2 fun t=>∃ u v,t=u++v/\L1 u/\L2 v:=by
 have hlen:=h1.len
 have hlen2:=h2.len
 have hfl:=h2.fl
 have hl1:(qv st'.2 a.lt b.fs).length=st'.1.length:=by rw [xF,hfl]
 have hE:∀ i k,EL (st'.1,qv st'.2 a.lt b.fs) i k↔EL st' i k∨(i<st'.2.length/\bt a.lt i/\bt b.fs k):=fun i k=>zqO
 have hfs:∀ i,bt (yV st'.2 a b).2.fs i↔bt a.fs i∨(a.nl=true/\bt b.fs i):=fun i=>by
  simp only [yV]
  split
  ·rename_i h;rw [bt_or];simp [h]
  ·rename_i h;simp [h]
 have hlt:∀ i,bt (yV st'.2 a b).2.lt i↔bt b.lt i∨(b.nl=true/\bt a.lt i):=fun i=>by
  simp only [yV]
  split
  ·rename_i h;rw [bt_or];simp [h]
  ·rename_i h;simp [h]
 have hk1:=fun {t:List Nat} {i j:Nat}=>h1.keep hlen2 h2.ss h2.fol (t:=t) (i:=i) (j:=j)
 have hA:∀ {t i j},bt a.fs i->(Pth (SL st') (EL st') t i j↔Pth (SL st) (EL st) t i j):=fun {t i j} hi=>hk1 (h1.fs i hi)
 have hB:∀ {t i j},st.1.length<=i/\i<st'.1.length->(Pth (SL st') (EL (st'.1,qv st'.2 a.lt b.fs)) t i j↔Pth (SL st') (EL st') t i j):=fun {t i j} hi=>by
  refine Pth.loc (R:=fun i=>st.1.length<=i/\i<st'.1.length) (fun _ _ _=>Iff.rfl) (fun i k hi=>?_) (fun i k hi he=>?_) hi
  ·rw [hE]
   constructor
   ·rintro (h|⟨_,h,_⟩)
    ·exact h
    ·have:=(h1.lt i h).2;omega
   ·exact .inl
  ·rw [hE] at he
   rcases he with h|⟨_,h,_⟩
   ·exact h2.cl i k hi.1 hi.2 h
   ·have:=(h1.lt i h).2;omega
 have hstay:∀ {t i j},bt a.fs i->Pth (SL st') (EL st') t i j->j<st.1.length:=fun {t i j} hi hp=>by
  have hp:=(hA hi).1 hp
  exact (Pth.stay (R:=fun i=>st0.1.length<=i/\i<st.1.length) (fun i k hi he=>h1.cl i k hi.1 hi.2 he) (h1.fs i hi) hp).2
 have hstayB:∀ {t i j},bt b.fs i->Pth (SL st') (EL st') t i j->st.1.length<=j:=fun {t i j} hi hp =>
  (Pth.stay (R:=fun i=>st.1.length<=i/\i<st'.1.length) (fun i k hi he=>h2.cl i k hi.1 hi.2 he) (h2.fs i hi) hp).1
 refine ⟨by dsimp only;omega,fun i hi=>by dsimp only;rw [h2.ss i (by omega),h1.ss i hi],fun i hi=>?_,fun i hi=>?_,fun i hi=>?_,fun i k hi1 hi2 he=>?_,by simp only [yV];exact hl1,fun t=>?_⟩
 ·have e:(qv st'.2 a.lt b.fs).getD i 0=st'.2.getD i 0:=by
   rw [jV _ _ _ _ (by omega),if_neg (fun h=>by have:=(h1.lt i h).1;omega)]
  simp only [yV]
  rw [e,h2.fol i (by omega),h1.fol i hi]
 ·rcases (hfs i).1 hi with h|⟨_,h⟩
  ·have:=h1.fs i h;dsimp only;omega
  ·have:=h2.fs i h;dsimp only;omega
 ·rcases (hlt i).1 hi with h|⟨_,h⟩
  ·have:=h2.lt i h;dsimp only;omega
  ·have:=h1.lt i h;dsimp only;omega
 ·have he:EL (st'.1,qv st'.2 a.lt b.fs) i k:=he
  dsimp only at hi2 ⊢
  rcases (hE i k).1 he with h|⟨_,h,h'⟩
  ·by_cases hi3:i<st.1.length
   ·have h:EL st i k:=by unfold EL at h ⊢;rwa [h2.fol i hi3] at h
    have:=h1.cl i k hi1 hi3 h;omega
   ·have:=h2.cl i k (by omega) hi2 h;omega
  ·have:=h2.fs k h';omega
 ·have key:Lg (st'.1,(yV st'.2 a b).1) (yV st'.2 a b).2 t↔∃ u v,t=u++v/\Lg st a u/\Lg st' b v:=by
   unfold Lg Lgp
   have hSL:SL (st'.1,(yV st'.2 a b).1)=SL st':=rfl
   have hEL:EL (st'.1,(yV st'.2 a b).1)=EL (st'.1,qv st'.2 a.lt b.fs):=rfl
   have hnl:(yV st'.2 a b).2.nl=true↔a.nl=true/\b.nl=true:=by simp [yV]
   rw [hSL,hEL,hnl]
   constructor
   ·rintro (⟨rfl,ha,hb⟩|⟨i,j,hi,hj,hp⟩)
    ·exact ⟨[],[],rfl,.inl ⟨rfl,ha⟩,.inl ⟨rfl,hb⟩⟩
    ·rcases (hfs i).1 hi with hi|⟨ha,hi⟩
     ·rcases Pth.split (P:=fun i=>bt a.lt i) (Q:=fun k=>bt b.fs k) (fun i k he=>((hE i k).1 he).imp id (fun h=>⟨h.2.1,h.2.2⟩)) hp with hp|⟨u,v,x,y,rfl,hu,hx,hy,hv⟩
      ·rcases (hlt j).1 hj with hj|⟨hb,hj⟩
       ·have:=hstay hi hp
        have:=(h2.lt j hj).1
        omega
       ·exact ⟨t,[],(List.append_nil t).symm,.inr ⟨i,j,hi,hj,(hA hi).1 hp⟩,.inl ⟨rfl,hb⟩⟩
      ·have hv:=(hB (h2.fs y hy)).1 hv
       rcases (hlt j).1 hj with hj|⟨hb,hj⟩
       ·exact ⟨u,v,rfl,.inr ⟨i,x,hi,hx,(hA hi).1 hu⟩,.inr ⟨y,j,hy,hj,hv⟩⟩
       ·have:=hstayB hy hv
        have:=(h1.lt j hj).2
        omega
     ·have hp:=(hB (h2.fs i hi)).1 hp
      rcases (hlt j).1 hj with hj|⟨hb,hj⟩
      ·exact ⟨[],t,rfl,.inl ⟨rfl,ha⟩,.inr ⟨i,j,hi,hj,hp⟩⟩
      ·have:=hstayB hi hp
       have:=(h1.lt j hj).2
       omega
   ·rintro ⟨u,v,rfl,⟨rfl,ha⟩|⟨i,x,hi,hx,hu⟩,⟨rfl,hb⟩|⟨y,j,hy,hj,hv⟩⟩
    ·exact .inl ⟨rfl,ha,hb⟩
    ·exact .inr ⟨y,j,(hfs y).2 (.inr ⟨ha,hy⟩),(hlt j).2 (.inl hj),(hB (h2.fs y hy)).2 hv⟩
    ·rw [List.append_nil]
     exact .inr ⟨i,x,(hfs i).2 (.inl hi),(hlt x).2 (.inr ⟨hb,hx⟩),Pth.mono (fun i k h=>(hE i k).2 (.inl h)) ((hA hi).2 hu)⟩
    ·refine .inr ⟨i,j,(hfs i).2 (.inl hi),(hlt j).2 (.inl hj),Pth.join (fun i k h=>(hE i k).2 (.inl h)) ((hA hi).2 hu) ((hE x y).2 (.inr ⟨?_,hx,hy⟩)) ((hB (h2.fs y hy)).2 hv)⟩
     have:=(h1.lt x hx).2
     omega
  rw [key]
  constructor
  ·rintro ⟨u,v,e,hu,hv⟩;exact ⟨u,v,e,(h1.lg u).1 hu,(h2.lg v).1 hv⟩
  ·rintro ⟨u,v,e,hu,hv⟩;exact ⟨u,v,e,(h1.lg u).2 hu,(h2.lg v).2 hv⟩
theorem WrOk.alt {st0 st st':WS} {a b:Pz} {L1 L2:List Nat->Prop} (h1:WrOk st0 st a L1) (h2:WrOk st st' b L2):WrOk st0 st' (zls a b) fun t=>L1 t∨L2 t:=by
 have hlen:=h1.len
 have hlen2:=h2.len
 have hA:∀ {t i j},bt a.fs i->(Pth (SL st') (EL st') t i j↔Pth (SL st) (EL st) t i j):=fun {t i j} hi=>h1.keep hlen2 h2.ss h2.fol (h1.fs i hi)
 refine ⟨by omega,fun i hi=>by rw [h2.ss i (by omega),h1.ss i hi],fun i hi=>by rw [h2.fol i (by omega),h1.fol i hi],fun i hi=>?_,fun i hi=>?_,fun i k hi1 hi2 he=>?_,h2.fl,fun t=>?_⟩
 ·rcases bt_or.1 hi with h|h
  ·have:=h1.fs i h;omega
  ·have:=h2.fs i h;omega
 ·rcases bt_or.1 hi with h|h
  ·have:=h1.lt i h;omega
  ·have:=h2.lt i h;omega
 ·by_cases hi3:i<st.1.length
  ·have h:EL st i k:=by unfold EL at he ⊢;rwa [h2.fol i hi3] at he
   have:=h1.cl i k hi1 hi3 h;omega
  ·have:=h2.cl i k (by omega) hi2 he;omega
 ·rw [←h1.lg,←h2.lg]
  unfold Lg Lgp
  have hnl:(zls a b).nl=true↔a.nl=true∨b.nl=true:=by simp [zls]
  rw [hnl]
  constructor
  ·rintro (⟨rfl,ha|hb⟩|⟨i,j,hi,hj,hp⟩)
   ·exact .inl (.inl ⟨rfl,ha⟩)
   ·exact .inr (.inl ⟨rfl,hb⟩)
   ·rcases bt_or.1 hi with hi|hi
    ·have hp:=(hA hi).1 hp
     have hs:=(Pth.stay (R:=fun i=>st0.1.length<=i/\i<st.1.length) (fun i k hi he=>h1.cl i k hi.1 hi.2 he) (h1.fs i hi) hp).2
     rcases bt_or.1 hj with hj|hj
     ·exact .inl (.inr ⟨i,j,hi,hj,hp⟩)
     ·have:=(h2.lt j hj).1;omega
    ·have hs:=(Pth.stay (R:=fun i=>st.1.length<=i/\i<st'.1.length) (fun i k hi he=>h2.cl i k hi.1 hi.2 he) (h2.fs i hi) hp).1
     rcases bt_or.1 hj with hj|hj
     ·have:=(h1.lt j hj).2;omega
     ·exact .inr (.inr ⟨i,j,hi,hj,hp⟩)
  ·rintro ((⟨rfl,ha⟩|⟨i,j,hi,hj,hp⟩)|(⟨rfl,hb⟩|⟨i,j,hi,hj,hp⟩))
   ·exact .inl ⟨rfl,.inl ha⟩
   ·exact .inr ⟨i,j,bt_or.2 (.inl hi),bt_or.2 (.inl hj),(hA hi).2 hp⟩
   ·exact .inl ⟨rfl,.inr hb⟩
   ·exact .inr ⟨i,j,bt_or.2 (.inr hi),bt_or.2 (.inr hj),hp⟩
end
end Go.Proofs.YtjmlialibdobpaaGreatDoor
