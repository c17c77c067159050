/- A range over a function, in terms of what is known of the heap; functions that end with marks. Generic over the program: no condition. -/
import Derived.Test.YtjmlialibdobpaaGreatDoorK2
import Derived.RangeFuncRecord
import Derived.RangeFuncLeaves
import Derived.TacticsIn
import Derived.Test.YtjmlialibdobpaaGreatDoorK11
import Derived.Test.YtjmlialibdobpaaGreatDoorK12
import Derived.Test.YtjmlialibdobpaaGreatDoorK13
import Derived.Test.YtjmlialibdobpaaGreatDoorK14
import Derived.Test.YtjmlialibdobpaaGreatDoorK15
import Derived.Test.YtjmlialibdobpaaGreatDoorK8
import Derived.Test.YtjmlialibdobpaaGreatDoorRows
import Derived.ChangeSame
import Derived.ChangeVars
import Derived.JoinedOf
import Derived.RowKit
import Derived.LaidLaws
import Derived.LaidHandle
namespace Go.EG
open Go.RowKit
set_option linter.unusedVariables false
section
variable {P:Program} {w0:World} {fp0:List Nat} {n m:Nat} {ds:List Deferred} {e:Env} {a:Act} {L:List Ent} {w:World} {o:Oper} {i:I} {fl:List Nat} {ts:List (Nat × Tr)}
abbrev FW (ro:Option Nat):Fence:={ Fence.wide with round:=ro }
theorem zp8 {ro:Option Nat} {f:FuncId} {args:Array Value} {R':Ending→World→Prop} (h:Calls P f args w R'):CallsIn (FW ro) m P f args w R' :=
 ⟨trivial,fun cs _=>((callsIn_wide (n:=m)).2 h).2 cs (room_wide _)⟩
theorem zli {ro:Option Nat} {k:SV→List Ent→Prop} {K:Act→World→Prop} {Q:Exit→Act→World→Prop} (hdf:∀ c,o.op≠.defer c) (h:zjN P w0 fp0 o a w i k) (hK:∀ s L' w',R w0 fp0 L' w'→k s L'→K (a.put o.dst s.val) w'):o.wpIn (FW ro) m P a w K Q:=by
 refine ⟨fun _ _=>trivial,?_⟩
 rw [Oper.semAt_eq _ _ _ hdf]
 rcases h with ⟨v,h1,s,L',rfl,hR,hk⟩|⟨_,v,w',h1,s,L',rfl,hR,hk⟩|⟨_,w',h1,s,L',hs,hR,hk⟩|⟨_,f,args,h1,h2⟩
 ·rw [h1];exact hK s L' _ hR hk
 ·rw [h1];exact hK s L' _ hR hk
 ·rw [h1];show K (a.put o.dst undef) w';rw [←hs];exact hK s L' _ hR hk
 ·rw [h1]
  refine ⟨(fun h=>by cases h),zp8 (h2.mono fun e w' ⟨v,he,s,L',hs,hR,hk⟩=>?_)⟩
  subst he
  show K (a.put o.dst v) w'
  rw [←hs]
  exact hK s L' _ hR hk
theorem zp9 {P:Program} {f:Bool} {d:Option Nat} {op:Op} {i:I} (h:cI P f d op=some i):∀ c,op≠.defer c:=by
 rintro c rfl
 simp [cI] at h
theorem zrR {ro:Option Nat} {ops:Array Oper} {io:Gop} {K:Env→List Ent→Prop} {K':Act→World→Prop} {Q:Exit→Act→World→Prop} (hc:zcO P n ops fl o io) (hA:Agree n ds e a) (hR:R w0 fp0 L w) (h:VO P w0 fp0 io e L K)
 (hK:∀ e' a' L' w',Agree n ds e' a'→R w0 fp0 L' w'→K e' L'→K' a' w'):if Region.wanted o (yielded ops a.tmps) then o.wpIn (FW ro) m P a w K' Q else (∀ f,o.about P w a.eval=some f→(FW ro).fn f)∧K' (a.put o.dst undef) w:=by
 obtain ⟨⟨f,hci⟩,hd,hok,hg⟩:=hc
 have hdf:=zp9 hci
 cases hgo:o.guard with
 | none =>
   rw [hgo] at hg
   simp only at hg
   have hw:Region.wanted o (yielded ops a.tmps)=true:=by simp [Region.wanted,hgo]
   rw [if_pos hw]
   rcases zl0 h with ⟨_,h⟩|⟨g,want,hg',_⟩
   ·exact zli hdf (zdG hci hA hR (ziC h)) fun s L' w' hR' hk=>by
     obtain ⟨s',hs',hk⟩:=v8 hk
     exact hK _ _ _ _ (yU hA hok hs') hR' (by rw [←hd];exact hk)
   ·rw [hg] at hg';cases hg'
 | some p =>
   obtain ⟨j,want⟩:=p
   rw [hgo] at hg
   obtain ⟨g,hj,hg⟩:=hg
   rcases zl0 h with ⟨hg',_⟩|⟨g',want',hg',h⟩
   ·rw [hg] at hg';cases hg'
   rw [hg] at hg'
   simp only [Option.some.injEq,Prod.mk.injEq] at hg'
   obtain ⟨rfl,rfl⟩:=hg'
   rcases zda h with ⟨b,hb,h1,h2⟩|⟨vs,hb,h⟩
   ·rw [uw hA hgo hj hb]
    by_cases hbw:b=want
    ·rw [if_pos (by simp [hbw])]
     have hA':=ua hA (by rw [hbw] at hb;exact hb)
     exact zli hdf (zdG hci hA' hR (ziC (h1 hbw))) fun s L' w' hR' hk=>by
      obtain ⟨s',hs',hk⟩:=v8 hk
      exact hK _ _ _ _ (yU hA' hok hs') hR' (by rw [←hd];exact hk)
    ·have hbn:b=!want:=by cases b<;>cases want<;>simp_all
     rw [if_neg (by simp [hbw])]
     have hA':=ua hA (by rw [hbn] at hb;exact hb)
     exact ⟨fun _ _=>trivial,hK _ _ _ _ (yU hA' hok rfl) hR (by rw [←hd];exact h2 hbn)⟩
   ·rw [zbX hA hgo hj hb,if_neg (by simp)]
    exact ⟨fun _ _=>trivial,hK _ _ _ _ (yU hA hok rfl) hR (by rw [←hd];exact h)⟩
theorem zap {ro:Option Nat} {ops:Array Oper} {Q:Exit→Act→World→Prop} {K:Env→List Ent→Prop} {rest:List Oper} (hrest:∀ e a L w,Agree n ds e a→R w0 fp0 L w→K e L→wpListIn (FW ro) m P ops Q rest a w) :
 ∀ {l:List Oper} {l':List Gop} {e:Env} {a:Act} {L:List Ent} {w:World},CompL P n ops fl l l'→Agree n ds e a→R w0 fp0 L w→VL P w0 fp0 l' e L K→wpListIn (FW ro) m P ops Q (l++rest) a w
 | [], _, e, a, L, w, hc, hA, hR, h => by
   cases hc
   exact hrest e a L w hA hR h
 | o :: l, _, e, a, L, w, hc, hA, hR, h => by
   cases hc with
   | cons h1 h2 =>
     refine wpListIn_step fun K' hK'=>?_
     exact zrR h1 hA hR h fun e' a' L' w' hA' hR' hk=>hK' _ _ (zap hrest h2 hA' hR' hk)
def kN (G:Env→List Ent→Prop):Exit→Env→List Ent→Prop
 | .normal,e,L=>G e L
 | _,_,_=>False
def kE (id:Nat) (G G1:Env→List Ent→Prop):Exit→Env→List Ent→Prop
 | .normal,e,L=>G e L
 | .exit i,e,L=>i=id∧G1 e L
 | _,_,_=>False
theorem wpK {c:Code} {c':C} {K:Exit→Env→List Ent→Prop} {Q:Exit→Act→World→Prop} (hc:cC P n fl ts c=some c') (hA:Agree n ds e a) (hR:R w0 fp0 L w) (h:VC P w0 fp0 c' K e L)
 (hq:∀ x a w e L,Agree n ds e a→R w0 fp0 L w→K x e L→Q x a w):c.wp P Q a w:=by
 refine Code.wp_mono (fun x a w hq'=>?_) (zay hc hA hR h)
 cases x with
 | normal=>obtain ⟨e,L,hA,hR,hk⟩:=hq';exact hq _ _ _ _ _ hA hR hk
 | exit id=>obtain ⟨e,L,hA,hR,hk⟩:=hq';exact hq _ _ _ _ _ hA hR hk
 | ret=>obtain ⟨e,L,hA,hR,hk⟩:=hq';exact hq _ _ _ _ _ hA hR hk
 | goto l=>exact hq'.elim
 | panic ch=>exact hq'.elim
 | outgrown=>exact hq'.elim
theorem um {c rest:Code} {c':C} {G:Env→List Ent→Prop} {Q:Exit→Act→World→Prop} (hc:cC P n fl ts c=some c') (hA:Agree n ds e a) (hR:R w0 fp0 L w) (h:VC P w0 fp0 c' (kN G) e L)
 (hq:∀ e a L w,Agree n ds e a→R w0 fp0 L w→G e L→rest.wp P Q a w):(c.seq rest).wp P Q a w:=by
 refine wp_seq (wpK hc hA hR h fun x a w e L hA hR hk=>?_)
 cases x with
 | normal=>exact hq _ _ _ _ hA hR hk
 | _=>exact hk.elim
theorem znL {id:Nat} {c rest:Code} {c':C} {G G1:Env→List Ent→Prop} {Q:Exit→Act→World→Prop} (hc:cC P n fl ts c=some c') (hA:Agree n ds e a) (hR:R w0 fp0 L w) (h:VC P w0 fp0 c' (kE id G G1) e L)
 (hq:∀ e a L w,Agree n ds e a→R w0 fp0 L w→G e L→rest.wp P Q a w) (hx:∀ e a L w,Agree n ds e a→R w0 fp0 L w→G1 e L→Q (.exit id) a w):(c.seq rest).wp P Q a w:=by
 refine wp_seq (wpK hc hA hR h fun x a w e L hA hR hk=>?_)
 cases x with
 | normal=>exact hq _ _ _ _ hA hR hk
 | exit i=>obtain ⟨rfl,hk⟩:=hk;exact hx _ _ _ _ hA hR hk
 | _=>exact hk.elim
def lpE (l D:Nat) (fn:FuncId) (a:Act) (ps:Array Tmp) (assign body:Code) (st:LoopState):Ent:=.abs 9001 [l] fun w=>w.heap[l]?=some (.loop { state:=st,pending:=none,fn,tmps:=a.tmps,params:=ps,assign,body,defers:=D })
def dfE (D:Nat):Ent:=.abs 9002 [D] fun w=>w.heap[D]?=some (.deferred (some []))
def dfD (D:Nat):Deferred:={ target:=.collected D,args:=#[] }
theorem zd6 {k b:Nat} {p:Option Obj→Prop} (h:p w.heap[b]?):(Ent.abs k [b] fun w=>p w.heap[b]?).ok w:=fun w' hs=>by
 show p w'.heap[b]?
 rw [hs b (by simp)];exact h
theorem ztx {g:Operand} {ps:Array Tmp} {assign body:Code} {Q:Exit→Act→World→Prop} {gf:Nat} {lb:Array Value} {L':List Ent} (hg:a.eval g=.func (.func gf) #[] lb) (hf:zhh P gf=true) (hR:R w0 fp0 L w)
 (hcall:∀ l D fn W1,R w0 fp0 (lpE l D fn a ps assign body .ready::dfE D::L) W1→CallsIn (FW none) 0 P gf (#[.func (.yield l) #[] #[]]++lb) W1 fun e W2=>(∃ v,e=.returned v)∧R w0 fp0 (lpE l D fn a ps assign body .ready::dfE D::L') W2)
 (hdone:∀ D W,R w0 fp0 (dfE D::L') W→Q .normal { a with defers:=dfD D::a.defers } W) :
 (Code.rangeFunc g ps assign body).wp P Q a w:=by
 refine (wpIn_wide (n:=1)).1 (wpIn_rangeFunc ?_)
 intro fn hfn
 obtain ⟨W1,hW1⟩:∃ W1,(w.alloc (.deferred (some []))).alloc (.loop { state:=.ready,pending:=none,fn,tmps:=a.tmps,params:=ps,assign,body,defers:=w.heap.size })=W1:=⟨_,rfl⟩
 have hR0:R w0 fp0 (dfE w.heap.size::L) (w.alloc (.deferred (some []))):=hR.alloc _ _ rfl (zd6 (p:=fun o=>o=some (.deferred (some []))) (heap_alloc_new w _))
 have hR1:R w0 fp0 (lpE (w.heap.size+1) w.heap.size fn a ps assign body .ready::dfE w.heap.size::L) W1:=by
  rw [←hW1]
  refine hR0.alloc _ _ (by rw [World.size_alloc];rfl) ?_
  refine zd6 (p:=fun o=>o=some (.loop { state:=.ready,pending:=none,fn,tmps:=a.tmps,params:=ps,assign,body,defers:=w.heap.size })) ?_
  have:=heap_alloc_new (w.alloc (.deferred (some []))) (.loop { state:=.ready,pending:=none,fn,tmps:=a.tmps,params:=ps,assign,body,defers:=w.heap.size })
  rwa [World.size_alloc] at this
 refine ⟨w.heap.size+1,[dfD w.heap.size],W1,{ target:=.fn (.func gf) lb,args:=#[.func (.yield (w.heap.size+1)) #[] #[]] },W1,gf,
  #[.func (.yield (w.heap.size+1)) #[] #[]]++lb,W1,?_,?_,fun _ _=>trivial,?_,fun _=>Nat.le_refl _,?_⟩
 ·rw [←hW1];exact run_enterLoop_outer _ _ _ _ _
 ·simp only [resolve,hg]
  simp [go_sem]
 ·simp [invoke,zcJ hf]
 ·refine (hcall _ _ fn W1 hR1).mono ?_
  rintro e W2 ⟨⟨v,rfl⟩,hR2⟩
  have hl:W2.heap[w.heap.size+1]?=some (.loop { state:=.ready,pending:=none,fn,tmps:=a.tmps,params:=ps,assign,body,defers:=w.heap.size }):=Ent.abs_ok (hR2.ok _ List.mem_cons_self)
  refine ⟨none,_,run_endLoop hl (by simp),?_⟩
  refine hdone _ _ ?_
  have hlt:w.heap.size+1<W2.heap.size:=(Array.getElem?_eq_some_iff.1 hl).1
  refine R.tail (e:=.abs 9001 [w.heap.size+1] fun w=>True) ?_
  exact R.write hR2 (fun x hx=>hx) (by simp [Ent.fp]) (fun _ _=>trivial) (by simp) rfl rfl rfl (Nat.le_refl _) (fun b hb=>World.putObj_heap_other (by simpa [lpE,Ent.fp] using hb))
theorem zoD {l D:Nat} {fn:FuncId} {p i1 i2 i3:Nat} {opsA opsB:Array Oper} {la lb:List Gop} {H:List Ent} {v:Value} {G:List Ent→Prop} (hR:R w0 fp0 (lpE l D fn a #[p] (.region i1 opsA false) (.block i2 (.region i3 opsB false)) .ready::dfE D::H) w) (hA:Agree n ds e a) (hp:p<n)
 (ha:uA P n opsA fl opsA.toList=some la) (hb:uA P n opsB fl opsB.toList=some lb)
 (h:VL P w0 fp0 la ((p,.v v)::e) (lpE l D fn a #[p] (.region i1 opsA false) (.block i2 (.region i3 opsB false)) .ready::dfE D::H) fun e' L'=>∃ H',L'=lpE l D fn a #[p] (.region i1 opsA false) (.block i2 (.region i3 opsB false)) .ready::dfE D::H' ∧
  VL P w0 fp0 lb e' (lpE l D fn a #[p] (.region i1 opsA false) (.block i2 (.region i3 opsB false)) .busy::dfE D::H') fun _ L''=>∃ H'',L''=lpE l D fn a #[p] (.region i1 opsA false) (.block i2 (.region i3 opsB false)) .busy::dfE D::H''∧G H'') :
 ∃ f' tmps assign body,(Instr.yield l #[v]).run P w=.ok (.round l f' tmps assign body) w∧RoundIn (FW none) m P l f' tmps assign body w fun e' w'=>e'=.returned (.bool true)∧∃ H'',G H''∧R w0 fp0 (lpE l D fn a #[p] (.region i1 opsA false) (.block i2 (.region i3 opsB false)) .ready::dfE D::H'') w':=by
 have hl:w.heap[l]?=some (.loop { state:=.ready,pending:=none,fn,tmps:=a.tmps,params:=#[p],assign:=.region i1 opsA false,body:=.block i2 (.region i3 opsB false),defers:=D }):=Ent.abs_ok (hR.ok _ List.mem_cons_self)
 refine ⟨_,_,_,_,run_yield hl rfl,roundIn_of_wpIn trivial ?_⟩
 have hA0:Agree n [] ((p,.v v)::e) { tmps:=(#[p].zip #[v]).foldl (fun t (q:Nat × Value)=>t.setIfInBounds q.1 q.2) a.tmps,defers:=[] }:=by
  have h1:Agree n [] e { tmps:=a.tmps,defers:=[] }:=⟨hA.size,rfl,hA.at_⟩
  have h2:=h1.put (s:=.v v) hp rfl
  simpa [Act.put,SV.val] using h2
 refine wpIn_region_list (F:=FW (some l)) ?_
 rw [←List.append_nil opsA.toList]
 refine zap (fun e1 a1 L1 w1 hA1 hR1 hk=>?_) (xA ha) hA0 hR h
 obtain ⟨H',rfl,hk⟩:=hk
 have hl1:w1.heap[l]?=some (.loop { state:=.ready,pending:=none,fn,tmps:=a.tmps,params:=#[p],assign:=.region i1 opsA false,body:=.block i2 (.region i3 opsB false),defers:=D }):=Ent.abs_ok (hR1.ok _ List.mem_cons_self)
 have hlt1:l<w1.heap.size:=(Array.getElem?_eq_some_iff.1 hl1).1
 refine ⟨_,run_beginRound hl1 rfl,?_⟩
 have hR2:R w0 fp0 (lpE l D fn a #[p] (.region i1 opsA false) (.block i2 (.region i3 opsB false)) .busy::dfE D::H') (w1.putObj l (.loop { state:=.busy,pending:=none,fn,tmps:=a.tmps,params:=#[p],assign:=.region i1 opsA false,body:=.block i2 (.region i3 opsB false),defers:=D })) :=
  R.write hR1 (fun x hx=>hx) (by simp [lpE,Ent.fp]) (zd6 (p:=fun o=>o=some (.loop { state:=.busy,pending:=none,fn,tmps:=a.tmps,params:=#[p],assign:=.region i1 opsA false,body:=.block i2 (.region i3 opsB false),defers:=D })) (World.putObj_heap_same hlt1)) (by simp) rfl rfl rfl (Nat.le_refl _) (fun b hb=>World.putObj_heap_other (by simpa [lpE,Ent.fp] using hb))
 refine wpIn_block (F:=FW (some l)) (wpIn_region_list ?_)
 rw [←List.append_nil opsB.toList]
 refine zap (fun e2 a2 L2 w2 hA2 hR3 hk2=>?_) (xA hb) hA1 hR2 hk
 obtain ⟨H'',rfl,hk2⟩:=hk2
 have hl2:w2.heap[l]?=some (.loop { state:=.busy,pending:=none,fn,tmps:=a.tmps,params:=#[p],assign:=.region i1 opsA false,body:=.block i2 (.region i3 opsB false),defers:=D }):=Ent.abs_ok (hR3.ok _ List.mem_cons_self)
 have hlt2:l<w2.heap.size:=(Array.getElem?_eq_some_iff.1 hl2).1
 refine ⟨_,_,run_endRound none hl2,rfl,H'',hk2,?_⟩
 exact R.write hR3 (fun x hx=>hx) (by simp [lpE,Ent.fp]) (zd6 (p:=fun o=>o=some (.loop { state:=.ready,pending:=none,fn,tmps:=a.tmps,params:=#[p],assign:=.region i1 opsA false,body:=.block i2 (.region i3 opsB false),defers:=D })) (World.putObj_heap_same hlt2)) (by simp) rfl rfl rfl (Nat.le_refl _) (fun b hb=>World.putObj_heap_other (by simpa [lpE,Ent.fp] using hb))
theorem zf8 {fn:Func} {R':Ending→World→Prop} {tmps:Array Value}:∀ {Ds:List Nat} {w:World} {L:List Ent},R w0 fp0 (Ds.map dfE++L) w→(∀ w',R w0 fp0 L w'→LeavesInM Fence.wide m P fn tmps R' [] .returning w')→LeavesInM Fence.wide m P fn tmps R' (Ds.map dfD) .returning w
 | [],w,L,hR,h=>h w hR
 | D :: Ds, w, L, hR, h => by
   have hl:w.heap[D]?=some (.deferred (some [])):=Ent.abs_ok (hR.ok _ List.mem_cons_self)
   refine ⟨by simp,.inl ⟨D,_,rfl,run_takeDeferred hl,zf8 (L:=L) ?_ h⟩⟩
   refine R.tail (e:=.abs 9002 [D] fun w=>True) ?_
   exact R.write (L:=Ds.map dfE++L) hR (fun x hx=>hx) (by simp [Ent.fp]) (fun _ _=>trivial) (by simp) rfl rfl rfl (Nat.le_refl _) (fun b hb=>World.putObj_heap_other (by simpa [dfE,Ent.fp] using hb))
theorem zoE {f:FuncId} {fn:Func} {c:Code} {l:List SV} {R':Ending→World→Prop} (hf:P.funcs[f]?=some fn) (hb:fn.body=some c) (hn:fn.ntmps=n) (hl:l.length≤n)
 (h:∀ a,Agree n [] (vv 0 l) a→c.wp P (bodyPostM Fence.wide 0 P fn R') a w):Calls P f (l.map SV.val).toArray w R':=by
 subst hn
 exact callsIn_wide.1 (callsIn_of_wp_marks (n:=0) hf hb trivial (wpIn_wide.2 (h _ (zdc hl))))
theorem zrS {fn:Func} {rs:List RV} {Ds:List Nat} {K:Value→List Ent→Prop} (hrs:zdb P fn.results.toList=some rs) (hA:Agree n (Ds.map dfD) e a) (hR:R w0 fp0 (Ds.map dfE++L) w) (hk:zhq rs e L (fun l=>zmC l fun v=>Stop (K v L))) :
 LeavesInM Fence.wide m P fn a.tmps (fun x w'=>∃ v L',x=.returned v∧R w0 fp0 L' w'∧K v L') a.defers .returning w:=by
 rw [hA.defers]
 refine zf8 hR fun w' hR'=>?_
 obtain ⟨l,hkl,hrun⟩:=zbZ (P:=P) (w:=w') hA hR' hrs hk
 refine ⟨zfv l,?_,_,L,rfl,hR',(zk0 hkl).h⟩
 have e1:results fn a.tmps=(do let vs ←fn.results.mapM (zjT a);pure (if h:vs.size=1 then vs[0] else .tuple vs)):=rfl
 rw [e1,Array.mapM_eq_mapM_toList]
 simp only [map_eq_pure_bind,bind_assoc,pure_bind,Sem.run_bind]
 rw [hrun]
 simp only [Result.andThen_ok,Sem.run_pure]
 match l with
 | []=>rfl
 | [v]=>rfl
 | v::v'::l=>simp [zfv]
end
end Go.EG
namespace Go.Proofs.YtjmlialibdobpaaGreatDoor
open Go.EG
attribute [local irreducible] zP yj Go.Calls
set_option linter.unusedSimpArgs false
set_option linter.unusedVariables false
set_option maxRecDepth 20000
set_option maxHeartbeats 4000000
theorem ze4 {x r:Nat} (hx:x<18446744073709551616):((x:Int)/((2 ^ r:Nat):Int)=((x/2 ^ r:Nat):Int))∧(0≤((x/2 ^ r:Nat):Int)∧((x/2 ^ r:Nat):Int)≤18446744073709551615∧(0:Int)≤1∧(1:Int)≤18446744073709551615):=by
 have:=Nat.lt_of_le_of_lt (Nat.div_le_self x (2 ^ r)) hx
 refine ⟨by rw [Int.natCast_ediv],?_⟩
 generalize x/2 ^ r=y at *
 exact ⟨by omega,by omega,by omega,by omega⟩
theorem zgu {x r:Nat}:decide (((((x/2 ^ r:Nat):Int).toNat&&&(1:Int).toNat:Nat):Int)=1)=x.testBit r:=by
 rw [Nat.testBit_eq_decide_div_mod_eq,decide_eq_decide,Int.toNat_natCast,show (1:Int).toNat=1 from rfl,Nat.and_one_is_mod]
 omega
theorem zrT (s:Ls) (b:Nat) (hb:b<256) (w:World):Calls Tryz.prog uR #[s.v,.int .u8 b] w fun e w'=>e=.returned (.bool (s.has b))∧Ext w w':=by
 refine zx [.v s.v,.v (.int .u8 b)] w zh8 (by simp) ?_
 have h4:b/64=0∨b/64=1∨b/64=2∨b/64=3:=by omega
 have hm:((b:Int)%64).toNat=b%64:=by omega
 have hm0:(b:Int).tmod 64=(b:Int)%64:=Int.tmod_eq_emod_of_nonneg (by omega)
 have hbk:0≤(b:Int)%64∧(b:Int)%64≤biK .u64:=⟨by omega,show (b:Int)%64≤64 by omega⟩
 have hh:∀ {i x:Nat},b/64=i→s.w i=x→s.has b=x.testBit (b%64):=fun h1 h2=>by unfold Ls.has;rw [h1,h2]
 have s1:=s.ha;have s2:=s.hb;have s3:=s.hc;have s4:=s.hd
 rcases h4 with h4|h4|h4|h4
 ·have e:((b:Int)/64).toNat=0:=by omega
  obtain ⟨q1,q2⟩:=ze4 (r:=b%64) s1
  rw [hh h4 rfl,←zgu]
  (repeat' ((conv=>whnf);first|rw [e]|rw [hm]|rw [q1]|(refine zd (fun h=>?_) (fun h=>?_)<;>try (exfalso;omega))|(refine zc (fun h=>?_) (fun h=>?_)<;>try (exfalso;omega))|(refine za (fun h=>?_) (fun h=>?_)<;>(try simp only [zqa,zqb,zqc,zqd,zqe,zqf,zqg] at h))|refine pay ?_|refine And.intro (by first|exact hbk|exact q2) ?_|intro _));(all_goals (conv=>whnf))
  exact ⟨rfl⟩
 ·have e:((b:Int)/64).toNat=1:=by omega
  obtain ⟨q1,q2⟩:=ze4 (r:=b%64) s2
  rw [hh h4 rfl,←zgu]
  (repeat' ((conv=>whnf);first|rw [e]|rw [hm]|rw [q1]|(refine zd (fun h=>?_) (fun h=>?_)<;>try (exfalso;omega))|(refine zc (fun h=>?_) (fun h=>?_)<;>try (exfalso;omega))|(refine za (fun h=>?_) (fun h=>?_)<;>(try simp only [zqa,zqb,zqc,zqd,zqe,zqf,zqg] at h))|refine pay ?_|refine And.intro (by first|exact hbk|exact q2) ?_|intro _));(all_goals (conv=>whnf))
  exact ⟨rfl⟩
 ·have e:((b:Int)/64).toNat=2:=by omega
  obtain ⟨q1,q2⟩:=ze4 (r:=b%64) s3
  rw [hh h4 rfl,←zgu]
  (repeat' ((conv=>whnf);first|rw [e]|rw [hm]|rw [q1]|(refine zd (fun h=>?_) (fun h=>?_)<;>try (exfalso;omega))|(refine zc (fun h=>?_) (fun h=>?_)<;>try (exfalso;omega))|(refine za (fun h=>?_) (fun h=>?_)<;>(try simp only [zqa,zqb,zqc,zqd,zqe,zqf,zqg] at h))|refine pay ?_|refine And.intro (by first|exact hbk|exact q2) ?_|intro _));(all_goals (conv=>whnf))
  exact ⟨rfl⟩
 ·have e:((b:Int)/64).toNat=3:=by omega
  obtain ⟨q1,q2⟩:=ze4 (r:=b%64) s4
  rw [hh h4 rfl,←zgu]
  (repeat' ((conv=>whnf);first|rw [e]|rw [hm]|rw [q1]|(refine zd (fun h=>?_) (fun h=>?_)<;>try (exfalso;omega))|(refine zc (fun h=>?_) (fun h=>?_)<;>try (exfalso;omega))|(refine za (fun h=>?_) (fun h=>?_)<;>(try simp only [zqa,zqb,zqc,zqd,zqe,zqf,zqg] at h))|refine pay ?_|refine And.intro (by first|exact hbk|exact q2) ?_|intro _));(all_goals (conv=>whnf))
  exact ⟨rfl⟩
def zxd (s:Ls) (v:Value) (L1:List Ent):Prop:=∃ b,v=.func (.func xj) #[] #[.pointer (some ⟨b,0,none⟩)]∧L1=[.box 1 b s.cells zh]
theorem zrU (s:Ls) (w:World):Calls Tryz.prog uP #[s.v] w fun e w'=>∃ v L1,e=.returned v∧R w [] L1 w'∧zxd s v L1:=by
 refine zV [.v s.v] zh2 (by simp) ?_
 (repeat' ((conv=>whnf);first|(refine zd (fun h=>?_) (fun h=>?_)<;>try (exfalso;omega))|(refine zc (fun h=>?_) (fun h=>?_)<;>try (exfalso;omega))|(refine za (fun h=>?_) (fun h=>?_)<;>(try simp only [zqa,zqb,zqc,zqd,zqe,zqf,zqg] at h))|refine pay ?_|intro _));(all_goals (conv=>whnf))
 exact ⟨⟨_,Ref.takes [1] rfl (Thin.refl _),_,rfl,rfl⟩⟩
def zty:Code→Array Oper
 | .region _ ops _=>ops
 | _=>#[]
noncomputable def zqh:Code:=Tryz.f119.body.getD .skip
noncomputable def zrV:Code:=sq1 zqh
noncomputable def zf9:Code:=blc (sq2 zqh)
noncomputable def zrW:Code:=sq1 zf9
noncomputable def k119_m:Code:=blc (sq1 (sq2 zf9))
noncomputable def zrX:Code:=sq2 (sq2 zf9)
noncomputable def k119_c:Code:=sq2 k119_m
noncomputable def ops119:Array Oper:=zty (sq1 k119_m)
noncomputable def o119 : Oper := ops119.toList.getD 8 { dst := none, op := .move (.tmp 0), type := 0, pos := "", after := #[], guard := none }
set_option maxRecDepth 100000 in
theorem zxe:zqh=.seq zrV (.block 0 (.loop zf9)):=by kernel_rfl
set_option maxRecDepth 100000 in
theorem zwa:zf9=.seq zrW (.seq (.block 1 k119_m) zrX):=by kernel_rfl
set_option maxRecDepth 100000 in
theorem zwb:k119_m=.seq (.region 3 ops119 false) k119_c:=by kernel_rfl
set_option maxRecDepth 100000 in
theorem zwc:ops119.toList=ops119.toList.take 8++(o119::(ops119.toList.drop 9++[])):=by kernel_rfl
def zwd:C:=.reg [⟨some 3,none,.mv (.c (.int .i64 0))⟩]
def zwe:C:=.seq (.reg [⟨some 4,none,.mv (.t 3)⟩,⟨some 5,none,.cmp .lss .i64 (.t 4) (.c (.int .i64 256))⟩]) (.cond (.t 5) .skip (.exit 0))
def zwO:List Gop:=[⟨(some 8),none,(.lda 4 [(.int .u64),(.int .u64),(.int .u64),(.int .u64)] (.t 1))⟩,⟨(some 9),none,(.mv (.t 3))⟩,⟨(some 10),none,(.cv .u8 (.t 9))⟩,⟨(some 11),none,(.call uR [(.t 8),(.t 10)])⟩,⟨(some 12),none,(.mv (.t 11))⟩,⟨(some 13),(some (12,true)),(.mv (.t 0))⟩,⟨(some 14),(some (12,true)),(.mv (.t 3))⟩,⟨(some 15),(some (12,true)),(.cv .u8 (.t 14))⟩]
def zwP:List Gop:=[⟨(some 17),(some (12,true)),(.not (.t 16))⟩,⟨(some 18),none,(.pick (.t 12) (.t 17) (.c (.bool false)))⟩]
def zwf:C:=.cond (.t 18) .ret .skip
def zwg:C:=.reg [⟨some 6,none,.mv (.t 3)⟩,⟨some 7,none,.ar .add .i64 (.t 6) (.c (.int .i64 1))⟩,⟨some 3,none,.mv (.t 7)⟩]
set_option maxRecDepth 100000 in
theorem zwh:cC Tryz.prog 19 [] [] zrV=some zwd:=by kernel_rfl
set_option maxRecDepth 100000 in
theorem zwi:cC Tryz.prog 19 [] [] zrW=some zwe:=by kernel_rfl
set_option maxRecDepth 100000 in
theorem zrY:uA Tryz.prog 19 ops119 [] (ops119.toList.take 8)=some zwO:=by kernel_rfl
set_option maxRecDepth 100000 in
theorem zrZ:uA Tryz.prog 19 ops119 [] (ops119.toList.drop 9)=some zwP:=by kernel_rfl
set_option maxRecDepth 100000 in
theorem zwj:cC Tryz.prog 19 [] [] k119_c=some zwf:=by kernel_rfl
set_option maxRecDepth 100000 in
theorem zwk:cC Tryz.prog 19 [] [] zrX=some zwg:=by kernel_rfl
set_option maxRecDepth 100000 in
theorem zxf:o119.guard=some (4,true)∧o119.dst=some 16∧o119.op=.call { callee:=.value (.tmp 13),args:=#[.tmp 15],argTypes:=#[5] }∧(ops119[4]?).bind (·.dst)=some 12:=⟨by kernel_rfl,by kernel_rfl,by kernel_rfl,by kernel_rfl⟩
abbrev zdB (l:Nat):Value:=.func (.yield l) #[] #[]
abbrev zga (l bx b:Nat):Env:=[(0,.v (zdB l)),(1,.ptr 1 bx 0),(3,.v (.int .i64 (b:Int)))]
theorem zqi (s:Ls) (bx l b:Nat) {w0 w:World} {fp0:List Nat} {a:Act} {Q:Exit→Act→World→Prop} (Gb Gc:List Ent) (hb:b<256)
 (hy:s.has b=true→∀ W,R w0 fp0 (.box 1 bx s.cells zh::Gb) W→∃ f' tmps asg bd,(Instr.yield l #[.int .u8 (b:Int)]).run Tryz.prog W=.ok (.round l f' tmps asg bd) W ∧
  RoundIn (FW none) 0 Tryz.prog l f' tmps asg bd W fun e W'=>e=.returned (.bool true)∧R w0 fp0 (.box 1 bx s.cells zh::Gc) W')
 (hn:s.has b=false→Gc=Gb) (hA:Agree 19 [] (zga l bx b) a) (hR:R w0 fp0 (.box 1 bx s.cells zh::Gb) w)
 (hq:∀ a w,Agree 19 [] (zga l bx b) a→R w0 fp0 (.box 1 bx s.cells zh::Gc) w→Q .normal a w):k119_m.wp Tryz.prog Q a w:=by
 obtain ⟨g1,g2,g3,g4⟩:=zxf
 rw [zwb]
 refine wp_seq ((wpIn_wide (n:=0)).1 (wpIn_region_list ?_))
 have fin:∀ e a L w,Agree 19 [] e a→R w0 fp0 L w→Stop (yV ((18,.v (.bool false))::zga l bx b) e∧Ref w0 fp0 L (.box 1 bx s.cells zh::Gc)) →
  wpListIn (FW none) 0 Tryz.prog ops119 (Exit.then (k119_c.wp Tryz.prog Q) Q) [] a w:=by
  rintro e a L w hA hR ⟨hs,hr⟩
  refine wpListIn_nil ?_
  refine wpK (K:=kN fun e L=>Stop (yV (zga l bx b) e∧Ref w0 fp0 L (.box 1 bx s.cells zh::Gc))) zwj (zK hA hs) (hr _ hR) (by (repeat' ((conv=>whnf);first|(refine zd (fun h=>?_) (fun h=>?_)<;>try (exfalso;omega))|(refine zc (fun h=>?_) (fun h=>?_)<;>try (exfalso;omega))|(refine za (fun h=>?_) (fun h=>?_)<;>(try simp only [zqa,zqb,zqc,zqd,zqe,zqf,zqg] at h))|refine pay ?_|intro _));(all_goals (conv=>whnf));exact ⟨⟨by (repeat ((conv=>whnf);refine vS ?_));exact trivial,Ref.refl _⟩⟩) ?_
  rintro x a w e L hA hR hk
  cases x with
  | normal=>obtain ⟨hs,hr⟩:=hk;exact hq _ _ (zK hA hs) (hr _ hR)
  | _=>exact hk.elim
 have cH:=fun w=>zrT s b hb w
 have hb8:(b:Int)%256=b:=by omega
 rw [zwc]
 cases hh:s.has b with
 | true =>
   rw [hh] at cH
   refine zap (ro:=none) (m:=0) (ds:=[]) (K:=fun e L=>Stop (yV [(0,.v (zdB l)),(1,.ptr 1 bx 0),(3,.v (.int .i64 (b:Int))),(12,.v (.bool true)),(13,.v (zdB l)),(15,.v (.int .u8 (b:Int)))] e∧Ref w0 fp0 L (.box 1 bx s.cells zh::Gb))) ?_ (xA zrY) hA hR ?_
   ·rintro e a L w hA hR ⟨hs,hr⟩
    have hA:=zK hA hs
    have hR:=hr _ hR
    clear hs hr
    refine wpListIn_step fun K' hK'=>?_
    rw [uw hA g1 g4 rfl,if_pos (show (true == true)=true from rfl)]
    refine ⟨fun _ _=>trivial,?_⟩
    rw [Oper.semAt_eq _ _ _ (by rw [g3];intro c h;cases h)]
    obtain ⟨f',tmps,asg,bd,h1,h2⟩:=hy hh w hR
    have v13:a.eval (.tmp 13)=zdB l:=hA.getD (t:=13) rfl
    have v15:a.eval (.tmp 15)=.int .u8 (b:Int):=hA.getD (t:=15) rfl
    have hrun:(execOp a.eval o119).run Tryz.prog w=.ok (.round l f' tmps asg bd) w:=by
     simp [execOp,g3,resolve,v13,v15,Deferred.ofValue,invoke,h1]
    rw [hrun]
    refine ⟨(fun h=>by cases h),h2.mono ?_⟩
    rintro e2 W2 ⟨rfl,hR2⟩
    rw [g2]
    refine hK' _ _ ?_
    have hA2:Agree 19 [] ((16,.v (.bool true))::[(0,.v (zdB l)),(1,.ptr 1 bx 0),(3,.v (.int .i64 (b:Int))),(12,.v (.bool true)),(13,.v (zdB l)),(15,.v (.int .u8 (b:Int)))]) (a.put (some 16) (.bool true)):=hA.put (by decide) rfl
    refine zap (ro:=none) (m:=0) (ds:=[]) fin (xA zrZ) hA2 hR2 ?_
    (repeat' ((conv=>whnf);first|(refine zd (fun h=>?_) (fun h=>?_)<;>try (exfalso;omega))|(refine zc (fun h=>?_) (fun h=>?_)<;>try (exfalso;omega))|(refine za (fun h=>?_) (fun h=>?_)<;>(try simp only [zqa,zqb,zqc,zqd,zqe,zqf,zqg] at h))|refine pay ?_|intro _));(all_goals (conv=>whnf))
    exact ⟨⟨by (repeat ((conv=>whnf);refine vS ?_));exact trivial,Ref.refl _⟩⟩
   ·(repeat' ((conv=>whnf);first|rw [hb8]|refine zm (.v (.bool true)) (fun w hR=>cH w) ?_|(refine zd (fun h=>?_) (fun h=>?_)<;>try (exfalso;omega))|(refine zc (fun h=>?_) (fun h=>?_)<;>try (exfalso;omega))|(refine za (fun h=>?_) (fun h=>?_)<;>(try simp only [zqa,zqb,zqc,zqd,zqe,zqf,zqg] at h))|refine pay ?_|intro _));(all_goals (conv=>whnf))
    exact ⟨⟨by (repeat ((conv=>whnf);refine vS ?_));exact trivial,Ref.refl _⟩⟩
 | false =>
   rw [hh] at cH
   have hn:=hn hh
   subst hn
   refine zap (ro:=none) (m:=0) (ds:=[]) (K:=fun e L=>Stop (yV [(0,.v (zdB l)),(1,.ptr 1 bx 0),(3,.v (.int .i64 (b:Int))),(12,.v (.bool false))] e∧Ref w0 fp0 L (.box 1 bx s.cells zh::Gc))) ?_ (xA zrY) hA hR ?_
   ·rintro e a L w hA hR ⟨hs,hr⟩
    have hA:=zK hA hs
    have hR:=hr _ hR
    clear hs hr
    refine wpListIn_step fun K' hK'=>?_
    rw [uw hA g1 g4 rfl,if_neg (by decide)]
    refine ⟨fun _ _=>trivial,?_⟩
    rw [g2]
    refine hK' _ _ ?_
    have hA2:Agree 19 [] ((16,.v undef)::[(0,.v (zdB l)),(1,.ptr 1 bx 0),(3,.v (.int .i64 (b:Int))),(12,.v (.bool false))]) (a.put (some 16) undef):=hA.put (by decide) rfl
    refine zap (ro:=none) (m:=0) (ds:=[]) fin (xA zrZ) hA2 hR ?_
    (repeat' ((conv=>whnf);first|(refine zd (fun h=>?_) (fun h=>?_)<;>try (exfalso;omega))|(refine zc (fun h=>?_) (fun h=>?_)<;>try (exfalso;omega))|(refine za (fun h=>?_) (fun h=>?_)<;>(try simp only [zqa,zqb,zqc,zqd,zqe,zqf,zqg] at h))|refine pay ?_|intro _));(all_goals (conv=>whnf))
    exact ⟨⟨by (repeat ((conv=>whnf);refine vS ?_));exact trivial,Ref.refl _⟩⟩
   ·(repeat' ((conv=>whnf);first|rw [hb8]|refine zm (.v (.bool false)) (fun w hR=>cH w) ?_|(refine zd (fun h=>?_) (fun h=>?_)<;>try (exfalso;omega))|(refine zc (fun h=>?_) (fun h=>?_)<;>try (exfalso;omega))|(refine za (fun h=>?_) (fun h=>?_)<;>(try simp only [zqa,zqb,zqc,zqd,zqe,zqf,zqg] at h))|refine pay ?_|intro _));(all_goals (conv=>whnf))
    exact ⟨⟨by (repeat ((conv=>whnf);refine vS ?_));exact trivial,Ref.refl _⟩⟩
theorem zqj (s:Ls) (bx l:Nat) {w0:World} {fp0:List Nat} (G:Nat→List Ent)
 (hy:∀ b,b<256→s.has b=true→∀ W,R w0 fp0 (.box 1 bx s.cells zh::G b) W→∃ f' tmps asg bd,(Instr.yield l #[.int .u8 (b:Int)]).run Tryz.prog W=.ok (.round l f' tmps asg bd) W ∧
  RoundIn (FW none) 0 Tryz.prog l f' tmps asg bd W fun e W'=>e=.returned (.bool true)∧R w0 fp0 (.box 1 bx s.cells zh::G (b+1)) W')
 (hn:∀ b,b<256→s.has b=false→G (b+1)=G b) {W:World} (hR:R w0 fp0 (.box 1 bx s.cells zh::G 0) W) :
 CallsIn (FW none) 0 Tryz.prog xj #[zdB l,.pointer (some ⟨bx,0,none⟩)] W fun e W2=>(∃ v,e=.returned v)∧R w0 fp0 (.box 1 bx s.cells zh::G 256) W2:=by
 have hb:Tryz.f119.body=some zqh:=by kernel_rfl
 refine callsIn_of_wp (F:=FW none) Tryz.func119 hb trivial ((wpIn_wide (n:=0)).2 ?_)
 have hA:=zdc (n:=19) (l:=[.v (zdB l),.ptr 1 bx 0]) (by simp)
 rw [zxe]
 refine um (G:=fun e L=>Stop (yV (zga l bx 0) e∧Ref w0 fp0 L (.box 1 bx s.cells zh::G 0))) zwh hA hR (by (repeat' ((conv=>whnf);first|(refine zd (fun h=>?_) (fun h=>?_)<;>try (exfalso;omega))|(refine zc (fun h=>?_) (fun h=>?_)<;>try (exfalso;omega))|(refine za (fun h=>?_) (fun h=>?_)<;>(try simp only [zqa,zqb,zqc,zqd,zqe,zqf,zqg] at h))|refine pay ?_|intro _));(all_goals (conv=>whnf));exact ⟨⟨by (repeat ((conv=>whnf);refine vS ?_));exact trivial,Ref.refl _⟩⟩) ?_
 rintro e a L w hA hR ⟨hs,hr⟩
 refine wp_block (wp_loop_ghost (fun m a w=>∃ b,b≤256∧256 - b=m∧Agree 19 [] (zga l bx b) a∧R w0 fp0 (.box 1 bx s.cells zh::G b) w) 256 ⟨0,by omega,rfl,zK hA hs,hr _ hR⟩ ?_)
 clear hA hR hs hr e a L w
 rintro m a w ⟨b,hb,rfl,hA,hR⟩
 rw [zwa]
 refine znL (id:=0) (G:=fun e L=>Stop (b<256∧yV (zga l bx b) e∧Ref w0 fp0 L (.box 1 bx s.cells zh::G b))) (G1:=fun e L=>Stop (b=256∧Ref w0 fp0 L (.box 1 bx s.cells zh::G b))) zwi hA hR ?_ ?_ ?_
 ·(repeat' ((conv=>whnf);first|(refine zd (fun h=>?_) (fun h=>?_)<;>try (exfalso;omega))|(refine zc (fun h=>?_) (fun h=>?_)<;>try (exfalso;omega))|(refine za (fun h=>?_) (fun h=>?_)<;>(try simp only [zqa,zqb,zqc,zqd,zqe,zqf,zqg] at h))|refine pay ?_|intro _));(all_goals (conv=>whnf))
  ·exact ⟨⟨by omega,by (repeat ((conv=>whnf);refine vS ?_));exact trivial,Ref.refl _⟩⟩
  ·exact ⟨⟨by omega,Ref.refl _⟩⟩
 ·rintro e a L w hA hR ⟨hlt,hs,hr⟩
  refine wp_seq (wp_block (zqi s bx l b (G b) (G (b+1)) hlt (hy b hlt) (hn b hlt) (zK hA hs) (hr _ hR) ?_))
  clear hA hR hs hr e a L w
  intro a w hA hR
  refine wpK (K:=kN fun e L=>Stop (yV (zga l bx (b+1)) e∧Ref w0 fp0 L (.box 1 bx s.cells zh::G (b+1)))) zwk hA hR (by (repeat' ((conv=>whnf);first|(refine zd (fun h=>?_) (fun h=>?_)<;>try (exfalso;omega))|(refine zc (fun h=>?_) (fun h=>?_)<;>try (exfalso;omega))|(refine za (fun h=>?_) (fun h=>?_)<;>(try simp only [zqa,zqb,zqc,zqd,zqe,zqf,zqg] at h))|refine pay ?_|intro _));(all_goals (conv=>whnf));exact ⟨⟨by (repeat ((conv=>whnf);refine vS ?_));exact trivial,Ref.refl _⟩⟩) ?_
  rintro x a w e L hA hR hk
  cases x with
  | normal=>obtain ⟨hs,hr⟩:=hk;exact ⟨256 - (b+1),by omega,b+1,by omega,rfl,zK hA hs,hr _ hR⟩
  | _=>exact hk.elim
 ·rintro e a' L w' hA' hR' ⟨hbb,hr⟩
  subst hbb
  refine ⟨hA'.defers,.tuple #[],?_,⟨_,rfl⟩,hr _ hR'⟩
  have hrs:Tryz.f119.results=#[]:=by kernel_rfl
  simp [results,hrs,Sem.run_pure]
def ulL (l:List Nat):List Value:=zo .u64 (l.map Int.ofNat)
theorem zgv (l:List Nat):(ulL l).length=l.length:=by simp [ulL,zo]
theorem zjD {l:List Nat} {q v:Nat} (h:q<l.length):zr (ulL l) q [.int .u64 (v:Int)]=ulL (l.set q v):=by
 unfold ulL
 rw [ue (by simpa using h),List.map_set];rfl
theorem zd7 {l:List Nat} {j:Nat} (h:j<l.length):isK (.int .u64) (ulL l) j:=kA (by simpa using h)
theorem zgb {l:List Nat} {j:Nat} (h:j<l.length):Go.EG.intOf (atL (ulL l) j)=((l.getD j 0:Nat):Int):=by
 unfold ulL
 rw [ub (by simpa using h),List.getD_eq_getElem?_getD,List.getElem?_map,List.getD_eq_getElem?_getD,List.getElem?_eq_getElem h];rfl
theorem zr0 (n:Nat):(List.replicate n [Value.int .u64 0]).flatten=ulL (List.replicate n 0):=by
 induction n with
 | zero=>rfl
 | succ n ih=>rw [List.replicate_succ,List.flatten_cons,ih];rfl
theorem zlj (n:Nat):(List.replicate n [Value.int .i64 0]).flatten=enL (List.replicate n 0):=by
 induction n with
 | zero=>rfl
 | succ n ih=>rw [List.replicate_succ,List.flatten_cons,ih];rfl
def Ls.zb (s:Ls):Bool:=decide (s.a=0∧s.b=0∧s.c=0∧s.d=0)
theorem Ls.zb_iff {s:Ls}:s.zb=true↔s.zero:=by unfold Ls.zb Ls.zero;simp
def zX (ss:List Ls) (p:Ls):Nat→Nat
 | 0=>0
 | i+1=>if ((ss.getD i default).meet p).zb then zX ss p i else zX ss p i|||2 ^ i
theorem zie (ss:List Ls) (p:Ls):∀ i,zX ss p i<2 ^ i
 | 0=>by simp [zX]
 | i + 1 => by
   have:=zie ss p i
   unfold zX
   have h2:2 ^ (i+1)=2 ^ i+2 ^ i:=by rw [Nat.pow_succ];omega
   split
   ·omega
   ·exact Nat.or_lt_two_pow (by omega) (by omega)
theorem zlk (ss:List Ls) (p:Ls) (j:Nat):∀ n,(zX ss p n).testBit j=(decide (j<n)&&!((ss.getD j default).meet p).zb)
 | 0=>by simp [zX]
 | n + 1 => by
   have ih:=zlk ss p j n
   unfold zX
   by_cases hj:j=n
   ·subst hj
    split
    ·rename_i hz;rw [ih,hz];simp
    ·rename_i hz
     rw [Nat.testBit_or,ih,Nat.testBit_two_pow_self]
     simp at hz
     simp [hz]
   ·have hd:decide (j<n+1)=decide (j<n):=by rw [decide_eq_decide];omega
    split
    ·rw [ih,hd]
    ·rw [Nat.testBit_or,ih,Nat.testBit_two_pow_of_ne (fun h=>hj h.symm),Bool.or_false,hd]
def qX (s:Ls) (cl:Nat) (old:List Nat) (b:Nat):List Nat:=(List.range 256).map fun x=>if x<b∧s.has x=true then cl else old.getD x 0
theorem u6 (s:Ls) (cl:Nat) (old:List Nat) (b:Nat):(qX s cl old b).length=256:=by simp [qX]
theorem zll (s:Ls) (cl:Nat) (old:List Nat) (b x:Nat) (hx:x<256):(qX s cl old b).getD x 0=if x<b∧s.has x=true then cl else old.getD x 0:=by
 simp [qX,List.getD_eq_getElem?_getD,hx]
theorem zuL (s:Ls) (cl:Nat) {old:List Nat} (h:old.length=256):qX s cl old 0=old:=by
 refine List.ext_getElem (by rw [u6,h]) fun i h1 h2=>?_
 simp [qX,List.getElem?_eq_getElem h2]
theorem ztz {s:Ls} {cl:Nat} {old:List Nat} {b:Nat} (h:s.has b=false):qX s cl old (b+1)=qX s cl old b:=by
 unfold qX
 refine List.map_congr_left fun x _=>?_
 by_cases hx:x=b
 ·subst hx;simp [h]
 ·have:(x<b+1)=(x<b):=propext (by omega)
  simp only [this]
theorem zr1 {s:Ls} {cl:Nat} {old:List Nat} {b:Nat} (hb:b<256) (h:s.has b=true):(qX s cl old b).set b cl=qX s cl old (b+1):=by
 refine List.ext_getElem (by rw [List.length_set,u6,u6]) fun i h1 h2=>?_
 rw [List.getElem_set]
 simp only [qX,List.getElem_map,List.getElem_range]
 by_cases hx:b=i
 ·subst hx;simp [h]
 ·rw [if_neg hx]
  have:(i<b+1)=(i<b):=propext (by omega)
  simp only [this]
structure CI (ps:List Ls) (j:Nat) (cls:List Nat):Prop where
 len:cls.length=256
 lt:∀ x,cls.getD x 0=0∨cls.getD x 0<j
 cl:∀ i p x,i<j→ps[i]?=some p→x<256→p.has x=true→cls.getD x 0=i
theorem zr2 (n x:Nat):(List.replicate n 0).getD x 0=0:=by
 rw [List.getD_eq_getElem?_getD,List.getElem?_replicate];split<;>rfl
theorem CI.start (ps:List Ls):CI ps 0 (List.replicate 256 0):=⟨by simp,fun x=>.inl (zr2 _ _),fun i p x h=>absurd h (by omega)⟩
theorem CI.next {ps:List Ls} {j:Nat} {cls:List Nat} {p:Ls} (h:CI ps j cls) (hP:Part ps) (hp:ps[j]?=some p):CI ps (j+1) (qX p j cls 256):=by
 refine ⟨u6 ..,fun x=>?_,fun i q x hi hq hx hqx=>?_⟩
 ·by_cases hx:x<256
  ·rw [zll _ _ _ _ _ hx]
   split
   ·exact .inr (by omega)
   ·exact (h.lt x).imp id (by omega)
  ·rw [List.getD_eq_getElem?_getD,List.getElem?_eq_none (by rw [u6];omega)];exact .inl rfl
 ·rw [zll _ _ _ _ _ hx]
  split
  ·rename_i hpx
   exact (hP.inj hx hp hq hpx.2 hqx)
  ·rename_i hpx
   by_cases he:i=j
   ·subst he
    rw [hp] at hq;cases hq
    exact absurd ⟨hx,hqx⟩ hpx
   ·exact h.cl i q x (by omega) hq hx hqx
def msE (Ds:List Nat):Ent:=.abs 9003 Ds fun w=>∀ D∈Ds,w.heap[D]?=some (.deferred (some []))
theorem znM {w0 w:World} {fp0:List Nat} {L:List Ent}:∀ {Ds:List Nat},R w0 fp0 (msE Ds::L) w→R w0 fp0 (Ds.map dfE++L) w
 | [],h=>h.tail
 | D :: Ds, h => by
   have hD:∀ x∈D::Ds,w.heap[x]?=some (.deferred (some [])):=Ent.abs_ok (h.ok _ List.mem_cons_self)
   have hnd:=h.nodup
   have hrg:=h.range
   rw [zC] at hnd hrg
   simp only [msE,Ent.fp,List.cons_append] at hnd hrg
   have h2:R w0 fp0 (msE Ds::(dfE D::L)) w:=by
    refine ⟨h.os,h.tape,h.output,h.drawn,h.size,h.old,?_,?_,?_⟩
    ·rw [zC,zC]
     simp only [msE,dfE,Ent.fp]
     obtain ⟨h1,h2⟩:=List.nodup_cons.1 hnd
     exact (List.perm_middle (a:=D) (l₁:=Ds) (l₂:=fps L)).nodup_iff.2 (List.nodup_cons.2 ⟨h1,h2⟩)
    ·intro b hb
     rw [zC,zC] at hb
     simp only [msE,dfE,Ent.fp] at hb
     refine hrg b ?_
     rcases List.mem_append.1 hb with hb|hb
     ·exact List.mem_cons_of_mem _ (List.mem_append_left _ hb)
     ·rcases List.mem_append.1 hb with hb|hb
      ·rw [List.mem_singleton.1 hb];exact List.mem_cons_self
      ·exact List.mem_cons_of_mem _ (List.mem_append_right _ hb)
    ·intro e he
     rcases List.mem_cons.1 he with rfl|he
     ·intro w' hs x hx
      rw [hs x hx];exact hD x (List.mem_cons_of_mem _ hx)
     ·rcases List.mem_cons.1 he with rfl|he
      ·exact zd6 (p:=fun o=>o=some (.deferred (some []))) (hD D List.mem_cons_self)
      ·exact h.ok e (List.mem_cons_of_mem _ he)
   have h3:=znM h2
   exact h3.perm (List.perm_middle (a:=dfE D) (l₁:=Ds.map dfE) (l₂:=L))
theorem zuM {w0 w:World} {fp0:List Nat} {L:List Ent} {D:Nat} {Ds:List Nat} (h:R w0 fp0 (dfE D::msE Ds::L) w):R w0 fp0 (msE (D::Ds)::L) w:=by
 have h1:w.heap[D]?=some (.deferred (some [])):=Ent.abs_ok (h.ok _ List.mem_cons_self)
 have h2:∀ x∈Ds,w.heap[x]?=some (.deferred (some [])):=Ent.abs_ok (h.ok _ (List.mem_cons_of_mem _ List.mem_cons_self))
 have hnd:=h.nodup
 have hrg:=h.range
 rw [zC,zC] at hnd hrg
 simp only [msE,dfE,Ent.fp,List.singleton_append] at hnd hrg
 refine ⟨h.os,h.tape,h.output,h.drawn,h.size,h.old,?_,?_,?_⟩
 ·rw [zC];exact hnd
 ·intro b hb;rw [zC] at hb;exact hrg b hb
 ·intro e he
  rcases List.mem_cons.1 he with rfl|he
  ·intro w' hs x hx
   rw [hs x hx]
   rcases List.mem_cons.1 hx with rfl|hx
   ·exact h1
   ·exact h2 x hx
  ·exact h.ok e (List.mem_cons_of_mem _ (List.mem_cons_of_mem _ he))
noncomputable def ops64a:Array Oper:=zty zvF
noncomputable def ops64b:Array Oper:=zty zvG
set_option maxRecDepth 100000 in
theorem zwl:zjC=.rangeFunc (.tmp 27) #[28] (.region 8 ops64a false) (.block 3 (.region 9 ops64b false)):=by kernel_rfl
def zxg:List Gop:=[⟨some 9,none,.mv (.t 28)⟩]
def zxh:List Gop:=[⟨(some 29),none,(.fa 1 (.t 4))⟩,⟨(some 30),none,(.ld .slc (.t 29))⟩,⟨(some 31),none,(.mv (.t 9))⟩,⟨(some 32),none,(.ld (.int .i64) (.t 7))⟩,⟨(some 33),none,(.ia 1 (.t 30) (.t 31))⟩,⟨none,none,(.st 1 (.t 33) (.t 32))⟩]
set_option maxRecDepth 100000 in
theorem zwQ:uA Tryz.prog 58 ops64a [] ops64a.toList=some zxg:=by kernel_rfl
set_option maxRecDepth 100000 in
theorem zwR:uA Tryz.prog 58 ops64b [] ops64b.toList=some zxh:=by kernel_rfl
structure CsG where
 ps:List Ls
 sa:Option Addr
 sn:Nat
 sc:Nat
 b2:Nat
 b4:Nat
 ca:Option Addr
 cc:Nat
 pa:Option Addr
 pc:Nat
 aa:Option Addr
 ac:Nat
abbrev mz:List Value:=[.int .i64 0,.slice none 0 0,.slice none 0 0,.slice none 0 0]
abbrev CsG.E1 (g:CsG):Env:=[(0,.v (.slice g.sa g.sn g.sc)),(2,.ptr 2 g.b2 0),(3,.v (.slice none 0 0)),(4,.ptr 4 g.b4 0)]
abbrev CsG.E2 (g:CsG) (j:Nat):Env:=[(0,.v (.slice g.sa g.sn g.sc)),(2,.ptr 2 g.b2 0),(3,.v (.slice none 0 0)),(4,.ptr 4 g.b4 0),(5,.sl 812 g.pa g.ps.length g.pc),(6,.sl 818 g.aa g.ps.length g.ac),(19,.sl 812 g.pa g.ps.length g.pc),(20,.v (.int .i64 (g.ps.length:Int))),(21,.v (.int .i64 (j:Int)))]
abbrev CsG.M (g:CsG):List Value:=[.int .i64 0,.slice g.ca 256 g.cc,.slice none 0 0,.slice none 0 0]
abbrev CsG.H1 (g:CsG):List Ent:=[.own 801 g.ca 256 g.cc zj 1 (enL (List.replicate 256 0)),.box 4 g.b4 g.M zg,.box 2 g.b2 mz zg]
abbrev CsG.H2 (g:CsG) (cls al Ds:List Nat):List Ent:=[.own 812 g.pa g.ps.length g.pc zh 4 (lsL g.ps),.own 818 g.aa g.ps.length g.ac qd 1 (ulL al),.own 801 g.ca 256 g.cc zj 1 (enL cls),.box 4 g.b4 g.M zg,.box 2 g.b2 mz zg,msE Ds]
abbrev CsG.E3 (g:CsG) (j b7 b8:Nat):Env:=[(0,.v (.slice g.sa g.sn g.sc)),(2,.ptr 2 g.b2 0),(3,.v (.slice none 0 0)),(4,.ptr 4 g.b4 0),(5,.sl 812 g.pa g.ps.length g.pc),(6,.sl 818 g.aa g.ps.length g.ac),(7,.ptr 7 b7 0),(8,.ptr 8 b8 0),(19,.sl 812 g.pa g.ps.length g.pc),(20,.v (.int .i64 (g.ps.length:Int))),(21,.v (.int .i64 (j:Int)))]
abbrev CsG.H3 (g:CsG) (j b7 b8:Nat) (p:Ls) (cls al Ds:List Nat):List Ent:=[.own 801 g.ca 256 g.cc zj 1 (enL cls),.box 7 b7 [.int .i64 (j:Int)] zj,.box 8 b8 p.cells zh,.own 812 g.pa g.ps.length g.pc zh 4 (lsL g.ps),.own 818 g.aa g.ps.length g.ac qd 1 (ulL al),.box 4 g.b4 g.M zg,.box 2 g.b2 mz zg,msE Ds]
theorem zr3 (g:CsG) (j b7 b8 bx l D b:Nat) (p:Ls) (cls al Ds:List Nat) {w0 W:World} {fp0:List Nat} {ds:List Deferred} {e:Env} {a:Act} {fn:FuncId} (hcl:cls.length=256) (hb:b<256) (hpb:p.has b=true)
 (hs:yV (g.E3 j b7 b8) e) (hA:Agree 58 ds e a)
 (hR:R w0 fp0 (lpE l D fn a #[28] (.region 8 ops64a false) (.block 3 (.region 9 ops64b false)) .ready::dfE D::.box 1 bx p.cells zh::g.H3 j b7 b8 p (qX p j cls b) al Ds) W) :
 ∃ f' tmps asg bd, (Instr.yield l #[.int .u8 (b : Int)]).run Tryz.prog W = .ok (.round l f' tmps asg bd) W ∧
   RoundIn (FW none) 0 Tryz.prog l f' tmps asg bd W fun e W'=>e=.returned (.bool true)∧R w0 fp0 (lpE l D fn a #[28] (.region 8 ops64a false) (.block 3 (.region 9 ops64b false)) .ready::dfE D::.box 1 bx p.cells zh::g.H3 j b7 b8 p (qX p j cls (b+1)) al Ds) W':=by
 obtain ⟨f',tmps,asg,bd,h1,h2⟩:=zoD (m:=0) (G:=fun H''=>H''=.box 1 bx p.cells zh::g.H3 j b7 b8 p (qX p j cls (b+1)) al Ds) hR (zK hA hs) (by decide) zwQ zwR (v:=.int .u8 (b:Int)) (by
  have hl:=u6 p j cls b
  have hl2:=yz (qX p j cls b)
  have hsp:zr (enL (qX p j cls b)) b [.int .i64 (j:Int)]=enL (qX p j cls (b+1)):=by rw [qP (by omega),zr1 hb hpb]
  have q0:((b:Nat):Int).toNat=b:=by omega
  (repeat' ((conv=>whnf);first|(refine zd (fun h=>?_) (fun h=>?_)<;>try (exfalso;omega))|(refine zc (fun h=>?_) (fun h=>?_)<;>try (exfalso;omega))|(refine za (fun h=>?_) (fun h=>?_)<;>(try simp only [zqa,zqb,zqc,zqd,zqe,zqf,zqg] at h))|refine pay ?_|intro _));(all_goals (conv=>whnf))
  refine ⟨_,rfl,?_⟩
  (repeat' ((conv=>whnf);first|refine ⟨.sl 801 _ _ _,⟨rfl,rfl,rfl,rfl⟩,?_⟩|(refine zd (fun h=>?_) (fun h=>?_)<;>try (exfalso;omega))|(refine zc (fun h=>?_) (fun h=>?_)<;>try (exfalso;omega))|(refine za (fun h=>?_) (fun h=>?_)<;>(try simp only [zqa,zqb,zqc,zqd,zqe,zqf,zqg] at h))|refine pay ?_|intro _));(all_goals (conv=>whnf))
  rw [q0,hsp]
  exact ⟨_,rfl,rfl⟩)
 refine ⟨f',tmps,asg,bd,h1,h2.mono ?_⟩
 rintro e2 W2 ⟨rfl,H'',rfl,hR2⟩
 exact ⟨rfl,hR2⟩
theorem ztZ {n:Nat} (h:n<64):(1*((2 ^ ((n:Nat):Int).toNat:Nat):Int))%18446744073709551616=((2 ^ n:Nat):Int):=zkJ h
theorem ztA (g:CsG) (j b7 b8:Nat) (p:Ls) (ss:List Ls) (cls al Ds:List Nat) {w0:World} (hsn:g.sn=ss.length) (hl:ss.length≤64) (hin:In w0 [] g.sa (lsL ss)) (hal:al.length=g.ps.length) (hj:j<g.ps.length) (hj2:g.ps.length≤256) (h0:al.getD j 0=0) :
 VC Tryz.prog w0 [] zrN (kN fun e L=>Stop (yV (g.E2 j) e∧Ref w0 [] L (g.H2 cls (al.set j (zX ss p ss.length)) Ds))) (g.E3 j b7 b8) (g.H3 j b7 b8 p cls al Ds):=by
 obtain ⟨ps,sa,sn,sc,b2,b4,ca,cc,pa,pc,aa,ac⟩:=g
 dsimp only at hsn hin hal hj hj2 ⊢
 subst hsn
 have hsa:0<ss.length→sa≠none:=fun h=>hin.ne' (k:=0) (by rw [uk];omega)
 (repeat' ((conv=>whnf);first|(refine zd (fun h=>?_) (fun h=>?_)<;>try (exfalso;omega))|(refine zc (fun h=>?_) (fun h=>?_)<;>try (exfalso;omega))|(refine za (fun h=>?_) (fun h=>?_)<;>(try simp only [zqa,zqb,zqc,zqd,zqe,zqf,zqg] at h))|refine pay ?_|intro _));(all_goals (conv=>whnf))
 all_goals try (exfalso;omega)
 refine zu Nat (fun i=>(34,.v (.slice sa ss.length sc))::(35,.v (.int .i64 (ss.length:Int)))::(36,.v (.int .i64 (i:Int)))::(CsG.mk ps sa ss.length sc b2 b4 ca cc pa pc aa ac).E3 j b7 b8)
  (fun i=>(CsG.mk ps sa ss.length sc b2 b4 ca cc pa pc aa ac).H3 j b7 b8 p cls (al.set j (zX ss p i)) Ds) (fun i=>i≤ss.length) (fun i=>ss.length - i) 0 (Nat.zero_le _) (by (repeat ((conv=>whnf);refine vS ?_));exact trivial) ?_ ?_
 ·have e0:al.set j (zX ss p 0)=al:=by
   refine List.ext_getElem (by simp) fun i h1 h2=>?_
   rw [List.getElem_set]
   by_cases he:j=i
   ·subst he
    rw [List.getD_eq_getElem?_getD,List.getElem?_eq_getElem h2] at h0
    rw [if_pos rfl];exact h0.symm
   ·rw [if_neg he]
  rw [e0]
  exact Ref.refl _
 intro i hi
 by_cases hlt:i<ss.length
 ·obtain ⟨s,hs⟩:∃ s,ss[i]?=some s:=⟨_,List.getElem?_eq_getElem hlt⟩
  have hsd:ss.getD i default=s:=by rw [List.getD_eq_getElem?_getD,hs];rfl
  have rds:=fun {L:List Ent}=>zry (L:=L) hin hs
  have hsa:=hsa (by omega)
  have q0:((i:Nat):Int).toNat=i:=by omega
  have q1:((j:Nat):Int).toNat=j:=by omega
  have hlen:=zgv (al.set j (zX ss p i))
  have hset:(al.set j (zX ss p i)).length=ps.length:=by rw [List.length_set,hal]
  have hat:=zgb (l:=al.set j (zX ss p i)) (j:=j) (by omega)
  have hisk:=zd7 (l:=al.set j (zX ss p i)) (j:=j) (by omega)
  have hget:(al.set j (zX ss p i)).getD j 0=zX ss p i:=by rw [List.getD_eq_getElem?_getD,List.getElem?_set_self (by omega)];rfl
  rw [hget] at hat
  have cM:=fun w=>zjz s p w
  have hmk:zX ss p (i+1)=if (s.meet p).zb then zX ss p i else zX ss p i|||2 ^ i:=by
   rw [←hsd];rfl
  have hmlt:=zie ss p i
  have h2i:2 ^ i<2 ^ 64:=Nat.pow_lt_pow_right (by decide) (by omega)
  have hshl:(1*((2 ^ i:Nat):Int))%18446744073709551616=((2 ^ i:Nat):Int):=by
   have:=ztZ (n:=i) (by omega)
   rwa [q0] at this
  have hbk:0≤(i:Int)∧(i:Int)≤biK .u64:=⟨by omega,show (i:Int)≤64 by omega⟩
  have hor:((((zX ss p i:Nat):Int).toNat|||((2 ^ i:Nat):Int).toNat:Nat):Int)=((zX ss p i|||2 ^ i:Nat):Int):=by rw [Int.toNat_natCast,Int.toNat_natCast]
  have hbo:(0:Int)≤((zX ss p i:Nat):Int)∧((zX ss p i:Nat):Int)≤18446744073709551615∧(0:Int)≤((2 ^ i:Nat):Int)∧((2 ^ i:Nat):Int)≤18446744073709551615:=by
   generalize 2 ^ i=y at *
   exact ⟨by omega,by omega,by omega,by omega⟩
  have hsp:zr (ulL (al.set j (zX ss p i))) j [.int .u64 ((zX ss p i|||2 ^ i:Nat):Int)]=ulL (al.set j (zX ss p i|||2 ^ i)):=by
   rw [zjD (by omega),List.set_set]
  have hz0:(s.meet p).zb=true→zX ss p (i+1)=zX ss p i:=fun h=>by rw [hmk,if_pos h]
  have hz1:(s.meet p).zb=false→zX ss p (i+1)=zX ss p i|||2 ^ i:=fun h=>by rw [hmk,if_neg (by rw [h];decide)]
  clear hmk hget hmlt h2i
  (repeat' ((conv=>whnf);first|rw [q0]|rw [q1]|rw [hat]|rw [hshl]|rw [hor]|rw [hsp]|refine ⟨s.cells,rfl,rds,?_⟩|refine zm (.v (s.meet p).v) (fun w hR=>cM w) ?_|refine ⟨_,⟨rfl,trivial⟩,?_⟩|(refine zd (fun h=>?_) (fun h=>?_)<;>try (exfalso;omega))|(refine zc (fun h=>?_) (fun h=>?_)<;>try (exfalso;omega))|(refine za (fun h=>?_) (fun h=>?_)<;>(try simp only [zqa,zqb,zqc,zqd,zqe,zqf,zqg] at h))|refine pay ?_|refine And.intro (by first|exact hbk|exact hbo|exact ⟨rfl,hisk⟩) ?_|intro _));(all_goals (conv=>whnf))
  all_goals try (exfalso;omega)
  all_goals first
   | (have hz : (s.meet p).zb = true := by
       unfold Ls.zb;rw [decide_eq_true_eq];exact ⟨by omega,by omega,by omega,by omega⟩
      have e:=hz0 hz
      exact zi (i+1) hlt (by omega) (by (repeat ((conv=>whnf);refine vS ?_));exact trivial) (by rw [e];exact Ref.takes [801,7,8,812,818,4,2,9003] rfl (Thin.refl _)))
   | (have hz : (s.meet p).zb = false := by
       unfold Ls.zb;rw [decide_eq_false_iff_not];intro h;omega
      have e:=hz1 hz
      exact zi (i+1) hlt (by omega) (by (repeat ((conv=>whnf);refine vS ?_));exact trivial) (by rw [e];exact Ref.takes [801,7,8,812,818,4,2,9003] rfl (Thin.refl _)))
 ·(repeat' ((conv=>whnf);first|(refine zd (fun h=>?_) (fun h=>?_)<;>try (exfalso;omega))|(refine zc (fun h=>?_) (fun h=>?_)<;>try (exfalso;omega))|(refine za (fun h=>?_) (fun h=>?_)<;>(try simp only [zqa,zqb,zqc,zqd,zqe,zqf,zqg] at h))|refine pay ?_|intro _));(all_goals (conv=>whnf))
  all_goals try (exfalso;omega)
  have:i=ss.length:=by omega
  subst this
  exact ⟨⟨by (repeat ((conv=>whnf);refine vS ?_));exact trivial,Ref.takes [812,818,801,4,2,9003] rfl (Thin.refl _)⟩⟩
def kY (ps ss:List Ls) (j:Nat):List Nat:=(List.range ps.length).map fun i=>if i<j then zX ss (ps.getD i default) ss.length else 0
theorem znN (ps ss:List Ls) (j:Nat):(kY ps ss j).length=ps.length:=by simp [kY]
theorem znO (ps ss:List Ls) (j i:Nat) (h:i<ps.length):(kY ps ss j).getD i 0=if i<j then zX ss (ps.getD i default) ss.length else 0:=by
 simp [kY,List.getD_eq_getElem?_getD,h]
theorem zwm (ps ss:List Ls):kY ps ss 0=List.replicate ps.length 0:=by
 refine List.ext_getElem (by simp [kY]) fun i h1 h2=>?_
 simp [kY]
theorem zr4 {ps:List Ls} (ss:List Ls) {j:Nat} {p:Ls} (h:ps[j]?=some p):(kY ps ss j).set j (zX ss p ss.length)=kY ps ss (j+1):=by
 refine List.ext_getElem (by simp [kY]) fun i h1 h2=>?_
 rw [List.getElem_set]
 simp only [kY,List.getElem_map,List.getElem_range]
 by_cases he:j=i
 ·subst he
  rw [if_pos rfl,if_pos (by omega),List.getD_eq_getElem?_getD,h];rfl
 ·rw [if_neg he]
  have:(i<j+1)=(i<j):=propext (by omega)
  simp only [this]
def clQ (ss:List Ls) (v:Value) (L1:List Ent):Prop:=∃ (ps:List Ls) (cls:List Nat) (ca:Option Addr) (cc:Nat) (aa:Option Addr) (ac:Nat),
 v=.tuple #[.agg #[.int .i64 0,.slice ca 256 cc,.slice none 0 0,.slice none 0 0],.slice aa ps.length ac] ∧
 L1=[.own 801 ca 256 cc zj 1 (enL cls),.own 818 aa ps.length ac qd 1 (ulL (kY ps ss ps.length))]∧Part ps∧Homo ss ps∧CI ps ps.length cls
theorem zwn {w0 w:World} {fp0:List Nat} {L:List Ent} (h:R w0 fp0 L w):R w0 fp0 (L++[msE []]) w:=by
 have e:fps (L++[msE []])=fps L:=by simp [fps,msE,Ent.fp]
 refine ⟨h.os,h.tape,h.output,h.drawn,h.size,h.old,by rw [e];exact h.nodup,fun b hb=>h.range b (by rwa [e] at hb),fun x hx=>?_⟩
 rcases List.mem_append.1 hx with hx|hx
 ·exact h.ok x hx
 ·rw [List.mem_singleton.1 hx]
  intro w' _ D hD
  cases hD
theorem zl5 {α:Type} (a b c:α) (T:List α):(a::b::c::T).Perm (c::a::b::T):=((List.Perm.swap c b T).cons a).trans (.swap c a (b::T))
theorem zr5 (g:CsG) (j:Nat) (p:Ls) (ss:List Ls) (cls al Ds:List Nat) {w0 w:World} {a:Act} {Q:Exit→Act→World→Prop} (hsn:g.sn=ss.length) (hl:ss.length≤64) (hin:In w0 [] g.sa (lsL ss)) (hcl:cls.length=256) (hal:al.length=g.ps.length) (hp:g.ps[j]?=some p) (hj2:g.ps.length≤256) (h0:al.getD j 0=0)
 (hA:Agree 58 (Ds.map dfD) (g.E2 j) a) (hR:R w0 [] (g.H2 cls al Ds) w)
 (hq:∀ D a w,Agree 58 ((D::Ds).map dfD) (g.E2 j) a→R w0 [] (g.H2 (qX p j cls 256) (al.set j (zX ss p ss.length)) (D::Ds)) w→Q .normal a w):k64_in.wp Tryz.prog Q a w:=by
 have hj:j<g.ps.length:=(List.getElem?_eq_some_iff.1 hp).1
 have q1:((j:Nat):Int).toNat=j:=by omega
 have cA:=fun w=>zrU p w
 have hrd:=zao hp
 rw [zv9]
 refine um (G:=fun e L=>VC Tryz.prog w0 [] zrM (kN fun e L=>Stop (∃ b7 b8 bx,yV ((27,.v (.func (.func xj) #[] #[.pointer (some ⟨bx,0,none⟩)]))::g.E3 j b7 b8) e∧Ref w0 [] L (.box 1 bx p.cells zh::g.H3 j b7 b8 p cls al Ds))) e L) zvY hA hR ?_ ?_
 ·obtain ⟨ps,sa,sn,sc,b2,b4,ca,cc,pa,pc,aa,ac⟩:=g
  dsimp only at hj hrd
  have hpos:0<ps.length:=by omega
  (repeat' ((conv=>whnf);first|rw [q1]|refine jf hrd ?_ rfl rfl rfl|(refine zA (fun w hR=>cA w) ?_;rintro _ _ ⟨bx,rfl,rfl⟩;refine ⟨.v _,rfl,?_⟩)|refine ⟨_,⟨rfl,trivial⟩,?_⟩|(refine zd (fun h=>?_) (fun h=>?_)<;>try (exfalso;omega))|(refine zc (fun h=>?_) (fun h=>?_)<;>try (exfalso;omega))|(refine za (fun h=>?_) (fun h=>?_)<;>(try simp only [zqa,zqb,zqc,zqd,zqe,zqf,zqg] at h))|refine pay ?_|refine And.intro (by first|exact ⟨rfl,hpos⟩) ?_|intro _));(all_goals (conv=>whnf))
  all_goals try (exfalso;omega)
  rename_i b7 b8
  exact ⟨⟨b7,b8,bx,by (repeat ((conv=>whnf);refine vS ?_));exact trivial,Ref.takes [1,801,7,8,812,818,4,2,9003] rfl (Thin.refl _)⟩⟩
 clear hA hR a w
 rintro e a L w hA hR hG
 refine wp_seq (um zv0 hA hR hG ?_)
 clear hA hR hG e a L w
 rintro e a L w hA hR ⟨b7,b8,bx,hs,hr⟩
 replace hA:=zK hA hs
 replace hR:=hr _ hR
 clear hs hr
 refine wp_block ?_
 rw [zwl]
 refine ztx (gf:=xj) (lb:=#[.pointer (some ⟨bx,0,none⟩)]) (L':=.box 1 bx p.cells zh::g.H3 j b7 b8 p (qX p j cls 256) al Ds) (hA.getD (t:=27) rfl) (by kernel_rfl) hR ?_ ?_
 ·intro l D fn W1 hR1
  have hc:=zqj p bx l (w0:=w0) (fp0:=[]) (W:=W1) (fun b=>lpE l D fn a #[28] (.region 8 ops64a false) (.block 3 (.region 9 ops64b false)) .ready::dfE D::g.H3 j b7 b8 p (qX p j cls b) al Ds) (fun b hb hpb W hW=>?_) (fun b hb hpb=>by rw [ztz hpb]) (by rw [zuL p j hcl];exact hR1.perm (zl5 ..))
  ·exact hc.mono fun e W2 h=>⟨h.1,h.2.perm (zl5 ..).symm⟩
  ·obtain ⟨f',tmps,asg,bd,h1,h2⟩:=zr3 g j b7 b8 bx l D b p cls al Ds hcl hb hpb (e:=(27,.v (.func (.func xj) #[] #[.pointer (some ⟨bx,0,none⟩)]))::g.E3 j b7 b8) (by (repeat ((conv=>whnf);refine vS ?_));exact trivial) hA (hW.perm (zl5 ..).symm)
   exact ⟨f',tmps,asg,bd,h1,h2.mono fun e W2 h=>⟨h.1,h.2.perm (zl5 ..)⟩⟩
 ·intro D W hR2
  have hA2:Agree 58 ((D::Ds).map dfD) (g.E3 j b7 b8) { a with defers:=dfD D::a.defers }:=by
   have h3:=zK (e':=g.E3 j b7 b8) hA (by (repeat ((conv=>whnf);refine vS ?_));exact trivial)
   exact ⟨h3.size,by rw [List.map_cons,←h3.defers],h3.at_⟩
  have hR3:R w0 [] (g.H3 j b7 b8 p (qX p j cls 256) al (D::Ds)) W:=by
   have h1:=(Ref.takes (w0:=w0) (fp0:=[]) [9002,9003,801,7,8,812,818,4,2] (L:=dfE D::.box 1 bx p.cells zh::g.H3 j b7 b8 p (qX p j cls 256) al Ds) rfl (Thin.refl _)) W hR2
   exact (Ref.takes (w0:=w0) (fp0:=[]) [801,7,8,812,818,4,2,9003] rfl (Thin.refl _)) W (zuM h1)
  refine wpK zv2 hA2 hR3 (ztA g j b7 b8 p ss (qX p j cls 256) al (D::Ds) hsn hl hin hal hj hj2 h0) ?_
  rintro x a w e L hA hR hk
  cases x with
  | normal=>obtain ⟨hs,hr⟩:=hk;exact hq D a w (zK hA hs) (hr _ hR)
  | _=>exact hk.elim
theorem zlQ (ss:List Ls) (hl:ss.length≤64) (sa:Option Addr) (sc:Nat) (w0:World) (hG:Tab w0) (hin:In w0 [] sa (lsL ss)) :
 Calls Tryz.prog zaP #[.slice sa ss.length sc] w0 fun e w'=>∃ v L1,e=.returned v∧R w0 [] L1 w'∧clQ ss v L1:=by
 have hb:Tryz.f64.body=some zcy:=by kernel_rfl
 have hrs:zdb Tryz.prog Tryz.f64.results.toList=some [.c 2 4,.t 3]:=by kernel_rfl
 refine (zoE (R':=fun x w'=>∃ v L',x=.returned v∧R w0 [] L' w'∧∃ L1,Ref w0 [] L' L1∧clQ ss v L1) (l:=[.v (.slice sa ss.length sc)]) Tryz.func64 hb (n:=58) rfl (by simp) fun a hA=>?_).mono (fun x w' ⟨v,L',h1,h2,L1,h3,h4⟩=>⟨v,L1,h1,h3 _ h2,h4⟩)
 have hR:R w0 [] [] w0:=R.start0 w0
 have q256:Int.toNat 256=256:=rfl
 rw [zv6]
 refine um (G:=fun e L=>VC Tryz.prog w0 [] zrJ (kN fun e L=>Stop (∃ (b2 b4:Nat) (ca:Option Addr) (cc:Nat),yV (CsG.E1 ⟨[],sa,ss.length,sc,b2,b4,ca,cc,none,0,none,0⟩) e∧Ref w0 [] L (CsG.H1 ⟨[],sa,ss.length,sc,b2,b4,ca,cc,none,0,none,0⟩))) e L) zvJ hA hR ?_ ?_
 ·(repeat' ((conv=>whnf);first|rw [q256]|(refine zd (fun h=>?_) (fun h=>?_)<;>try (exfalso;omega))|(refine zc (fun h=>?_) (fun h=>?_)<;>try (exfalso;omega))|(refine za (fun h=>?_) (fun h=>?_)<;>(try simp only [zqa,zqb,zqc,zqd,zqe,zqf,zqg] at h))|refine pay ?_|intro _));(all_goals (conv=>whnf))
  rename_i b2 b12 b4
  exact ⟨⟨b2,b4,some ⟨b12,0,none⟩,256,by (repeat ((conv=>whnf);refine vS ?_));exact trivial,Ref.takes [12,4,2] rfl (.own rfl (zlj 256) (Thin.refl _))⟩⟩
 clear hA hR a
 rintro e a L w hA hR hG1
 refine um zvL hA hR hG1 ?_
 clear hA hR hG1 e a L w
 rintro e a L w hA hR ⟨b2,b4,ca,cc,hs,hr⟩
 replace hA:=zK hA hs
 replace hR:=hr _ hR
 clear hs hr
 have cA:=fun (W:World) (L':List Ent) (hR:R w0 [] L' W)=>zoC ss (by omega) sa sc W (hG.cast hR (fun _ h=>by cases h)) (hin.cast hR (fun _ h=>by cases h))
 refine um (G:=fun e L=>VC Tryz.prog w0 [] zrK (kN fun e L=>VC Tryz.prog w0 [] zrL (kN fun e L=>Stop (∃ (ps:List Ls) (pa:Option Addr) (pc:Nat) (aa:Option Addr) (ac:Nat),Part ps∧Homo ss ps∧yV (CsG.E2 ⟨ps,sa,ss.length,sc,b2,b4,ca,cc,pa,pc,aa,ac⟩ 0) e∧Ref w0 [] L (CsG.H2 ⟨ps,sa,ss.length,sc,b2,b4,ca,cc,pa,pc,aa,ac⟩ (List.replicate 256 0) (kY ps ss 0) []))) e L) e L) zvO hA hR ?_ ?_
 ·(repeat' ((conv=>whnf);first|(refine zA (fun w hR=>cA w _ hR) ?_;rintro _ _ ⟨ps,pa,pc,rfl,rfl,hP,hH⟩;have hpl:=hP.len;refine ⟨.sl 12 pa ps.length pc,rfl,?_⟩)|refine ⟨_,⟨rfl,trivial⟩,?_⟩|(refine zd (fun h=>?_) (fun h=>?_)<;>try (exfalso;omega))|(refine zc (fun h=>?_) (fun h=>?_)<;>try (exfalso;omega))|(refine za (fun h=>?_) (fun h=>?_)<;>(try simp only [zqa,zqb,zqc,zqd,zqe,zqf,zqg] at h))|refine pay ?_|intro _));(all_goals (conv=>whnf))
  all_goals try (exfalso;omega)
  rename_i b18
  have qn:((ps.length:Nat):Int).toNat=ps.length:=by omega
  rw [qn,zr0]
  refine ⟨⟨ps,pa,pc,some ⟨b18,0,none⟩,ps.length,hP,hH,by (repeat ((conv=>whnf);refine vS ?_));exact trivial,fun w h=>?_⟩⟩
  rw [zwm]
  exact zwn ((Ref.takes (w0:=w0) (fp0:=[]) [12,18,801,4,2] rfl (.own rfl rfl (.own rfl rfl (Thin.refl _)))) w h)
 clear hA hR a w cA
 rintro e a L w hA hR hG2
 refine um zvQ hA hR hG2 ?_
 clear hA hR hG2 e a L w
 rintro e a L w hA hR hG3
 rw [zv7]
 refine wp_seq (um zvS hA hR hG3 ?_)
 clear hA hR hG3 e a L w
 rintro e a L w hA hR ⟨ps,pa,pc,aa,ac,hP,hH,hs,hr⟩
 replace hA:=zK hA hs
 replace hR:=hr _ hR
 clear hs hr
 obtain ⟨hp1,hp2⟩:=hP.len
 obtain ⟨g,hg⟩:∃ g:CsG,g=⟨ps,sa,ss.length,sc,b2,b4,ca,cc,pa,pc,aa,ac⟩:=⟨_,rfl⟩
 have gps:g.ps=ps:=by rw [hg]
 have gsn:g.sn=ss.length:=by rw [hg]
 have gsa:In w0 [] g.sa (lsL ss):=by rw [hg];exact hin
 rw [←hg] at hA hR
 refine wp_block (wp_loop_ghost (fun m a w=>∃ j cls Ds,j≤ps.length∧ps.length - j=m∧CI ps j cls∧Agree 58 (Ds.map dfD) (g.E2 j) a∧R w0 [] (g.H2 cls (kY ps ss j) Ds) w) ps.length ⟨0,List.replicate 256 0,[],Nat.zero_le _,rfl,CI.start ps,hA,hR⟩ ?_)
 clear hA hR e a L w
 rintro m a w ⟨j,cls,Ds,hj,rfl,hC,hA,hR⟩
 have hlp:(g.E2 j)=(g.E2 j):=rfl
 rw [zv8]
 refine um (G:=fun e L=>VC Tryz.prog w0 [] zpl (kE 0 (fun e L=>Stop (j<ps.length∧yV (g.E2 j) e∧Ref w0 [] L (g.H2 cls (kY ps ss j) Ds))) (fun e L=>Stop (j=ps.length∧yV (g.E2 j) e∧Ref w0 [] L (g.H2 cls (kY ps ss j) Ds)))) e L) zvV hA hR ?_ ?_
 ·rw [hg]
  (repeat' ((conv=>whnf);first|(refine zd (fun h=>?_) (fun h=>?_)<;>try (exfalso;omega))|(refine zc (fun h=>?_) (fun h=>?_)<;>try (exfalso;omega))|(refine za (fun h=>?_) (fun h=>?_)<;>(try simp only [zqa,zqb,zqc,zqd,zqe,zqf,zqg] at h))|refine pay ?_|intro _));(all_goals (conv=>whnf))
  ·exact ⟨⟨by dsimp only at *;omega,by (repeat ((conv=>whnf);refine vS ?_));exact trivial,Ref.refl _⟩⟩
  ·exact ⟨⟨by dsimp only at *;omega,by (repeat ((conv=>whnf);refine vS ?_));exact trivial,Ref.refl _⟩⟩
 clear hA hR a w
 rintro e a L w hA hR hG5
 refine znL zuB hA hR hG5 ?_ ?_
 ·clear hA hR hG5 e a L w
  rintro e a L w hA hR ⟨hlt,hs,hr⟩
  obtain ⟨p,hp⟩:∃ p,ps[j]?=some p:=⟨_,List.getElem?_eq_getElem hlt⟩
  refine wp_seq (wp_block (zr5 g j p ss cls (kY ps ss j) Ds gsn hl gsa hC.len (by rw [znN,gps]) (by rw [gps];exact hp) (by rw [gps];exact hp2) (by rw [znO _ _ _ _ hlt,if_neg (Nat.lt_irrefl _)]) (zK hA hs) (hr _ hR) ?_))
  clear hA hR hs hr e a L w
  intro D a w hA hR
  rw [zr4 ss hp] at hR
  refine wpK (K:=kN fun e L=>Stop (yV (g.E2 (j+1)) e∧Ref w0 [] L (g.H2 (qX p j cls 256) (kY ps ss (j+1)) (D::Ds)))) zuE hA hR (by rw [hg];(repeat' ((conv=>whnf);first|(refine zd (fun h=>?_) (fun h=>?_)<;>try (exfalso;omega))|(refine zc (fun h=>?_) (fun h=>?_)<;>try (exfalso;omega))|(refine za (fun h=>?_) (fun h=>?_)<;>(try simp only [zqa,zqb,zqc,zqd,zqe,zqf,zqg] at h))|refine pay ?_|intro _));(all_goals (conv=>whnf));exact ⟨⟨by (repeat ((conv=>whnf);refine vS ?_));exact trivial,Ref.refl _⟩⟩) ?_
  rintro x a w e L hA hR hk
  cases x with
  | normal=>obtain ⟨hs,hr⟩:=hk;exact ⟨ps.length - (j+1),by omega,j+1,_,D::Ds,by omega,rfl,hC.next hP hp,zK hA hs,hr _ hR⟩
  | _=>exact hk.elim
 ·clear hA hR hG5 e a L w
  rintro e a L w hA hR ⟨hje,hs,hr⟩
  subst hje
  replace hA:=zK hA hs
  replace hR:=hr _ hR
  clear hs hr
  refine wpK (K:=fun x e L=>match x with
   | .ret=>Stop (yV [(2,.ptr 2 b2 0),(3,.sl 818 aa ps.length ac)] e∧Ref w0 [] L [msE Ds,.box 2 b2 g.M zg,.own 801 ca 256 cc zj 1 (enL cls),.own 818 aa ps.length ac qd 1 (ulL (kY ps ss ps.length))])
   | _=>False) zv5 hA hR (by rw [hg];(repeat' ((conv=>whnf);first|(refine zd (fun h=>?_) (fun h=>?_)<;>try (exfalso;omega))|(refine zc (fun h=>?_) (fun h=>?_)<;>try (exfalso;omega))|(refine za (fun h=>?_) (fun h=>?_)<;>(try simp only [zqa,zqb,zqc,zqd,zqe,zqf,zqg] at h))|refine pay ?_|intro _));(all_goals (conv=>whnf));exact ⟨⟨by (repeat ((conv=>whnf);refine vS ?_));exact trivial,Ref.takes [9003,2,801,818] rfl (Thin.refl _)⟩⟩) ?_
  rintro x a w e L hA hR hk
  cases x with
  | ret =>
    obtain ⟨hs,hr⟩:=hk
    refine zrS (e:=[(2,.ptr 2 b2 0),(3,.sl 818 aa ps.length ac)]) (K:=fun v L'=>∃ L1,Ref w0 [] L' L1∧clQ ss v L1) hrs (zK hA hs) (znM (hr _ hR)) ?_
    rw [hg]
    (repeat' ((conv=>whnf);first|(refine zd (fun h=>?_) (fun h=>?_)<;>try (exfalso;omega))|(refine zc (fun h=>?_) (fun h=>?_)<;>try (exfalso;omega))|(refine za (fun h=>?_) (fun h=>?_)<;>(try simp only [zqa,zqb,zqc,zqd,zqe,zqf,zqg] at h))|refine pay ?_|intro _));(all_goals (conv=>whnf))
    exact ⟨⟨_,Ref.takes [801,818] rfl (Thin.refl _),ps,cls,ca,cc,aa,ac,rfl,rfl,hP,hH,hC⟩⟩
  | _=>exact hk.elim
end Go.Proofs.YtjmlialibdobpaaGreatDoor
namespace Go.Proofs.YtjmlialibdobpaaGreatDoor
open Go.EG
set_option linter.unusedSimpArgs false
set_option linter.unusedVariables false
theorem zgc {x:Nat} (h0:0<x) (h:x<18446744073709551616) (i:Nat):(x&&&(x - 1)).testBit i=(x.testBit i&&decide (i≠Lib.ctz 64 x)):=by
 have hc:Lib.ctz 64 x=Lib.ctzFrom 64 x:=by unfold Lib.ctz;rw [if_neg (by omega)]
 obtain ⟨m,hm,hk⟩:=Lib.ctzFrom_spec 64 x h0 h
 rw [hc]
 generalize Lib.ctzFrom 64 x=k at *
 have hp:0<2 ^ k:=Nat.pow_pos (by decide)
 have e1:x=2 ^ k*(2*m+1)+0:=by omega
 have e2:x - 1=2 ^ k*(2*m)+(2 ^ k - 1):=by
  rw [hm,Nat.mul_add,Nat.mul_one];omega
 rw [Nat.testBit_and,e2]
 have b1:x.testBit i=if i<k then (0:Nat).testBit i else (2*m+1).testBit (i - k):=by
  conv=>lhs;rw [e1]
  exact Nat.testBit_two_pow_mul_add _ hp _
 have b2:(2 ^ k*(2*m)+(2 ^ k - 1)).testBit i=if i<k then (2 ^ k - 1).testBit i else (2*m).testBit (i - k):=Nat.testBit_two_pow_mul_add _ (by omega) _
 rw [b1,b2]
 by_cases hi:i<k
 ·simp [hi]
 ·rw [if_neg hi,if_neg hi]
  by_cases he:i=k
  ·subst he;simp
  ·obtain ⟨j,hj⟩:∃ j,i - k=j+1:=⟨i - k - 1,by omega⟩
   rw [hj,Nat.testBit_succ,Nat.testBit_succ,show (2*m+1)/2=m by omega,show 2*m/2=m by omega]
   simp [he]
theorem zgw {x:Nat} (h0:0<x) (h:x<18446744073709551616):x.testBit (Lib.ctz 64 x)=true:=by
 have hc:Lib.ctz 64 x=Lib.ctzFrom 64 x:=by unfold Lib.ctz;rw [if_neg (by omega)]
 obtain ⟨m,hm,hk⟩:=Lib.ctzFrom_spec 64 x h0 h
 rw [hc]
 generalize Lib.ctzFrom 64 x=k at *
 have hp:0<2 ^ k:=Nat.pow_pos (by decide)
 have e1:x=2 ^ k*(2*m+1)+0:=by omega
 rw [e1,Nat.testBit_two_pow_mul_add _ hp,if_neg (Nat.lt_irrefl _)]
 simp
theorem znP {x i n:Nat} (h:x<2 ^ n) (hb:x.testBit i=true):i<n:=by
 rcases Nat.lt_or_ge i n with h1|h1
 ·exact h1
 ·rw [Nat.testBit_lt_two_pow (Nat.lt_of_lt_of_le h (Nat.pow_le_pow_right (by decide) h1))] at hb;cases hb
def vJ (fol:List Nat) (fr to:Nat):List Nat:=(List.range fol.length).map fun i=>if fr.testBit i=true then fol.getD i 0|||to else fol.getD i 0
theorem v6 (fol:List Nat) (fr to:Nat):(vJ fol fr to).length=fol.length:=by simp [vJ]
theorem zc3 (fol:List Nat) (fr to i:Nat) (h:i<fol.length):(vJ fol fr to).getD i 0=if fr.testBit i=true then fol.getD i 0|||to else fol.getD i 0:=by
 simp [vJ,List.getD_eq_getElem?_getD,h]
theorem zif {a b:List Nat} (hl:a.length=b.length) (h:∀ i,i<a.length→a.getD i 0=b.getD i 0):a=b:=by
 refine List.ext_getElem hl fun i h1 h2=>?_
 have:=h i h1
 rwa [List.getD_eq_getElem?_getD,List.getD_eq_getElem?_getD,List.getElem?_eq_getElem h1,List.getElem?_eq_getElem h2] at this
theorem zjE (fol:List Nat) (to:Nat):vJ fol 0 to=fol :=
 zif (v6 ..) fun i h=>by rw [zc3 _ _ _ _ (by rwa [v6] at h)];simp
theorem zqk {fol:List Nat} {x to:Nat} (h0:0<x) (h:x<18446744073709551616) (hk:Lib.ctz 64 x<fol.length):vJ (fol.set (Lib.ctz 64 x) (fol.getD (Lib.ctz 64 x) 0|||to)) (x&&&(x - 1)) to=vJ fol x to:=by
 refine zif (by simp [v6]) fun i hi=>?_
 have hi2:i<fol.length:=by simpa [v6] using hi
 rw [zc3 _ _ _ _ (by simpa using hi2),zc3 _ _ _ _ hi2,zgc h0 h]
 by_cases he:i=Lib.ctz 64 x
 ·rw [List.getD_eq_getElem?_getD,he,List.getElem?_set_self hk,zgw h0 h]
  simp
 ·rw [List.getD_eq_getElem?_getD,List.getElem?_set_ne (fun h=>he h.symm),←List.getD_eq_getElem?_getD]
  simp [he]
def zkL (fol:List Nat) (s:Nat):Nat→Nat
 | 0=>0
 | n+1=>if s.testBit n=true then zkL fol s n|||fol.getD n 0 else zkL fol s n
def aft (fol:List Nat) (s:Nat):Nat:=zkL fol s fol.length
theorem znQ (fol:List Nat) (s j:Nat):∀ n,(zkL fol s n).testBit j=true↔∃ i,i<n∧s.testBit i=true∧(fol.getD i 0).testBit j=true
 | 0=>by simp [zkL]
 | n + 1 => by
   have ih:=znQ fol s j n
   unfold zkL
   split
   ·rename_i hs
    rw [Nat.testBit_or,Bool.or_eq_true,ih]
    constructor
    ·rintro (⟨i,h1,h2,h3⟩|h)
     ·exact ⟨i,by omega,h2,h3⟩
     ·exact ⟨n,by omega,hs,h⟩
    ·rintro ⟨i,h1,h2,h3⟩
     by_cases he:i=n
     ·subst he;exact .inr h3
     ·exact .inl ⟨i,by omega,h2,h3⟩
   ·rename_i hs
    rw [ih]
    constructor
    ·rintro ⟨i,h1,h2,h3⟩;exact ⟨i,by omega,h2,h3⟩
    ·rintro ⟨i,h1,h2,h3⟩
     have:i≠n:=fun he=>hs (he ▸ h2)
     exact ⟨i,by omega,h2,h3⟩
theorem zd8 (fol:List Nat) (s j:Nat):(aft fol s).testBit j=true↔∃ i,i<fol.length∧s.testBit i=true∧(fol.getD i 0).testBit j=true:=znQ ..
theorem znR (fol:List Nat):aft fol 0=0:=by
 refine Nat.eq_of_testBit_eq fun j=>?_
 rw [Nat.zero_testBit,Bool.eq_false_iff]
 intro h
 obtain ⟨i,_,h2,_⟩:=(zd8 ..).1 h
 simp at h2
theorem ztB {fol:List Nat} {x:Nat} (h0:0<x) (h:x<18446744073709551616) (hk:Lib.ctz 64 x<fol.length):fol.getD (Lib.ctz 64 x) 0|||aft fol (x&&&(x - 1))=aft fol x:=by
 refine Nat.eq_of_testBit_eq fun j=>?_
 rw [Bool.eq_iff_iff,Nat.testBit_or,Bool.or_eq_true,zd8,zd8]
 constructor
 ·rintro (hb|⟨i,h1,h2,h3⟩)
  ·exact ⟨_,hk,zgw h0 h,hb⟩
  ·rw [zgc h0 h,Bool.and_eq_true] at h2
   exact ⟨i,h1,h2.1,h3⟩
 ·rintro ⟨i,h1,h2,h3⟩
  by_cases he:i=Lib.ctz 64 x
  ·subst he;exact .inl h3
  ·exact .inr ⟨i,h1,by rw [zgc h0 h,h2];simp [he],h3⟩
theorem zwo {fol:List Nat} {s n:Nat} (h:∀ x∈fol,x<2 ^ n):aft fol s<2 ^ n:=by
 refine Nat.lt_pow_two_of_testBit _ fun j hj=>?_
 rw [Bool.eq_false_iff]
 intro hb
 obtain ⟨i,h1,_,h3⟩:=(zd8 ..).1 hb
 have:=znP (h _ (zI h1)) h3
 omega
inductive RT where
 | mk (k:Nat) (s:Ls) (mn mx:Int) (ps:List RT) (a:Option Addr) (c:Nat)
def RT.cells:RT→List Value
 | .mk k s mn mx ps a c=>[.int .i64 (k:Int),.int .u64 (s.a:Int),.int .u64 (s.b:Int),.int .u64 (s.c:Int),.int .u64 (s.d:Int),.int .i64 mn,.int .i64 mx,.slice a ps.length c]
abbrev RT.v (r:RT):Value:=.agg r.cells.toArray
def rtL (ps:List RT):List Value:=ps.flatMap RT.cells
theorem RT.cells_len:∀ r:RT,r.cells.length=8
 | .mk ..=>rfl
theorem zaq:∀ ps:List RT,(rtL ps).length=ps.length*8
 | []=>rfl
 | p :: ps => by
   have ih:=zaq ps
   have e:rtL (p::ps)=p.cells++rtL ps:=rfl
   rw [e,List.length_append,ih,RT.cells_len,List.length_cons];omega
theorem zig:∀ {ps:List RT} {i:Nat} {p:RT},ps[i]?=some p→((rtL ps).drop (i*8)).take 8=p.cells
 | [],i,p,h=>by simp at h
 | t :: ps, 0, p, h => by
   simp only [List.getElem?_cons_zero,Option.some.injEq] at h
   subst h
   have e:rtL (t::ps)=t.cells++rtL ps:=rfl
   rw [e,Nat.zero_mul,List.drop_zero]
   have:=RT.cells_len t
   rw [←this];exact List.take_left
 | t :: ps, i + 1, p, h => by
   simp only [List.getElem?_cons_succ] at h
   have ih:=zig h
   have e:rtL (t::ps)=t.cells++rtL ps:=rfl
   rw [e,show (i+1)*8=t.cells.length+i*8 by rw [RT.cells_len];omega,←List.drop_drop,List.drop_left]
   exact ih
theorem zjF (l l':List RT):rtL (l++l')=rtL l++rtL l':=List.flatMap_append ..
mutual
def RT.size:RT→Nat
 | .mk _ _ _ _ ps _ _=>RT.sizes ps+1
def RT.sizes:List RT→Nat
 | []=>0
 | p::ps=>p.size+RT.sizes ps
end
mutual
def RT.pos:RT→Nat
 | .mk k _ _ _ ps _ _=>(if k=2 then 1 else 0)+RT.poss ps
def RT.poss:List RT→Nat
 | []=>0
 | p::ps=>p.pos+RT.poss ps
end
mutual
def RT.rows:RT→List (Option Addr × List Value)
 | .mk _ _ _ _ ps a _=>(a,rtL ps)::RT.rowss ps
def RT.rowss:List RT→List (Option Addr × List Value)
 | []=>[]
 | p::ps=>p.rows++RT.rowss ps
end
mutual
def RT.Pl:RT→Prop
 | .mk k _ _ _ ps _ _=>k≠5∧RT.Pls ps
def RT.Pls:List RT→Prop
 | []=>True
 | p::ps=>p.Pl∧RT.Pls ps
end
theorem RT.Pl_mem {p:RT}:∀ {ps:List RT},RT.Pls ps→p∈ps→p.Pl
 | q :: ps, h, hp => by
   rw [RT.Pls] at h
   rcases List.mem_cons.1 hp with rfl|hp
   ·exact h.1
   ·exact RT.Pl_mem h.2 hp
theorem RT.len_sizes:∀ ps:List RT,ps.length≤RT.sizes ps
 | []=>Nat.le_refl _
 | .mk k s mn mx qs a c :: ps => by
   have:=RT.len_sizes ps
   rw [RT.sizes,RT.size,List.length_cons];omega
theorem RT.size_mem {p:RT}:∀ {ps:List RT},p∈ps→p.size≤RT.sizes ps
 | q :: ps, h => by
   rw [RT.sizes]
   rcases List.mem_cons.1 h with rfl|h
   ·omega
   ·have:=RT.size_mem h;omega
theorem RT.rows_mem {p:RT} {x:Option Addr × List Value} (hx:x∈p.rows):∀ {ps:List RT},p∈ps→x∈RT.rowss ps
 | q :: ps, h => by
   rw [RT.rowss]
   rcases List.mem_cons.1 h with rfl|h
   ·exact List.mem_append_left _ hx
   ·exact List.mem_append_right _ (RT.rows_mem hx h)
def RIn (w:World) (fp:List Nat) (r:RT):Prop:=∀ x∈r.rows,In w fp x.1 x.2
theorem RIn.castL {w0 w:World} {fp0:List Nat} {L0 Lr:List Ent} {r:RT} (h:RIn w0 fp0 r) (hR:R w0 fp0 (L0++Lr) w):RIn w (fps L0) r:=fun x hx=>(h x hx).castL hR
theorem RIn.row {w:World} {fp:List Nat} {k:Nat} {s:Ls} {mn mx:Int} {ps:List RT} {a:Option Addr} {c:Nat} (h:RIn w fp (.mk k s mn mx ps a c)):In w fp a (rtL ps):=h _ (by rw [RT.rows];exact List.mem_cons_self)
theorem RIn.rdp {w:World} {fp:List Nat} {L:List Ent} {k:Nat} {s:Ls} {mn mx:Int} {ps:List RT} {a:Option Addr} {c i:Nat} {p:RT} (h:RIn w fp (.mk k s mn mx ps a c)) (hp:ps[i]?=some p):Rd w fp L (.el a (i*8)) p.cells :=
 h.row.rdn (vs:=p.cells) (by rw [RT.cells_len];decide) (by rw [RT.cells_len];exact zig hp)
theorem RIn.kid {w:World} {fp:List Nat} {k:Nat} {s:Ls} {mn mx:Int} {ps:List RT} {a:Option Addr} {c:Nat} {p:RT} (h:RIn w fp (.mk k s mn mx ps a c)) (hp:p∈ps):RIn w fp p:=fun x hx=>h x (by rw [RT.rows];exact List.mem_cons_of_mem _ (RT.rows_mem hx hp))
structure Pz where
 nl:Bool
 fs:Nat
 lt:Nat
abbrev Pz.cells (p:Pz):List Value:=[.bool p.nl,.int .u64 (p.fs:Int),.int .u64 (p.lt:Int)]
abbrev Pz.v (p:Pz):Value:=.agg p.cells.toArray
abbrev WS:Type:=List Ls × List Nat
def zar (fol:List Nat) (a b:Pz):List Nat × Pz:=(vJ fol a.lt b.fs,⟨a.nl&&b.nl,if a.nl=true then a.fs|||b.fs else a.fs,if b.nl=true then b.lt|||a.lt else b.lt⟩)
def zih (a b:Pz):Pz:=⟨a.nl||b.nl,a.fs|||b.fs,a.lt|||b.lt⟩
mutual
def RT.wr:RT→WS→WS × Pz
 | .mk k s _ _ ps _ _,st=>if k=2 then ((st.1++[s],st.2++[0]),⟨false,2 ^ st.1.length,2 ^ st.1.length⟩) else
  if k=3 then RT.wrS ps ⟨true,0,0⟩ st else if k=4 then RT.wrA ps ⟨false,0,0⟩ st else (st,⟨true,0,0⟩)
def RT.wrS:List RT→Pz→WS→WS × Pz
 | [],a,st=>(st,a)
 | p::ps,a,st=>RT.wrS ps (zar (p.wr st).1.2 a (p.wr st).2).2 ((p.wr st).1.1,(zar (p.wr st).1.2 a (p.wr st).2).1)
def RT.wrA:List RT→Pz→WS→WS × Pz
 | [],a,st=>(st,a)
 | p::ps,a,st=>RT.wrA ps (zih a (p.wr st).2) (p.wr st).1
end
structure WOk (st:WS):Prop where
 len:st.2.length=st.1.length
 lt:∀ x∈st.2,x<18446744073709551616
def PzOk (n:Nat) (p:Pz):Prop:=p.fs<2 ^ n∧p.lt<2 ^ n
theorem PzOk.mono {n m:Nat} {p:Pz} (h:PzOk n p) (hm:n≤m):PzOk m p :=
 ⟨Nat.lt_of_lt_of_le h.1 (Nat.pow_le_pow_right (by decide) hm),Nat.lt_of_lt_of_le h.2 (Nat.pow_le_pow_right (by decide) hm)⟩
theorem PzOk.zero (n:Nat) (b:Bool):PzOk n ⟨b,0,0⟩:=⟨Nat.pow_pos (by decide),Nat.pow_pos (by decide)⟩
theorem zl6 {a b n:Nat} (h:a<2 ^ n) (k:b<2 ^ n):a|||b<2 ^ n:=Nat.or_lt_two_pow h k
theorem ztC {fol:List Nat} {fr to:Nat} (h:∀ x∈fol,x<18446744073709551616) (ht:to<18446744073709551616):∀ x∈vJ fol fr to,x<18446744073709551616:=by
 intro x hx
 obtain ⟨i,hi,rfl⟩:=List.mem_map.1 hx
 have hi:=List.mem_range.1 hi
 have h1:fol.getD i 0<18446744073709551616:=h _ (zI hi)
 split
 ·exact Nat.or_lt_two_pow (n:=64) h1 ht
 ·exact h1
theorem zpm {st:WS} {n:Nat} {a b:Pz} (hw:WOk st) (hn:n≤64) (ha:PzOk n a) (hb:PzOk n b):WOk (st.1,(zar st.2 a b).1)∧PzOk n (zar st.2 a b).2:=by
 have h2:b.fs<18446744073709551616:=Nat.lt_of_lt_of_le hb.1 (Nat.pow_le_pow_right (n:=2) (j:=64) (by decide) hn)
 refine ⟨⟨by simp only [zar];rw [v6];exact hw.len,ztC hw.lt h2⟩,?_,?_⟩
 ·simp only [zar];split
  ·exact zl6 ha.1 hb.1
  ·exact ha.1
 ·simp only [zar];split
  ·exact zl6 hb.2 ha.2
  ·exact hb.2
theorem zpn {n:Nat} {a b:Pz} (ha:PzOk n a) (hb:PzOk n b):PzOk n (zih a b):=⟨zl6 ha.1 hb.1,zl6 ha.2 hb.2⟩
mutual
theorem RT.wr_ok:∀ (r:RT) (st:WS),WOk st→st.1.length+r.pos≤64→WOk (r.wr st).1∧PzOk (r.wr st).1.1.length (r.wr st).2∧(r.wr st).1.1.length≤st.1.length+r.pos∧st.1.length≤(r.wr st).1.1.length
 | .mk k s mn mx ps a c, st, hw, hl => by
   rw [RT.pos] at hl ⊢
   rw [RT.wr]
   by_cases h2:k=2
   ·rw [if_pos h2] at hl ⊢
    rw [if_pos h2]
    have hp:2 ^ st.1.length<2 ^ (st.1.length+1):=Nat.pow_lt_pow_right (by decide) (Nat.lt_succ_self _)
    refine ⟨⟨by simp [hw.len],fun x hx=>?_⟩,⟨by simpa using hp,by simpa using hp⟩,by simp,by simp⟩
    rcases List.mem_append.1 hx with hx|hx
    ·exact hw.lt x hx
    ·rw [List.mem_singleton.1 hx];decide
   ·rw [if_neg h2] at hl ⊢
    rw [if_neg h2]
    rw [Nat.zero_add] at hl ⊢
    by_cases h3:k=3
    ·rw [if_pos h3];exact RT.wrS_ok ps ⟨true,0,0⟩ st hw (PzOk.zero ..) hl
    ·rw [if_neg h3]
     by_cases h4:k=4
     ·rw [if_pos h4];exact RT.wrA_ok ps ⟨false,0,0⟩ st hw (PzOk.zero ..) hl
     ·rw [if_neg h4];exact ⟨hw,PzOk.zero ..,by dsimp only;omega,by dsimp only;omega⟩
theorem RT.wrS_ok:∀ (ps:List RT) (a:Pz) (st:WS),WOk st→PzOk st.1.length a→st.1.length+RT.poss ps≤64→WOk (RT.wrS ps a st).1∧PzOk (RT.wrS ps a st).1.1.length (RT.wrS ps a st).2∧(RT.wrS ps a st).1.1.length≤st.1.length+RT.poss ps∧st.1.length≤(RT.wrS ps a st).1.1.length
 | [],a,st,hw,ha,hl=>⟨hw,ha,by simp [RT.wrS],by simp [RT.wrS]⟩
 | p :: ps, a, st, hw, ha, hl => by
   rw [RT.poss] at hl ⊢
   rw [RT.wrS]
   obtain ⟨h1,h2,h3,h4⟩:=RT.wr_ok p st hw (by omega)
   obtain ⟨k1,k2⟩:=zpm h1 (by omega) (ha.mono h4) h2
   obtain ⟨q1,q2,q3,q4⟩:=RT.wrS_ok ps _ _ k1 k2 (by dsimp only;omega)
   dsimp only at q3 q4
   exact ⟨q1,q2,by omega,by omega⟩
theorem RT.wrA_ok:∀ (ps:List RT) (a:Pz) (st:WS),WOk st→PzOk st.1.length a→st.1.length+RT.poss ps≤64→WOk (RT.wrA ps a st).1∧PzOk (RT.wrA ps a st).1.1.length (RT.wrA ps a st).2∧(RT.wrA ps a st).1.1.length≤st.1.length+RT.poss ps∧st.1.length≤(RT.wrA ps a st).1.1.length
 | [],a,st,hw,ha,hl=>⟨hw,ha,by simp [RT.wrA],by simp [RT.wrA]⟩
 | p :: ps, a, st, hw, ha, hl => by
   rw [RT.poss] at hl ⊢
   rw [RT.wrA]
   obtain ⟨h1,h2,h3,h4⟩:=RT.wr_ok p st hw (by omega)
   obtain ⟨q1,q2,q3,q4⟩:=RT.wrA_ok ps _ _ h1 (zpn (ha.mono h4) h2) (by omega)
   exact ⟨q1,q2,by omega,by omega⟩
end
end Go.Proofs.YtjmlialibdobpaaGreatDoor
namespace Go.Proofs.YtjmlialibdobpaaGreatDoor
open Go.EG
attribute [local irreducible] zP yj Go.Calls
set_option linter.unusedSimpArgs false
set_option linter.unusedVariables false
set_option maxRecDepth 20000
set_option maxHeartbeats 4000000
abbrev zkM (w:World) (fp:List Nat):Prop:=In w fp (some ⟨0,0,none⟩) (zo .u8 tabI)
abbrev wL (b:Nat) (st:WS) (sa:Option Addr) (sc:Nat) (fa:Option Addr) (fc:Nat):List Ent :=
 [.box 7000 b [.slice sa st.1.length sc,.slice fa st.2.length fc] xx,.own 7001 sa st.1.length sc zh 4 (lsL st.1),.own 7002 fa st.2.length fc qd 1 (ulL st.2)]
theorem zt0 {l:List Nat} (h:∀ x∈l,x<18446744073709551616) {i:Nat}:(0:Int)≤((l.getD i 0:Nat):Int)∧((l.getD i 0:Nat):Int)≤18446744073709551615:=by
 by_cases hi:i<l.length
 ·have:=h _ (zI (d:=0) hi)
  omega
 ·rw [List.getD_eq_getElem?_getD,List.getElem?_eq_none (by omega)];decide
theorem zpo {x:Nat} (h0:0<x) (h:x<18446744073709551616):(((x:Nat):Int) - 1)%18446744073709551616=((x - 1:Nat):Int):=by omega
structure LkG where
 x:Nat
 fol:List Nat
theorem zql (b:Nat) (st:WS) (sa:Option Addr) (sc:Nat) (fa:Option Addr) (fc:Nat) (fr to:Nat) (hw:WOk st) (hl:st.1.length≤64) (hfr:fr<2 ^ st.1.length) (hto:to<18446744073709551616) (fp:List Nat) (w:World) (hG:zkM w fp) (hR:R w fp (wL b st sa sc fa fc) w) :
 Calls Tryz.prog xS #[pS b,.int .u64 (fr:Int),.int .u64 (to:Int)] w fun e w'=>∃ v L1,e=.returned v∧R w fp L1 w'∧(v=.tuple #[]∧L1=wL b (st.1,vJ st.2 fr to) sa sc fa fc):=by
 refine zz [.ptr 7000 b 0,.v (.int .u64 (fr:Int)),.v (.int .u64 (to:Int))] zct (by simp) hR ?_
 have hfl:=hw.len
 (repeat' ((conv=>whnf);first|(refine zd (fun h=>?_) (fun h=>?_)<;>try (exfalso;omega))|(refine zc (fun h=>?_) (fun h=>?_)<;>try (exfalso;omega))|(refine za (fun h=>?_) (fun h=>?_)<;>(try simp only [zqa,zqb,zqc,zqd,zqe,zqf,zqg] at h))|refine pay ?_|intro _));(all_goals (conv=>whnf))
 refine zu LkG (fun g=>[(0,.ptr 7000 b 0),(1,.v (.int .u64 (g.x:Int))),(2,.v (.int .u64 (to:Int)))]) (fun g=>wL b (st.1,g.fol) sa sc fa fc)
  (fun g=>g.fol.length=st.1.length∧g.x<2 ^ st.1.length∧vJ g.fol g.x to=vJ st.2 fr to∧∀ y∈g.fol,y<18446744073709551616) (fun g=>g.x) ⟨fr,st.2⟩ ⟨hfl,hfr,rfl,hw.lt⟩ (by (repeat ((conv=>whnf);refine vS ?_));exact trivial) (Ref.takes [7000,7001,7002] rfl (Thin.refl _)) ?_
 rintro ⟨x,fol⟩ ⟨h1,h2,h3,h4⟩
 dsimp only at h1 h2 h3 h4 ⊢
 have h264:(2:Nat) ^ st.1.length≤2 ^ 64:=Nat.pow_le_pow_right (by decide) hl
 have hx64:x<18446744073709551616:=Nat.lt_of_lt_of_le h2 h264
 by_cases h0:x=0
 ·subst h0
  (repeat' ((conv=>whnf);first|(refine zd (fun h=>?_) (fun h=>?_)<;>try (exfalso;omega))|(refine zc (fun h=>?_) (fun h=>?_)<;>try (exfalso;omega))|(refine za (fun h=>?_) (fun h=>?_)<;>(try simp only [zqa,zqb,zqc,zqd,zqe,zqf,zqg] at h))|refine pay ?_|intro _));(all_goals (conv=>whnf))
  all_goals try (exfalso;omega)
  rw [zjE] at h3
  exact ⟨⟨_,Ref.takes [7000,7001,7002] rfl (Thin.refl _),rfl,by rw [←h3]⟩⟩
 ·have hpos:0<x:=by omega
  have hk:Lib.ctz 64 x<fol.length:=by rw [h1];exact znP h2 (zgw hpos hx64)
  have hst:=zqk (to:=to) hpos hx64 hk
  have hlt:x&&&(x - 1)<x:=Nat.lt_of_le_of_lt Nat.and_le_right (by omega)
  have cT:=fun (W:World) (L':List Ent) (hR:R w fp L' W)=>zic x hpos hx64 W (hG.cast hR (fun _ h=>by cases h))
  generalize Lib.ctz 64 x=k at *
  have q0:((k:Nat):Int).toNat=k:=by omega
  have qx:=zpo hpos hx64
  have hat:=zgb hk
  have hisk:=zd7 hk
  have hin:=zt0 h4 (i:=k)
  have hor:((((fol.getD k 0:Nat):Int).toNat|||((to:Nat):Int).toNat:Nat):Int)=((fol.getD k 0|||to:Nat):Int):=by rw [Int.toNat_natCast,Int.toNat_natCast]
  have hbo:(0:Int)≤((fol.getD k 0:Nat):Int)∧((fol.getD k 0:Nat):Int)≤18446744073709551615∧(0:Int)≤((to:Nat):Int)∧((to:Nat):Int)≤18446744073709551615:=⟨hin.1,hin.2,by omega,by omega⟩
  have hsp:=zjD (l:=fol) (q:=k) (v:=fol.getD k 0|||to) hk
  have hlen:=zgv fol
  have hand:((((x:Nat):Int).toNat&&&((x - 1:Nat):Int).toNat:Nat):Int)=((x&&&(x - 1):Nat):Int):=by rw [Int.toNat_natCast,Int.toNat_natCast]
  (repeat' ((conv=>whnf);first|rw [q0]|rw [qx]|rw [hat]|rw [hor]|rw [hsp]|rw [hand]|refine zm (.v (.int .i64 (k:Int))) (fun w' hR=>cT w' _ hR) ?_|refine ⟨.sl 7002 _ _ _,⟨rfl,rfl,rfl,rfl⟩,?_⟩|refine ⟨_,⟨rfl,trivial⟩,?_⟩|(refine zd (fun h=>?_) (fun h=>?_)<;>try (exfalso;omega))|(refine zc (fun h=>?_) (fun h=>?_)<;>try (exfalso;omega))|(refine za (fun h=>?_) (fun h=>?_)<;>(try simp only [zqa,zqb,zqc,zqd,zqe,zqf,zqg] at h))|refine pay ?_|refine And.intro (by first|exact hbo|exact ⟨rfl,hisk⟩) ?_|intro _));(all_goals (conv=>whnf))
  all_goals try (exfalso;omega)
  have l1:(fol.set k (fol.getD k 0|||to)).length=fol.length:=List.length_set
  exact zi (⟨x&&&(x - 1),fol.set k (fol.getD k 0|||to)⟩:LkG) ⟨by dsimp only;rw [l1];exact h1,by dsimp only;omega,by dsimp only;rw [hst];exact h3,fun y hy=>by
   rcases List.mem_or_eq_of_mem_set hy with hy|rfl
   ·exact h4 y hy
   ·exact Nat.or_lt_two_pow (n:=64) (h4 _ (zI hk)) hto⟩ hlt (by (repeat ((conv=>whnf);refine vS ?_));exact trivial) (by dsimp only [wL];rw [l1];exact Ref.takes [7000,7001,7002] rfl (Thin.refl _))
structure AfG where
 x:Nat
 acc:Nat
theorem zoF (b:Nat) (st:WS) (sa:Option Addr) (sc:Nat) (fa:Option Addr) (fc:Nat) (fr:Nat) (hw:WOk st) (hl:st.1.length≤64) (hfr:fr<2 ^ st.1.length) (fp:List Nat) (w:World) (hG:zkM w fp) (hR:R w fp (wL b st sa sc fa fc) w) :
 Calls Tryz.prog yE #[pS b,.int .u64 (fr:Int)] w fun e w'=>∃ v L1,e=.returned v∧R w fp L1 w'∧(v=.int .u64 (aft st.2 fr:Nat)∧L1=wL b st sa sc fa fc):=by
 refine zz [.ptr 7000 b 0,.v (.int .u64 (fr:Int))] zbF (by simp) hR ?_
 have hfl:=hw.len
 (repeat' ((conv=>whnf);first|(refine zd (fun h=>?_) (fun h=>?_)<;>try (exfalso;omega))|(refine zc (fun h=>?_) (fun h=>?_)<;>try (exfalso;omega))|(refine za (fun h=>?_) (fun h=>?_)<;>(try simp only [zqa,zqb,zqc,zqd,zqe,zqf,zqg] at h))|refine pay ?_|intro _));(all_goals (conv=>whnf))
 refine zu AfG (fun g=>[(0,.ptr 7000 b 0),(1,.v (.int .u64 (g.x:Int))),(5,.v (.int .u64 (g.acc:Int)))]) (fun g=>wL b st sa sc fa fc)
  (fun g=>g.x<2 ^ st.1.length∧g.acc<18446744073709551616∧g.acc|||aft st.2 g.x=aft st.2 fr) (fun g=>g.x) ⟨fr,0⟩ ⟨hfr,by show 0<18446744073709551616;decide,Nat.zero_or _⟩ (by (repeat ((conv=>whnf);refine vS ?_));exact trivial) (Ref.takes [7000,7001,7002] rfl (Thin.refl _)) ?_
 rintro ⟨x,acc⟩ ⟨h2,h3,h4⟩
 dsimp only at h2 h3 h4 ⊢
 have h264:(2:Nat) ^ st.1.length≤2 ^ 64:=Nat.pow_le_pow_right (by decide) hl
 have hx64:x<18446744073709551616:=Nat.lt_of_lt_of_le h2 h264
 by_cases h0:x=0
 ·subst h0
  (repeat' ((conv=>whnf);first|(refine zd (fun h=>?_) (fun h=>?_)<;>try (exfalso;omega))|(refine zc (fun h=>?_) (fun h=>?_)<;>try (exfalso;omega))|(refine za (fun h=>?_) (fun h=>?_)<;>(try simp only [zqa,zqb,zqc,zqd,zqe,zqf,zqg] at h))|refine pay ?_|intro _));(all_goals (conv=>whnf))
  all_goals try (exfalso;omega)
  rw [znR,Nat.or_zero] at h4
  exact ⟨⟨_,Ref.takes [7000,7001,7002] rfl (Thin.refl _),by rw [←h4],rfl⟩⟩
 ·have hpos:0<x:=by omega
  have hk:Lib.ctz 64 x<st.2.length:=by rw [hfl];exact znP h2 (zgw hpos hx64)
  have hst:=ztB hpos hx64 hk
  have hlt:x&&&(x - 1)<x:=Nat.lt_of_le_of_lt Nat.and_le_right (by omega)
  have cT:=fun (W:World) (L':List Ent) (hR:R w fp L' W)=>zic x hpos hx64 W (hG.cast hR (fun _ h=>by cases h))
  generalize Lib.ctz 64 x=k at *
  have q0:((k:Nat):Int).toNat=k:=by omega
  have qx:=zpo hpos hx64
  have hat:=zgb hk
  have hisk:=zd7 hk
  have hin:=zt0 hw.lt (i:=k)
  have hor:((((acc:Nat):Int).toNat|||((st.2.getD k 0:Nat):Int).toNat:Nat):Int)=((acc|||st.2.getD k 0:Nat):Int):=by rw [Int.toNat_natCast,Int.toNat_natCast]
  have hbo:(0:Int)≤((acc:Nat):Int)∧((acc:Nat):Int)≤18446744073709551615∧(0:Int)≤((st.2.getD k 0:Nat):Int)∧((st.2.getD k 0:Nat):Int)≤18446744073709551615:=⟨by omega,by omega,hin.1,hin.2⟩
  have hlen:=zgv st.2
  have hand:((((x:Nat):Int).toNat&&&((x - 1:Nat):Int).toNat:Nat):Int)=((x&&&(x - 1):Nat):Int):=by rw [Int.toNat_natCast,Int.toNat_natCast]
  have hb64:st.2.getD k 0<18446744073709551616:=hw.lt _ (zI hk)
  (repeat' ((conv=>whnf);first|rw [q0]|rw [qx]|rw [hat]|rw [hor]|rw [hand]|refine zm (.v (.int .i64 (k:Int))) (fun w' hR=>cT w' _ hR) ?_|refine ⟨.sl 7002 _ _ _,⟨rfl,rfl,rfl,rfl⟩,?_⟩|refine ⟨_,⟨rfl,trivial⟩,?_⟩|(refine zd (fun h=>?_) (fun h=>?_)<;>try (exfalso;omega))|(refine zc (fun h=>?_) (fun h=>?_)<;>try (exfalso;omega))|(refine za (fun h=>?_) (fun h=>?_)<;>(try simp only [zqa,zqb,zqc,zqd,zqe,zqf,zqg] at h))|refine pay ?_|refine And.intro (by first|exact hbo|exact ⟨rfl,hisk⟩) ?_|intro _));(all_goals (conv=>whnf))
  all_goals try (exfalso;omega)
  exact zi (⟨x&&&(x - 1),acc|||st.2.getD k 0⟩:AfG) ⟨by dsimp only;omega,Nat.or_lt_two_pow (n:=64) h3 hb64,by dsimp only;rw [Nat.or_assoc,hst];exact h4⟩ hlt (by (repeat ((conv=>whnf);refine vS ?_));exact trivial) (Ref.takes [7000,7001,7002] rfl (Thin.refl _))
def sqQ (b:Nat) (r:WS × Pz) (v:Value) (L1:List Ent):Prop:=∃ sa sc fa fc,v=r.2.v∧L1=wL b r.1 sa sc fa fc
theorem zqm (b:Nat) (st:WS) (sa:Option Addr) (sc:Nat) (fa:Option Addr) (fc:Nat) (x y:Pz) (hw:WOk st) (hl:st.1.length≤64) (hx:PzOk st.1.length x) (hy:PzOk st.1.length y) (fp:List Nat) (w:World) (hG:zkM w fp) (hR:R w fp (wL b st sa sc fa fc) w) :
 Calls Tryz.prog y6 #[pS b,x.v,y.v] w fun e w'=>∃ v L1,e=.returned v∧R w fp L1 w'∧sqQ b ((st.1,(zar st.2 x y).1),(zar st.2 x y).2) v L1:=by
 refine zz [.ptr 7000 b 0,.v x.v,.v y.v] zah (by simp) hR ?_
 have h264:(2:Nat) ^ st.1.length≤2 ^ 64:=Nat.pow_le_pow_right (by decide) hl
 obtain ⟨xn,xf,xl⟩:=x
 obtain ⟨yn,yf,yl⟩:=y
 obtain ⟨hx1,hx2⟩:=hx
 obtain ⟨hy1,hy2⟩:=hy
 dsimp only at hx1 hx2 hy1 hy2
 have cL:=fun (fp':List Nat) (W:World) hR hG=>zql b st sa sc fa fc xl yf hw hl hx2 (Nat.lt_of_lt_of_le hy1 h264) fp' W hG hR
 have o1:((((xf:Nat):Int).toNat|||((yf:Nat):Int).toNat:Nat):Int)=((xf|||yf:Nat):Int):=by rw [Int.toNat_natCast,Int.toNat_natCast]
 have o2:((((yl:Nat):Int).toNat|||((xl:Nat):Int).toNat:Nat):Int)=((yl|||xl:Nat):Int):=by rw [Int.toNat_natCast,Int.toNat_natCast]
 have u1:xf<18446744073709551616:=Nat.lt_of_lt_of_le hx1 h264
 have u2:xl<18446744073709551616:=Nat.lt_of_lt_of_le hx2 h264
 have u3:yf<18446744073709551616:=Nat.lt_of_lt_of_le hy1 h264
 have u4:yl<18446744073709551616:=Nat.lt_of_lt_of_le hy2 h264
 cases xn<;>cases yn
 all_goals
  (repeat' ((conv=>whnf);first|rw [o1]|rw [o2]|(refine zL [7000,7001,7002] rfl (fun w' hR hR0=>cL _ w' hR0 (hG.castL hR)) ?_;rintro _ _ ⟨rfl,rfl⟩;refine ⟨.v _,rfl,?_⟩)|refine ⟨_,⟨rfl,trivial⟩,?_⟩|(refine zd (fun h=>?_) (fun h=>?_)<;>try (exfalso;omega))|(refine zc (fun h=>?_) (fun h=>?_)<;>try (exfalso;omega))|(refine za (fun h=>?_) (fun h=>?_)<;>(try simp only [zqa,zqb,zqc,zqd,zqe,zqf,zqg] at h))|refine pay ?_|refine And.intro (by first|exact ⟨by omega,by omega,by omega,by omega⟩) ?_|intro _));(all_goals (conv=>whnf))
 all_goals exact ⟨⟨_,Ref.takes [7000,7001,7002] rfl (Thin.refl _),sa,sc,fa,fc,rfl,rfl⟩⟩
structure WrG where
 i:Nat
 st:WS
 p:Pz
 sa:Option Addr
 sc:Nat
 fa:Option Addr
 fc:Nat
theorem zhf:∀ (N:Nat),N≤4096→∀ (r:RT),r.size≤N→r.Pl→∀ (b:Nat) (st:WS) (sa:Option Addr) (sc:Nat) (fa:Option Addr) (fc:Nat),WOk st→st.1.length+r.pos≤64→∀ (fp:List Nat) (w:World),zkM w fp→RIn w fp r→R w fp (wL b st sa sc fa fc) w →
 Calls Tryz.prog qi #[pS b,r.v] w fun e w'=>∃ v L1,e=.returned v∧R w fp L1 w'∧sqQ b (r.wr st) v L1
 | 0,_,.mk k s mn mx ps a c,hN=>by rw [RT.size] at hN;omega
 | N + 1, hN4, .mk k s mn mx ps a c, hN => by
   intro hPl b st sa sc fa fc hw hl fp w hG hin hR
   have IH:=zhf N (by omega)
   rw [RT.size] at hN
   have hps:=RT.len_sizes ps
   rw [RT.Pl] at hPl
   obtain ⟨hk5,hPl⟩:=hPl
   rw [RT.pos] at hl
   rw [RT.wr]
   refine zz [.ptr 7000 b 0,.v (RT.v (.mk k s mn mx ps a c))] zuH (by simp) hR ?_
   have hfl:=hw.len
   by_cases h2:k=2
   ·subst h2
    rw [if_pos rfl] at hl
    rw [if_pos rfl]
    have hsh:=ztZ (n:=st.1.length) (by omega)
    have hap:lsL st.1++[.int .u64 (s.a:Int),.int .u64 (s.b:Int),.int .u64 (s.c:Int),.int .u64 (s.d:Int)]=lsL (st.1++[s]):=by rw [ze2];simp [lsL]
    have hap2:ulL st.2++[.int .u64 0]=ulL (st.2++[0]):=by simp [ulL,zo]
    have hbk:0≤((st.1.length:Nat):Int)∧((st.1.length:Nat):Int)≤biK .u64:=⟨by omega,show ((st.1.length:Nat):Int)≤64 by omega⟩
    (repeat' ((conv=>whnf);first|rw [hsh]|rw [hap]|rw [hap2]|refine ⟨.sl 7001 _ _ _,⟨rfl,rfl,rfl,rfl⟩,?_⟩|refine ⟨.sl 7002 _ _ _,⟨rfl,rfl,rfl,rfl⟩,?_⟩|refine ⟨_,⟨rfl,trivial⟩,?_⟩|(refine zd (fun h=>?_) (fun h=>?_)<;>try (exfalso;omega))|(refine zc (fun h=>?_) (fun h=>?_)<;>try (exfalso;omega))|(refine za (fun h=>?_) (fun h=>?_)<;>(try simp only [zqa,zqb,zqc,zqd,zqe,zqf,zqg] at h))|refine pay ?_|refine And.intro (by first|exact hbk) ?_|intro _));(all_goals (conv=>whnf))
    all_goals try (exfalso;omega)
    rename_i b3 b4 b30 a1 c1 b39 a2 c2
    have l1:(st.1++[s]).length=st.1.length+1:=by simp
    have l2:(st.2++[0]).length=st.2.length+1:=by simp
    exact ⟨⟨_,Ref.takes [7000,7001,7002] rfl (Thin.refl _),a1,c1,a2,c2,rfl,by dsimp only [wL];rw [l1,l2]⟩⟩
   ·rw [if_neg h2] at hl ⊢
    rw [Nat.zero_add] at hl
    by_cases h3:k=3
    ·subst h3
     rw [if_pos rfl]
     (repeat' ((conv=>whnf);first|refine ⟨_,⟨rfl,trivial⟩,?_⟩|(refine zd (fun h=>?_) (fun h=>?_)<;>try (exfalso;omega))|(refine zc (fun h=>?_) (fun h=>?_)<;>try (exfalso;omega))|(refine za (fun h=>?_) (fun h=>?_)<;>(try simp only [zqa,zqb,zqc,zqd,zqe,zqf,zqg] at h))|refine pay ?_|intro _));(all_goals (conv=>whnf))
     all_goals try (exfalso;omega)
     rename_i b3 b4 b6
     refine zu WrG (fun g=>[(0,.ptr 7000 b 0),(3,.ptr 3 b3 0),(4,.ptr 4 b4 0),(6,.ptr 6 b6 0),(50,.v (.slice a ps.length c)),(51,.v (.int .i64 (ps.length:Int))),(52,.v (.int .i64 (g.i:Int)))])
      (fun g=>wL b g.st g.sa g.sc g.fa g.fc++[.box 3 b3 (RT.cells (.mk 3 s mn mx ps a c)) zB,.box 4 b4 [.bool false,.int .u64 0,.int .u64 0] zJ,.box 6 b6 g.p.cells zJ])
      (fun g=>g.i≤ps.length∧WOk g.st∧PzOk g.st.1.length g.p∧g.st.1.length+RT.poss (ps.drop g.i)≤64∧RT.wrS (ps.drop g.i) g.p g.st=RT.wrS ps ⟨true,0,0⟩ st) (fun g=>ps.length - g.i)
      ⟨0,st,⟨true,0,0⟩,sa,sc,fa,fc⟩ ⟨Nat.zero_le _,hw,PzOk.zero ..,hl,rfl⟩ (by (repeat ((conv=>whnf);refine vS ?_));exact trivial) (Ref.takes [7000,7001,7002,3,4,6] rfl (Thin.refl _)) ?_
     rintro ⟨i,st',p,sa',sc',fa',fc'⟩ ⟨hi,hw',hp',hl',he⟩
     dsimp only at hi hw' hp' hl' he ⊢
     by_cases hlt:i<ps.length
     ·obtain ⟨q,hq⟩:∃ q,ps[i]?=some q:=⟨_,List.getElem?_eq_getElem hlt⟩
      have hqm:q∈ps:=List.mem_of_getElem? hq
      have hdr:ps.drop i=q::ps.drop (i+1):=by
       obtain ⟨h1,h2⟩:=List.getElem?_eq_some_iff.1 hq
       rw [←h2];exact (List.getElem_cons_drop h1).symm
      rw [hdr,RT.wrS] at he
      rw [hdr,RT.poss] at hl'
      have rdq:=fun {L:List Ent}=>hin.rdp (L:=L) hq
      have hne:a≠none:=hin.row.ne' (k:=i*8) (by rw [zaq];omega)
      have hqs:=RT.size_mem hqm
      obtain ⟨k1,k2,k3,k4⟩:=RT.wr_ok q st' hw' (by omega)
      obtain ⟨j1,j2⟩:=zpm (a:=p) (b:=(q.wr st').2) k1 (by omega) (hp'.mono k4) k2
      have cW:=fun (fp':List Nat) (W:World) hG hI hR=>IH q (by omega) (RT.Pl_mem hPl hqm) b st' sa' sc' fa' fc' hw' (by omega) fp' W hG hI hR
      have hinq:=hin.kid hqm
      obtain ⟨rq,hrq⟩:∃ r,q.wr st'=r:=⟨_,rfl⟩
      rw [hrq] at k1 k2 k3 k4 j1 j2 cW he
      have q0:((i:Nat):Int).toNat=i:=by omega
      obtain ⟨k',s',mn',mx',ps',a',c'⟩:=q
      have cS:=fun (sa2:Option Addr) (sc2:Nat) (fa2:Option Addr) (fc2:Nat) (fp':List Nat) (W:World) hG hR=>zqm b rq.1 sa2 sc2 fa2 fc2 p rq.2 k1 (by omega) (hp'.mono k4) k2 fp' W hG hR
      (repeat' ((conv=>whnf);first|rw [q0]|refine ⟨RT.cells (.mk k' s' mn' mx' ps' a' c'),rfl,rdq,?_⟩|(refine zL [7000,7001,7002] rfl (fun w' hR hR0=>cW _ w' (hG.castL hR) (hinq.castL hR) hR0) ?_;rintro _ _ ⟨sa2,sc2,fa2,fc2,rfl,rfl⟩;refine ⟨.v _,rfl,?_⟩)|(refine zL [7000,7001,7002] rfl (fun w' hR hR0=>cS _ _ _ _ _ w' (hG.castL hR) hR0) ?_;rintro _ _ ⟨sa3,sc3,fa3,fc3,rfl,rfl⟩;refine ⟨.v _,rfl,?_⟩)|refine ⟨_,⟨rfl,trivial⟩,?_⟩|refine zoT _ (Ref.takes [6,8] rfl (Thin.refl _)) ?_|(refine zd (fun h=>?_) (fun h=>?_)<;>try (exfalso;omega))|(refine zc (fun h=>?_) (fun h=>?_)<;>try (exfalso;omega))|(refine za (fun h=>?_) (fun h=>?_)<;>(try simp only [zqa,zqb,zqc,zqd,zqe,zqf,zqg] at h))|refine pay ?_|refine And.intro (by first|exact Ref.takes [6,8] rfl (Thin.refl _)) ?_|intro _));(all_goals (conv=>whnf))
      all_goals try (exfalso;omega)
      exact zi (⟨i+1,(rq.1.1,(zar rq.1.2 p rq.2).1),(zar rq.1.2 p rq.2).2,sa3,sc3,fa3,fc3⟩:WrG) ⟨hlt,j1,j2,by dsimp only;omega,he⟩ (by dsimp only;omega) (by (repeat ((conv=>whnf);refine vS ?_));exact trivial) (Ref.takes [7000,7001,7002,3,4,6] rfl (Thin.refl _))
     ·rw [List.drop_of_length_le (by omega),RT.wrS] at he
      (repeat' ((conv=>whnf);first|refine ⟨_,⟨rfl,trivial⟩,?_⟩|(refine zd (fun h=>?_) (fun h=>?_)<;>try (exfalso;omega))|(refine zc (fun h=>?_) (fun h=>?_)<;>try (exfalso;omega))|(refine za (fun h=>?_) (fun h=>?_)<;>(try simp only [zqa,zqb,zqc,zqd,zqe,zqf,zqg] at h))|refine pay ?_|intro _));(all_goals (conv=>whnf))
      all_goals try (exfalso;omega)
      exact ⟨⟨_,Ref.takes [7000,7001,7002] rfl (Thin.refl _),sa',sc',fa',fc',by rw [←he];rfl,by rw [←he]⟩⟩
    ·rw [if_neg h3]
     by_cases h4:k=4
     ·subst h4
      rw [if_pos rfl]
      (repeat' ((conv=>whnf);first|refine ⟨_,⟨rfl,trivial⟩,?_⟩|(refine zd (fun h=>?_) (fun h=>?_)<;>try (exfalso;omega))|(refine zc (fun h=>?_) (fun h=>?_)<;>try (exfalso;omega))|(refine za (fun h=>?_) (fun h=>?_)<;>(try simp only [zqa,zqb,zqc,zqd,zqe,zqf,zqg] at h))|refine pay ?_|intro _));(all_goals (conv=>whnf))
      all_goals try (exfalso;omega)
      rename_i b3 b4 b9
      refine zu WrG (fun g=>[(0,.ptr 7000 b 0),(3,.ptr 3 b3 0),(4,.ptr 4 b4 0),(9,.ptr 9 b9 0),(67,.v (.slice a ps.length c)),(68,.v (.int .i64 (ps.length:Int))),(69,.v (.int .i64 (g.i:Int)))])
       (fun g=>wL b g.st g.sa g.sc g.fa g.fc++[.box 3 b3 (RT.cells (.mk 4 s mn mx ps a c)) zB,.box 4 b4 [.bool false,.int .u64 0,.int .u64 0] zJ,.box 9 b9 g.p.cells zJ])
       (fun g=>g.i≤ps.length∧WOk g.st∧PzOk g.st.1.length g.p∧g.st.1.length+RT.poss (ps.drop g.i)≤64∧RT.wrA (ps.drop g.i) g.p g.st=RT.wrA ps ⟨false,0,0⟩ st) (fun g=>ps.length - g.i)
       ⟨0,st,⟨false,0,0⟩,sa,sc,fa,fc⟩ ⟨Nat.zero_le _,hw,PzOk.zero ..,hl,rfl⟩ (by (repeat ((conv=>whnf);refine vS ?_));exact trivial) (Ref.takes [7000,7001,7002,3,4,9] rfl (Thin.refl _)) ?_
      rintro ⟨i,st',p,sa',sc',fa',fc'⟩ ⟨hi,hw',hp',hl',he⟩
      dsimp only at hi hw' hp' hl' he ⊢
      by_cases hlt:i<ps.length
      ·obtain ⟨q,hq⟩:∃ q,ps[i]?=some q:=⟨_,List.getElem?_eq_getElem hlt⟩
       have hqm:q∈ps:=List.mem_of_getElem? hq
       have hdr:ps.drop i=q::ps.drop (i+1):=by
        obtain ⟨h1,h2⟩:=List.getElem?_eq_some_iff.1 hq
        rw [←h2];exact (List.getElem_cons_drop h1).symm
       rw [hdr,RT.wrA] at he
       rw [hdr,RT.poss] at hl'
       have rdq:=fun {L:List Ent}=>hin.rdp (L:=L) hq
       have hne:a≠none:=hin.row.ne' (k:=i*8) (by rw [zaq];omega)
       have hqs:=RT.size_mem hqm
       obtain ⟨k1,k2,k3,k4⟩:=RT.wr_ok q st' hw' (by omega)
       have j2:=zpn (hp'.mono k4) k2
       have cW:=fun (fp':List Nat) (W:World) hG hI hR=>IH q (by omega) (RT.Pl_mem hPl hqm) b st' sa' sc' fa' fc' hw' (by omega) fp' W hG hI hR
       have hinq:=hin.kid hqm
       obtain ⟨rq,hrq⟩:∃ r,q.wr st'=r:=⟨_,rfl⟩
       rw [hrq] at k1 k2 k3 k4 j2 cW he
       have q0:((i:Nat):Int).toNat=i:=by omega
       obtain ⟨k',s',mn',mx',ps',a',c'⟩:=q
       obtain ⟨st2,⟨yn,yf,yl⟩⟩:=rq
       obtain ⟨xn,xf,xl⟩:=p
       have h264:(2:Nat) ^ st2.1.length≤2 ^ 64:=Nat.pow_le_pow_right (by decide) (by dsimp only at k3;omega)
       obtain ⟨hx1,hx2⟩:=hp'.mono k4
       obtain ⟨hy1,hy2⟩:=k2
       dsimp only at hx1 hx2 hy1 hy2 k1 k3 k4
       have u1:xf<18446744073709551616:=Nat.lt_of_lt_of_le hx1 h264
       have u2:xl<18446744073709551616:=Nat.lt_of_lt_of_le hx2 h264
       have u3:yf<18446744073709551616:=Nat.lt_of_lt_of_le hy1 h264
       have u4:yl<18446744073709551616:=Nat.lt_of_lt_of_le hy2 h264
       have o1:((((xf:Nat):Int).toNat|||((yf:Nat):Int).toNat:Nat):Int)=((xf|||yf:Nat):Int):=by rw [Int.toNat_natCast,Int.toNat_natCast]
       have o2:((((xl:Nat):Int).toNat|||((yl:Nat):Int).toNat:Nat):Int)=((xl|||yl:Nat):Int):=by rw [Int.toNat_natCast,Int.toNat_natCast]
       cases xn<;>cases yn
       all_goals
        (repeat' ((conv=>whnf);first|rw [q0]|rw [o1]|rw [o2]|refine ⟨RT.cells (.mk k' s' mn' mx' ps' a' c'),rfl,rdq,?_⟩|(refine zL [7000,7001,7002] rfl (fun w' hR hR0=>cW _ w' (hG.castL hR) (hinq.castL hR) hR0) ?_;rintro _ _ ⟨sa2,sc2,fa2,fc2,rfl,rfl⟩;refine ⟨.v _,rfl,?_⟩)|refine ⟨_,⟨rfl,trivial⟩,?_⟩|(refine zd (fun h=>?_) (fun h=>?_)<;>try (exfalso;omega))|(refine zc (fun h=>?_) (fun h=>?_)<;>try (exfalso;omega))|(refine za (fun h=>?_) (fun h=>?_)<;>(try simp only [zqa,zqb,zqc,zqd,zqe,zqf,zqg] at h))|refine pay ?_|refine And.intro (by first|exact ⟨by omega,by omega,by omega,by omega⟩) ?_|intro _));(all_goals (conv=>whnf))
       all_goals try (exfalso;omega)
       all_goals exact zi (⟨i+1,st2,zih _ _,sa2,sc2,fa2,fc2⟩:WrG) ⟨hlt,k1,j2,by dsimp only;omega,he⟩ (by dsimp only;omega) (by (repeat ((conv=>whnf);refine vS ?_));exact trivial) (Ref.takes [7000,7001,7002,3,4,9] rfl (Thin.refl _))
      ·rw [List.drop_of_length_le (by omega),RT.wrA] at he
       (repeat' ((conv=>whnf);first|refine ⟨_,⟨rfl,trivial⟩,?_⟩|(refine zd (fun h=>?_) (fun h=>?_)<;>try (exfalso;omega))|(refine zc (fun h=>?_) (fun h=>?_)<;>try (exfalso;omega))|(refine za (fun h=>?_) (fun h=>?_)<;>(try simp only [zqa,zqb,zqc,zqd,zqe,zqf,zqg] at h))|refine pay ?_|intro _));(all_goals (conv=>whnf))
       all_goals try (exfalso;omega)
       exact ⟨⟨_,Ref.takes [7000,7001,7002] rfl (Thin.refl _),sa',sc',fa',fc',by rw [←he];rfl,by rw [←he]⟩⟩
     ·rw [if_neg h4]
      (repeat' ((conv=>whnf);first|refine ⟨_,⟨rfl,trivial⟩,?_⟩|(refine zd (fun h=>?_) (fun h=>?_)<;>try (exfalso;omega))|(refine zc (fun h=>?_) (fun h=>?_)<;>try (exfalso;omega))|(refine za (fun h=>?_) (fun h=>?_)<;>(try simp only [zqa,zqb,zqc,zqd,zqe,zqf,zqg] at h))|refine pay ?_|intro _));(all_goals (conv=>whnf))
      all_goals try (exfalso;omega)
      exact ⟨⟨_,Ref.takes [7000,7001,7002] rfl (Thin.refl _),sa,sc,fa,fc,rfl,rfl⟩⟩
structure NdIn (w:World) (fp:List Nat) (b off:Nat) (r:RT):Prop where
 cel:In w fp (some ⟨b,off,none⟩) r.cells
 tin:RIn w fp r
abbrev pV (b off:Nat):Value:=.pointer (some ⟨b,off,none⟩)
theorem NdIn.cast {w w':World} {fp fp':List Nat} {L:List Ent} {b off:Nat} {r:RT} (h:NdIn w fp b off r) (hR:R w fp L w') (hf:∀ x∈fp',x∈fps L):NdIn w' fp' b off r:=⟨h.cel.cast hR hf,fun x hx=>(h.tin x hx).cast hR hf⟩
theorem In.sub_row {w:World} {fp:List Nat} {b o n:Nat} {xs ys:List Value} (h:In w fp (some ⟨b,o,none⟩) xs) (hs:(xs.drop n).take ys.length=ys) (hp:0<ys.length):In w fp (some ⟨b,o+n,none⟩) ys:=by
 rcases h with rfl|⟨b',off,he,h1,h2,h3⟩
 ·simp at hs;rw [hs] at hp;simp at hp
 ·simp only [Option.some.injEq,Addr.mk.injEq,and_true] at he
  obtain ⟨rfl,rfl⟩:=he
  refine .inr ⟨b,o+n,rfl,h1,h2,fun j v hv=>?_⟩
  rw [Nat.add_assoc]
  refine h3 (n+j) v ?_
  rw [←hs,List.getElem?_take] at hv
  split at hv
  ·simpa using hv
  ·cases hv
theorem NdIn.kid {w:World} {fp:List Nat} {b off j:Nat} {k:Nat} {s:Ls} {mn mx:Int} {ps:List RT} {a:Option Addr} {c:Nat} {p:RT} (h:NdIn w fp b off (.mk k s mn mx ps a c)) (hp:ps[j]?=some p):∃ b0 o0,a=some ⟨b0,o0,none⟩∧NdIn w fp b0 (o0+j*8) p:=by
 have hrow:=h.tin.row
 have hj:=(List.getElem?_eq_some_iff.1 hp).1
 rcases hrow with h0|⟨b0,o0,rfl,h1,h2,h3⟩
 ·have:=zaq ps
  rw [h0] at this
  simp at this;omega
 ·exact ⟨b0,o0,rfl,In.sub_row (.inr ⟨b0,o0,rfl,h1,h2,h3⟩) (by rw [RT.cells_len];exact zig hp) (by rw [RT.cells_len];decide),h.tin.kid (List.mem_of_getElem? hp)⟩
theorem NdIn.castL {w0 w:World} {fp0:List Nat} {L0 Lr:List Ent} {b off:Nat} {r:RT} (h:NdIn w0 fp0 b off r) (hR:R w0 fp0 (L0++Lr) w):NdIn w (fps L0) b off r:=⟨h.cel.castL hR,h.tin.castL hR⟩
theorem RT.poss_app:∀ (l:List RT) (p:RT),RT.poss (l++[p])=RT.poss l+p.pos
 | [],p=>by simp only [List.nil_append,RT.poss];omega
 | q::l,p=>by rw [List.cons_append,RT.poss,RT.poss,RT.poss_app l p];omega
theorem RT.sizes_app:∀ (l:List RT) (p:RT),RT.sizes (l++[p])=RT.sizes l+p.size
 | [],p=>by simp only [List.nil_append,RT.sizes];omega
 | q::l,p=>by rw [List.cons_append,RT.sizes,RT.sizes,RT.sizes_app l p];omega
theorem RT.sizes_take:∀ (l:List RT) (j:Nat),RT.sizes (l.take j)≤RT.sizes l
 | l,0=>by rw [List.take_zero,RT.sizes];omega
 | [],j+1=>Nat.le_refl _
 | q::l,j+1=>by rw [List.take_succ_cons,RT.sizes,RT.sizes];have:=RT.sizes_take l j;omega
mutual
theorem RT.pos_size:∀ r:RT,r.pos≤r.size
 | .mk k s mn mx ps a c => by
   rw [RT.pos,RT.size]
   have:=RT.poss_sizes ps
   split<;>omega
theorem RT.poss_sizes:∀ ps:List RT,RT.poss ps≤RT.sizes ps
 | []=>Nat.le_refl _
 | p :: ps => by
   rw [RT.poss,RT.sizes]
   have:=RT.pos_size p
   have:=RT.poss_sizes ps
   omega
end
theorem zuN {S:Nat} (h:S≤1000000):min ((S:Int)+1) 1048576=((S+1:Nat):Int):=by omega
theorem ztD {S:Nat} (h:S≤1000000):min (S:Int) 1048576=(S:Int):=by omega
theorem zwp {m m0 S z:Nat} (h:m≤m0+1+S) (hz:z=S+1):m≤m0+z:=by omega
def ndQ (bm:Nat) (m0:Nat) (r:RT) (v:Value) (L1:List Ent):Prop:=∃ (p q:Int) (ok:Bool) (m:Nat),v=.tuple #[.int .i64 p,.int .i64 q,.bool ok]∧(ok=true→p=(r.pos:Int)∧q=(r.size:Int))∧m≤m0+r.size∧L1=[.box 7100 bm [.int .i64 (m:Int)] uh]
structure NdG where
 j:Nat
 m:Nat
theorem zjG:∀ (N:Nat),N≤4096→∀ (r:RT),r.size≤N→r.Pl→∀ (b off bm m0 d:Nat),m0≤1000000→d≤1000000 - N→∀ (fp:List Nat) (w:World),NdIn w fp b off r→R w fp [.box 7100 bm [.int .i64 (m0:Int)] uh] w →
 Calls Tryz.prog qK #[pS bm,pV b off,.int .i64 (d:Int)] w fun e w'=>∃ v L1,e=.returned v∧R w fp L1 w'∧ndQ bm m0 r v L1
 | 0,_,.mk k s mn mx ps a c,hN=>by rw [RT.size] at hN;omega
 | N + 1, hN4, .mk k s mn mx ps a c, hN => by
   intro hPl b off bm m0 d hm0 hd fp w hin hR
   have IH:=zjG N (by omega)
   have hsz:(RT.mk k s mn mx ps a c).size=RT.sizes ps+1:=by rw [RT.size]
   rw [hsz] at hN
   have hps:=RT.len_sizes ps
   rw [RT.Pl] at hPl
   obtain ⟨hk5,hPl⟩:=hPl
   refine zz [.ptr 7100 bm 0,.el (some ⟨b,off,none⟩) 0,.v (.int .i64 (d:Int))] zd3 (by simp) hR ?_
   have rd0:=fun {L:List Ent}=>hin.cel.rd (L:=L) (k:=0) (v:=.int .i64 (k:Int)) rfl
   have rd7:=fun {L:List Ent}=>hin.cel.rd (L:=L) (k:=7) (v:=.slice a ps.length c) rfl
   by_cases hb:256<m0+1∨32<d
   ·(repeat' ((conv=>whnf);first|refine ⟨_,⟨rfl,trivial⟩,?_⟩|(refine zd (fun h=>?_) (fun h=>?_)<;>try (exfalso;omega))|(refine zc (fun h=>?_) (fun h=>?_)<;>try (exfalso;omega))|(refine za (fun h=>?_) (fun h=>?_)<;>(try simp only [zqa,zqb,zqc,zqd,zqe,zqf,zqg] at h))|refine pay ?_|refine And.intro (by first|exact (by simp)) ?_|intro _));(all_goals (conv=>whnf))
    all_goals try (exfalso;omega)
    all_goals exact ⟨⟨_,Ref.takes [7100] rfl (Thin.refl _),0,0,false,m0+1,rfl,(fun h=>by cases h),by rw [hsz];omega,rfl⟩⟩
   ·obtain ⟨p0,hp0,hp1⟩:∃ p0:Nat,p0=(if k=2 then 1 else 0)∧p0≤1:=⟨_,rfl,by split<;>omega⟩
    have hpos:(RT.mk k s mn mx ps a c).pos=p0+RT.poss ps:=by rw [RT.pos,hp0]
    have hq0:p0=1∧k=2∨p0=0∧k≠2:=by rw [hp0];split<;>omega
    clear hp0
    by_cases hk2:k=2
    all_goals
     (repeat' ((conv=>whnf);first|refine ⟨_,rd0,?_⟩|refine ⟨_,_,_,rd7,?_⟩|refine ⟨_,⟨rfl,trivial⟩,?_⟩|(refine zd (fun h=>?_) (fun h=>?_)<;>try (exfalso;omega))|(refine zc (fun h=>?_) (fun h=>?_)<;>try (exfalso;omega))|(refine za (fun h=>?_) (fun h=>?_)<;>(try simp only [zqa,zqb,zqc,zqd,zqe,zqf,zqg] at h))|refine pay ?_|refine And.intro (by first|exact (by simp)) ?_|intro _));(all_goals (conv=>whnf))
    all_goals try (exfalso;omega)
    all_goals
     refine zu NdG (fun g=>[(0,.ptr 7100 bm 0),(1,.el (some ⟨b,off,none⟩) 0),(2,.v (.int .i64 (d:Int))),(6,.v (.int .i64 ((p0+RT.poss (ps.take g.j):Nat):Int))),(7,.v (.int .i64 ((RT.sizes (ps.take g.j):Nat):Int))),(8,.v (.bool false)),(37,.v (.slice a ps.length c)),(38,.v (.int .i64 (ps.length:Int))),(39,.v (.int .i64 (g.j:Int)))])
      (fun g=>[.box 7100 bm [.int .i64 (g.m:Int)] uh]) (fun g=>g.j≤ps.length∧g.m≤m0+1+RT.sizes (ps.take g.j)) (fun g=>ps.length - g.j)
      ⟨0,m0+1⟩ ⟨Nat.zero_le _,Nat.le_add_right _ _⟩ (by have e1:RT.poss (ps.take 0)=0:=rfl;have e2:RT.sizes (ps.take 0)=0:=rfl;dsimp only;rw [e1,e2];(repeat ((conv=>whnf);refine vS ?_));exact trivial) (Ref.takes [7100] rfl (.box (by rw [Int.natCast_succ]) (Thin.refl _))) ?_
    all_goals
     rintro ⟨j,m⟩ ⟨hj,hm⟩
     dsimp only at hj hm ⊢
     have hst:=RT.sizes_take ps j
     have hpz:=RT.poss_sizes (ps.take j)
     by_cases hlt:j<ps.length
    all_goals first
     | (exfalso;omega)
     | (rename (j < ps.length) => hlt
        obtain ⟨q,hq⟩:∃ q,ps[j]?=some q:=⟨_,List.getElem?_eq_getElem hlt⟩
        have hqm:q∈ps:=List.mem_of_getElem? hq
        have hqs:=RT.size_mem hqm
        have hqp:=RT.pos_size q
        obtain ⟨b0,o0,ha,hk⟩:=hin.kid hq
        subst ha
        have htk:ps.take (j+1)=ps.take j++[q]:=by rw [List.take_add_one,hq];rfl
        have e1:=RT.poss_app (ps.take j) q
        have e2:=RT.sizes_app (ps.take j) q
        rw [←htk] at e1 e2
        have hst2:=RT.sizes_take ps (j+1)
        have q0:((j:Nat):Int).toNat=j:=by omega
        have hd1:((d+1:Nat):Int)=(d:Int)+1:=rfl
        have cN:=fun (fp':List Nat) (W:World) hI hR=>(show Calls Tryz.prog qK #[pS bm,(SV.el (some ⟨b0,o0,none⟩) (j*8)).val,.int .i64 ((d:Int)+1)] W _ by
         have hv:(SV.el (some ⟨b0,o0,none⟩) (j*8)).val=pV b0 (o0+j*8):=by simp [SV.val,qM]
         rw [hv,←hd1]
         exact IH q (by omega) (RT.Pl_mem hPl hqm) b0 (o0+j*8) bm m (d+1) (by omega) (by omega) fp' W hI hR)
        (repeat' ((conv=>whnf);first|rw [q0]|refine ⟨_,rd0,?_⟩|refine ⟨_,_,_,rd7,?_⟩|(refine zL [7100] rfl (fun w' hR hR0=>cN _ w' (hk.castL hR) hR0) ?_;rintro _ _ ⟨p',q',ok',m',rfl,hok,hm',rfl⟩;rcases ok' with _|_;all_goals (try obtain ⟨rfl,rfl⟩:=hok rfl);all_goals refine ⟨.v _,rfl,?_⟩)|refine ⟨_,⟨rfl,trivial⟩,?_⟩|(refine zd (fun h=>?_) (fun h=>?_)<;>try (exfalso;omega))|(refine zc (fun h=>?_) (fun h=>?_)<;>try (exfalso;omega))|(refine za (fun h=>?_) (fun h=>?_)<;>(try simp only [zqa,zqb,zqc,zqd,zqe,zqf,zqg] at h))|refine pay ?_|refine And.intro (by first|exact (by simp)) ?_|intro _));(all_goals (conv=>whnf))
        all_goals try (exfalso;omega)
        all_goals first
         | exact zi (⟨j+1,m'⟩:NdG) ⟨hlt,by dsimp only;omega⟩ (by dsimp only;omega) (by dsimp only;(repeat ((conv=>whnf);refine vS ?_));exact trivial) (Ref.takes [7100] rfl (Thin.refl _))
         | exact ⟨⟨_,Ref.takes [7100] rfl (Thin.refl _),0,0,false,m',rfl,(fun h=>by cases h),by rw [RT.size];omega,rfl⟩⟩)
     | skip
    all_goals
     have hje:j=ps.length:=by omega
     subst hje
     rw [List.take_length] at hm hst hpz ⊢
     (repeat' ((conv=>whnf);first|refine ⟨_,rd0,?_⟩|refine ⟨_,_,_,rd7,?_⟩|refine ⟨_,⟨rfl,trivial⟩,?_⟩|(refine zd (fun h=>?_) (fun h=>?_)<;>try (exfalso;omega))|(refine zc (fun h=>?_) (fun h=>?_)<;>try (exfalso;omega))|(refine za (fun h=>?_) (fun h=>?_)<;>(try simp only [zqa,zqb,zqc,zqd,zqe,zqf,zqg] at h))|refine pay ?_|refine And.intro (by first|exact (by simp)) ?_|intro _));(all_goals (conv=>whnf))
    all_goals try (exfalso;omega)
    all_goals
     rw [ztD (by omega),zuN (by omega)]
     exact ⟨⟨_,Ref.takes [7100] rfl (Thin.refl _),_,_,true,m,rfl,fun _=>⟨by rw [hpos],by rw [hsz]⟩,zwp hm hsz,rfl⟩⟩
def msQ (r:RT) (v:Value) (L1:List Ent):Prop:=L1=[]∧((∃ p:Int,r.pos≤64∧v=.tuple #[.int .i64 p,.nilIface])∨∃ n,v=.tuple #[.int .i64 0,xh n])
theorem zlR (r:RT) (hs:r.size≤4096) (hPl:r.Pl) (b off:Nat) (w:World) (hin:NdIn w [] b off r) :
 Calls Tryz.prog uO #[pV b off] w fun e w'=>∃ v L1,e=.returned v∧R w [] L1 w'∧msQ r v L1:=by
 refine zV [.el (some ⟨b,off,none⟩) 0] zhZ (by simp) ?_
 have cN:=fun (bm:Nat) (fp:List Nat) (W:World) hI hR=>(show Calls Tryz.prog qK #[pS bm,(SV.el (some ⟨b,off,none⟩) 0).val,.int .i64 1] W _ from zjG 4096 (Nat.le_refl _) r hs hPl b off bm 0 1 (by omega) (by omega) fp W hI hR)
 (repeat' ((conv=>whnf);first|(refine zL [4] rfl (fun w' hR hR0=>cN _ _ w' (hin.castL hR) (Ref.takes [4] rfl (.box rfl (.nil _)) w' hR0)) ?_;rintro _ _ ⟨p',q',ok',m',rfl,hok,hm',rfl⟩;rcases ok' with _|_;all_goals (try obtain ⟨rfl,rfl⟩:=hok rfl);all_goals refine ⟨.v _,rfl,?_⟩)|refine ⟨_,⟨rfl,trivial⟩,?_⟩|(refine zd (fun h=>?_) (fun h=>?_)<;>try (exfalso;omega))|(refine zc (fun h=>?_) (fun h=>?_)<;>try (exfalso;omega))|(refine za (fun h=>?_) (fun h=>?_)<;>(try simp only [zqa,zqb,zqc,zqd,zqe,zqf,zqg] at h))|refine pay ?_|intro _));(all_goals (conv=>whnf))
 all_goals try (exfalso;omega)
 all_goals first
  | exact ⟨⟨[],Ref.takes [] rfl (.nil _),rfl,.inr ⟨9,rfl⟩⟩⟩
  | exact ⟨⟨[],Ref.takes [] rfl (.nil _),rfl,.inl ⟨_,by omega,rfl⟩⟩⟩
def boQ (v:Value) (L1:List Ent):Prop:=L1=[]∧∃ z,v=.bool z
theorem zjH (r:RT) (hs:r.size≤4096) (b off:Nat) (w:World) (hin:NdIn w [] b off r) :
 Calls Tryz.prog km #[pV b off] w fun e w'=>∃ v L1,e=.returned v∧R w [] L1 w'∧boQ v L1:=by
 refine zV [.el (some ⟨b,off,none⟩) 0] zfS (by simp) ?_
 obtain ⟨k,s,mn,mx,ps,a,c⟩:=r
 rw [RT.size] at hs
 have hps:=RT.len_sizes ps
 have rd0:=fun {L:List Ent}=>hin.cel.rd (L:=L) (k:=0) (v:=.int .i64 (k:Int)) rfl
 have rd5:=fun {L:List Ent}=>hin.cel.rd (L:=L) (k:=5) (v:=.int .i64 mn) rfl
 have rd6:=fun {L:List Ent}=>hin.cel.rd (L:=L) (k:=6) (v:=.int .i64 mx) rfl
 have rd7:=fun {L:List Ent}=>hin.cel.rd (L:=L) (k:=7) (v:=.slice a ps.length c) rfl
 have rd1:∀ {L:List Ent},Rd w [] L (.el (some ⟨b,off,none⟩) 1) s.cells:=fun {L}=>hin.cel.rdn (L:=L) (k:=1) (vs:=s.cells) (show 0<4 by decide) rfl
 by_cases hk:k=2
 ·subst hk
  (repeat' ((conv=>whnf);first|refine ⟨_,rd0,?_⟩|refine ⟨_,rd5,?_⟩|refine ⟨_,rd6,?_⟩|refine ⟨_,_,_,rd7,?_⟩|refine ⟨s.cells,rfl,rd1,?_⟩|refine ⟨_,⟨rfl,trivial⟩,?_⟩|(refine zd (fun h=>?_) (fun h=>?_)<;>try (exfalso;omega))|(refine zc (fun h=>?_) (fun h=>?_)<;>try (exfalso;omega))|(refine za (fun h=>?_) (fun h=>?_)<;>(try simp only [zqa,zqb,zqc,zqd,zqe,zqf,zqg] at h))|refine pay ?_|refine And.intro (by first|exact (by simp)) ?_|intro _));(all_goals (conv=>whnf))
  all_goals try (exfalso;omega)
  all_goals exact ⟨⟨[],Ref.takes [] rfl (.nil _),rfl,_,rfl⟩⟩
 ·(repeat' ((conv=>whnf);first|refine ⟨_,rd0,?_⟩|refine ⟨_,rd5,?_⟩|refine ⟨_,rd6,?_⟩|refine ⟨_,_,_,rd7,?_⟩|refine ⟨s.cells,rfl,rd1,?_⟩|refine ⟨_,⟨rfl,trivial⟩,?_⟩|(refine zd (fun h=>?_) (fun h=>?_)<;>try (exfalso;omega))|(refine zc (fun h=>?_) (fun h=>?_)<;>try (exfalso;omega))|(refine za (fun h=>?_) (fun h=>?_)<;>(try simp only [zqa,zqb,zqc,zqd,zqe,zqf,zqg] at h))|refine pay ?_|refine And.intro (by first|exact (by simp)) ?_|intro _));(all_goals (conv=>whnf))
  all_goals try (exfalso;omega)
  all_goals exact ⟨⟨[],Ref.takes [] rfl (.nil _),rfl,_,rfl⟩⟩
def PlB (w:World) (b:Nat):Prop:=∃ cs T,w.heap[b]?=some (.cells cs T (0,0))
def RPl (w:World) (r:RT):Prop:=∀ x∈r.rows,∀ ad:Addr,x.1=some ad→PlB w ad.block
structure Nq where
 b:Nat
 off:Nat
 r:RT
abbrev Nq.v (n:Nq):Value:=pV n.b n.off
structure NdOk (w:World) (n:Nq):Prop where
 inn:NdIn w [] n.b n.off n.r
 pl:PlB w n.b
 rpl:RPl w n.r
 sz:n.r.size≤4096
theorem PlB.later {w w':World} {L:List Ent} {b:Nat} (h:PlB w b) (hR:R w [] L w'):PlB w' b:=by
 obtain ⟨cs,T,hb⟩:=h
 refine ⟨cs,T,?_⟩
 rw [hR.old b (Array.getElem?_eq_some_iff.1 hb).1 (by simp)];exact hb
theorem znS {w w':World} {L:List Ent} {b o k:Nat} (h:PlB w b) (hR:R w [] L w'):kM w' (SV.el (some ⟨b,o,none⟩) k).val:=by
 intro ad he
 have hv:(SV.el (some ⟨b,o,none⟩) k).val=pV b (o+k):=by simp [SV.val,qM]
 rw [hv] at he
 cases he
 exact h.later hR
def MG (w:World) (m:List (Value × Value)):Prop:=∀ p∈m,(∃ b o,p.1=pV b o∧PlB w b)∧∃ z,p.2=.bool z
theorem MG.plain {w w':World} {L:List Ent} {m:List (Value × Value)} (h:MG w m) (hR:R w [] L w'):∀ p∈m,kM w' p.1:=by
 intro p hp ad he
 obtain ⟨⟨b,o,hb,hpl⟩,_⟩:=h p hp
 rw [hb] at he
 cases he
 exact hpl.later hR
theorem znT {x v:Value}:∀ {m:List (Value × Value)},qO m x=some v→∃ p∈m,p.2=v
 | (k, u) :: m, h => by
   unfold qO at h
   split at h
   ·cases h;exact ⟨_,List.mem_cons_self,rfl⟩
   ·obtain ⟨p,hp,he⟩:=znT h
    exact ⟨p,List.mem_cons_of_mem _ hp,he⟩
theorem MG.val {w:World} {m:List (Value × Value)} (h:MG w m) {x v:Value} (hv:qO m x=some v):∃ z,v=.bool z:=by
 obtain ⟨p,hp,rfl⟩:=znT hv
 exact (h p hp).2
theorem znU {x v:Value}:∀ {m:List (Value × Value)},∀ p∈yF m x v,p=(x,v)∨p∈m
 | [],p,h=>by rw [yF,List.mem_singleton] at h;exact .inl h
 | (k, u) :: m, p, h => by
   unfold yF at h
   split at h
   ·rcases List.mem_cons.1 h with h|h
    ·exact .inl h
    ·exact .inr (List.mem_cons_of_mem _ h)
   ·rcases List.mem_cons.1 h with h|h
    ·exact .inr (h ▸ List.mem_cons_self)
    ·exact (znU p h).imp id (List.mem_cons_of_mem _)
theorem MG.set {w:World} {m:List (Value × Value)} (h:MG w m) {b o k:Nat} (hp:PlB w b) (z:Bool):MG w (yF m (SV.el (some ⟨b,o,none⟩) k).val (.bool z)):=by
 intro p hm
 rcases znU p hm with rfl|hm
 ·exact ⟨⟨b,o+k,by simp [SV.val,qM],hp⟩,z,rfl⟩
 ·exact h p hm
theorem NdOk.kid {w:World} {b off j:Nat} {k:Nat} {s:Ls} {mn mx:Int} {ps:List RT} {a:Option Addr} {c:Nat} {p:RT} (h:NdOk w ⟨b,off,.mk k s mn mx ps a c⟩) (hp:ps[j]?=some p):∃ b0 o0,a=some ⟨b0,o0,none⟩∧NdOk w ⟨b0,o0+j*8,p⟩:=by
 obtain ⟨b0,o0,ha,hk⟩:=h.inn.kid hp
 have hm:=List.mem_of_getElem? hp
 have hsz:=h.sz
 have:=RT.size_mem hm
 dsimp only at hsz
 rw [RT.size] at hsz
 refine ⟨b0,o0,ha,hk,h.rpl (a,rtL ps) (by dsimp only;rw [RT.rows];exact List.mem_cons_self) _ ha,fun x hx=>h.rpl x (by dsimp only;rw [RT.rows];exact List.mem_cons_of_mem _ (RT.rows_mem hx hm)),by dsimp only;omega⟩
def ndv (l:List Nq):List Value:=l.map Nq.v
def nds (l:List Nq):Nat:=(l.map fun n=>n.r.size).sum
theorem zkN:∀ l:List Nq,l.length≤nds l
 | []=>Nat.le_refl _
 | ⟨b, o, .mk k s mn mx ps a c⟩ :: l => by
   have:=zkN l
   unfold nds at this ⊢
   rw [List.map_cons,List.sum_cons,List.length_cons,RT.size];omega
theorem zuO (l:List Nq) (x:Nq):nds (l++[x])=nds l+x.r.size:=by simp [nds]
theorem zuP (l:List Nq) (x:Nq):ndv l++[x.v]=ndv (l++[x]):=by simp [ndv]
structure VaG where
 l:List Nq
 m:List (Value × Value)
 a:Option Addr
 c:Nat
structure VbG where
 j:Nat
 l:List Nq
 m:List (Value × Value)
 a:Option Addr
 c:Nat
theorem zoG (n:Nq) (w:World) (hn:NdOk w n) :
 Calls Tryz.prog zae #[n.v] w fun e w'=>∃ v L1,e=.returned v∧R w [] L1 w'∧boQ v L1:=by
 refine zV [.el (some ⟨n.b,n.off,none⟩) 0] zrQ (by simp) ?_
 have hm0:MG w []:=fun p hp=>by cases hp
 have hpl:=fun {L:List Ent} (w':World) (hR:R w [] L w')=>(⟨znS (o:=n.off) (k:=0) hn.pl hR,fun p hp=>by cases hp⟩:kM w' (SV.el (some ⟨n.b,n.off,none⟩) 0).val∧∀ p∈([]:List (Value × Value)),kM w' p.1)
 (repeat' ((conv=>whnf);first|refine ⟨_,⟨rfl,trivial⟩,?_⟩|(refine zd (fun h=>?_) (fun h=>?_)<;>try (exfalso;omega))|(refine zc (fun h=>?_) (fun h=>?_)<;>try (exfalso;omega))|(refine za (fun h=>?_) (fun h=>?_)<;>(try simp only [zqa,zqb,zqc,zqd,zqe,zqf,zqg] at h))|refine pay ?_|refine And.intro (by first|exact ⟨rfl,rfl,_,rfl⟩|exact hpl) ?_|intro _));(all_goals (conv=>whnf))
 all_goals try (exfalso;omega)
 rename_i mb b12
 refine zu VaG (fun g=>[(0,.el (some ⟨n.b,n.off,none⟩) 0),(2,.v (.bool false)),(3,.mp 8 mb),(4,.sl 12 g.a g.l.length g.c)]) (fun g=>[.own 12 g.a g.l.length g.c kW 1 (ndv g.l),.mapE 8 mb .ptr g.m])
  (fun g=>(∀ x∈g.l,NdOk w x)∧MG w g.m∧nds g.l≤4096) (fun g=>nds g.l) ⟨[n],yF [] (SV.el (some ⟨n.b,n.off,none⟩) 0).val (.bool true),some ⟨b12,0,none⟩,1⟩
  ⟨fun x hx=>by rw [List.mem_singleton.1 hx];exact hn,hm0.set hn.pl true,by simpa [nds] using hn.sz⟩ (by (repeat ((conv=>whnf);refine vS ?_));exact trivial) (Ref.takes [12,8] rfl (Thin.refl _)) ?_
 rintro ⟨l,m,a,c⟩ ⟨hl,hm,hsz⟩
 dsimp only at hl hm hsz ⊢
 rcases List.eq_nil_or_concat l with rfl|⟨init,x,rfl⟩
 ·(repeat' ((conv=>whnf);first|refine ⟨_,⟨rfl,trivial⟩,?_⟩|(refine zd (fun h=>?_) (fun h=>?_)<;>try (exfalso;omega))|(refine zc (fun h=>?_) (fun h=>?_)<;>try (exfalso;omega))|(refine za (fun h=>?_) (fun h=>?_)<;>(try simp only [zqa,zqb,zqc,zqd,zqe,zqf,zqg] at h))|refine pay ?_|intro _));(all_goals (conv=>whnf))
  all_goals first|(exfalso;simp at *;done)|skip
  exact ⟨⟨[],Ref.takes [] rfl (.nil _),rfl,_,rfl⟩⟩
 ·rw [List.concat_eq_append] at hl hsz ⊢
  have hx:NdOk w x:=hl x (by simp)
  have hinit:∀ y∈init,NdOk w y:=fun y hy=>hl y (by simp [hy])
  have hlen:(init++[x]).length=init.length+1:=by simp
  have hns:nds (init++[x])=nds init+x.r.size:=by simp [nds]
  rw [hns] at hsz
  have hat:(ndv (init++[x]))[init.length]?=some x.v:=by simp [ndv]
  have htk:(ndv (init++[x])).take init.length=ndv init:=by simp [ndv]
  have q0:(((init.length+1:Nat):Int) - 1).toNat=init.length:=by omega
  obtain ⟨xb,xo,xr⟩:=x
  obtain ⟨k,s,mn,mx,ps,pa,pc⟩:=xr
  have hxs:=hx.sz
  dsimp only at hxs hsz
  rw [RT.size] at hxs hsz
  have hps:=RT.len_sizes ps
  have hil:=zkN init
  have cV:=fun (W:World) (L':List Ent) (hR:R w [] L' W)=>(show Calls Tryz.prog km #[(SV.el (some ⟨xb,xo,none⟩) 0).val] W _ from zjH (.mk k s mn mx ps pa pc) (by rw [RT.size];omega) xb xo W (hx.inn.cast hR (fun _ h=>by cases h)))
  have rd7:=fun {L:List Ent}=>hx.inn.cel.rd (L:=L) (k:=7) (v:=.slice pa ps.length pc) rfl
  rw [hlen,hns,RT.size]
  (repeat' ((conv=>whnf);first|rw [q0]|refine zfx hat ?_|refine ⟨_,_,_,rd7,?_⟩|refine ⟨.el (some ⟨xb,xo,none⟩) 0,⟨rfl,trivial⟩,?_⟩|(refine zA (fun w' hR=>cV w' _ hR) ?_;rintro _ _ ⟨rfl,z,rfl⟩;refine ⟨.v _,rfl,?_⟩)|refine ⟨_,⟨rfl,trivial⟩,?_⟩|(refine zd (fun h=>?_) (fun h=>?_)<;>try (exfalso;omega))|(refine zc (fun h=>?_) (fun h=>?_)<;>try (exfalso;omega))|(refine za (fun h=>?_) (fun h=>?_)<;>(try simp only [zqa,zqb,zqc,zqd,zqe,zqf,zqg] at h))|refine pay ?_|refine And.intro (by first|exact (by simp)) ?_|intro _));(all_goals (conv=>whnf))
  all_goals try (exfalso;omega)
  ·exact ⟨⟨[],Ref.takes [] rfl (.nil _),rfl,_,rfl⟩⟩
  ·refine zu VbG (fun g=>[(0,.el (some ⟨n.b,n.off,none⟩) 0),(2,.v (.bool false)),(3,.mp 8 mb),(4,.sl 12 g.a g.l.length g.c),(5,.el (some ⟨xb,xo,none⟩) 0),(33,.v (.slice pa ps.length pc)),(34,.v (.int .i64 (ps.length:Int))),(35,.v (.int .i64 (g.j:Int)))])
    (fun g=>[.own 12 g.a g.l.length g.c kW 1 (ndv g.l),.mapE 8 mb .ptr g.m])
    (fun g=>g.j≤ps.length∧(∀ x∈g.l,NdOk w x)∧MG w g.m∧nds g.l≤nds init+RT.sizes (ps.take g.j)) (fun g=>ps.length - g.j) ⟨0,init,m,a,c⟩
    ⟨Nat.zero_le _,hinit,hm,Nat.le_add_right _ _⟩ (by (repeat ((conv=>whnf);refine vS ?_));exact trivial) (Ref.takes [12,8] rfl (.own rfl (by rw [Nat.mul_one,htk]) (Thin.refl _))) ?_
   rintro ⟨j,l,m',a',c'⟩ ⟨hj,hl',hm',hns'⟩
   dsimp only at hj hl' hm' hns' ⊢
   have hst:=RT.sizes_take ps j
   have hll:=zkN l
   clear hlen hns hat htk
   by_cases hlt:j<ps.length
   ·obtain ⟨q,hq⟩:∃ q,ps[j]?=some q:=⟨_,List.getElem?_eq_getElem hlt⟩
    have hqm:q∈ps:=List.mem_of_getElem? hq
    have hqs:=RT.size_mem hqm
    obtain ⟨b0,o0,ha,hk⟩:=hx.kid hq
    subst ha
    have htk:ps.take (j+1)=ps.take j++[q]:=by rw [List.take_add_one,hq];rfl
    have e2:=RT.sizes_app (ps.take j) q
    rw [←htk] at e2
    have hst2:=RT.sizes_take ps (j+1)
    have q1:((j:Nat):Int).toNat=j:=by omega
    have hpk:=fun {L:List Ent} (w':World) (hR:R w [] L w')=>(⟨znS (o:=o0) (k:=j*8) hk.pl hR,hm'.plain hR⟩:kM w' (SV.el (some ⟨b0,o0,none⟩) (j*8)).val∧∀ p∈m',kM w' p.1)
    have hms:=hm'.set (o:=o0) (k:=j*8) hk.pl true
    have hna:=zuO l ⟨b0,o0+j*8,q⟩
    have hva:ndv l++[(SV.el (some ⟨b0,o0,none⟩) (j*8)).val]=ndv (l++[⟨b0,o0+j*8,q⟩]):=by
     rw [←zuP];congr 2;simp [SV.val,qM]
    have hl1:(l++[(⟨b0,o0+j*8,q⟩:Nq)]).length=l.length+1:=by simp
    have hmem:∀ x∈l++[(⟨b0,o0+j*8,q⟩:Nq)],NdOk w x:=fun x hx=>by
     rcases List.mem_append.1 hx with hx|hx
     ·exact hl' x hx
     ·rw [List.mem_singleton.1 hx];exact hk
    (repeat' ((conv=>whnf);first|rw [q1]|refine ⟨_,_,_,rd7,?_⟩|(refine ⟨⟨fun v hv=>?_,fun hn=>?_⟩⟩;(obtain ⟨z,rfl⟩:=hm'.val hv))|refine ⟨_,⟨rfl,trivial⟩,?_⟩|(refine zd (fun h=>?_) (fun h=>?_)<;>try (exfalso;omega))|(refine zc (fun h=>?_) (fun h=>?_)<;>try (exfalso;omega))|(refine za (fun h=>?_) (fun h=>?_)<;>(try simp only [zqa,zqb,zqc,zqd,zqe,zqf,zqg] at h))|refine pay ?_|refine And.intro (by first|exact ⟨rfl,rfl,_,rfl⟩|exact hpk|exact (by simp)) ?_|intro _));(all_goals (conv=>whnf))
    all_goals try (exfalso;omega)
    all_goals first
     | (rename_i b52 a2 c2
        exact zi (⟨j+1,l++[(⟨b0,o0+j*8,q⟩:Nq)],yF m' (SV.el (some ⟨b0,o0,none⟩) (j*8)).val (.bool true),a2,c2⟩:VbG) ⟨hlt,hmem,hms,by dsimp only;rw [hna];dsimp only;omega⟩ (by dsimp only;omega) (by dsimp only;rw [hl1];(repeat ((conv=>whnf);refine vS ?_));exact trivial) (Ref.takes [12,8] rfl (.own hl1.symm hva (Thin.refl _))))
     | exact zi (⟨j+1,l,m',a',c'⟩:VbG) ⟨hlt,hl',hm',by dsimp only;omega⟩ (by dsimp only;omega) (by (repeat ((conv=>whnf);refine vS ?_));exact trivial) (Ref.takes [12,8] rfl (Thin.refl _))
   ·(repeat' ((conv=>whnf);first|refine ⟨_,⟨rfl,trivial⟩,?_⟩|(refine zd (fun h=>?_) (fun h=>?_)<;>try (exfalso;omega))|(refine zc (fun h=>?_) (fun h=>?_)<;>try (exfalso;omega))|(refine za (fun h=>?_) (fun h=>?_)<;>(try simp only [zqa,zqb,zqc,zqd,zqe,zqf,zqg] at h))|refine pay ?_|intro _));(all_goals (conv=>whnf))
    all_goals try (exfalso;omega)
    exact zi (⟨l,m',a',c'⟩:VaG) ⟨hl',hm',by dsimp only;omega⟩ (by dsimp only;omega) (by (repeat ((conv=>whnf);refine vS ?_));exact trivial) (Ref.takes [12,8] rfl (Thin.refl _))
def rcQ (r:RT) (v:Value) (L1:List Ent):Prop:=L1=[]∧((r.pos≤64∧v=.nilIface)∨∃ n,v=xh n)
theorem RPl.later {w w':World} {L:List Ent} {r:RT} (h:RPl w r) (hR:R w [] L w'):RPl w' r:=fun x hx ad ha=>(h x hx ad ha).later hR
theorem zt1 {w0 w:World} {L:List Ent} {key b T:Nat} {r:RT} (hR:R w0 [] L w) (hb:yK key L=some (b,r.cells,T)) (hin:RIn w0 [] r) (hpl:RPl w0 r) (hs:r.size≤4096):NdOk w ⟨b,0,r⟩:=by
 refine ⟨⟨In.box hR hb,fun x hx=>(hin x hx).cast hR (fun _ h=>by cases h)⟩,⟨_,_,zeb hR hb⟩,hpl.later hR,hs⟩
theorem znV (r:RT) (hs:r.size≤4096) (hPl:r.Pl) (w:World) (hin:RIn w [] r) (hpl:RPl w r) :
 Calls Tryz.prog zad #[r.v] w fun e w'=>∃ v L1,e=.returned v∧R w [] L1 w'∧rcQ r v L1:=by
 refine zV [.v r.v] zkD (by simp) ?_
 have cV:=fun (b:Nat) (W:World) (L':List Ent) (hR:R w [] L' W) (hb:yK 1 L'=some (b,r.cells,zB))=>zoG ⟨b,0,r⟩ W (zt1 hR hb hin hpl hs)
 have cM:=fun (b:Nat) (W:World) (L':List Ent) (hR:R w [] L' W) (hb:yK 1 L'=some (b,r.cells,zB))=>zlR r hs hPl b 0 W (zt1 hR hb hin hpl hs).inn
 obtain ⟨k,s,mn,mx,ps,a,c⟩:=r
 (repeat' ((conv=>whnf);first|(refine zA (fun w' hR=>cV _ w' _ hR rfl) ?_;rintro _ _ ⟨rfl,z,rfl⟩;refine ⟨.v _,rfl,?_⟩)|(refine zA (fun w' hR=>cM _ w' _ hR rfl) ?_;rintro _ _ ⟨rfl,⟨p,hp,rfl⟩|⟨n,rfl⟩⟩;all_goals refine ⟨.v _,rfl,?_⟩)|refine ⟨_,⟨rfl,trivial⟩,?_⟩|(refine zd (fun h=>?_) (fun h=>?_)<;>try (exfalso;omega))|(refine zc (fun h=>?_) (fun h=>?_)<;>try (exfalso;omega))|(refine za (fun h=>?_) (fun h=>?_)<;>(try simp only [zqa,zqb,zqc,zqd,zqe,zqf,zqg] at h))|refine pay ?_|intro _));(all_goals (conv=>whnf))
 all_goals try (exfalso;omega)
 all_goals first
  | exact ⟨⟨[],Ref.takes [] rfl (.nil _),rfl,.inl ⟨by assumption,rfl⟩⟩⟩
  | exact ⟨⟨[],Ref.takes [] rfl (.nil _),rfl,.inr ⟨_,rfl⟩⟩⟩
end Go.Proofs.YtjmlialibdobpaaGreatDoor
namespace Go.Proofs.YtjmlialibdobpaaGreatDoor
open Go.EG
set_option linter.unusedSimpArgs false
set_option linter.unusedVariables false
def zgx (ss:List Ls) (b:Nat):Nat→Nat
 | 0=>0
 | i+1=>if (ss.getD i default).has b=true then zgx ss b i|||2 ^ i else zgx ss b i
theorem zlm (ss:List Ls) (b j:Nat):∀ n,(zgx ss b n).testBit j=(decide (j<n)&&(ss.getD j default).has b)
 | 0=>by simp [zgx]
 | n + 1 => by
   have ih:=zlm ss b j n
   unfold zgx
   by_cases hj:j=n
   ·subst hj
    split
    ·rename_i hz;rw [Nat.testBit_or,ih,Nat.testBit_two_pow_self,hz];simp
    ·rename_i hz;rw [ih];simp at hz;simp [hz]
   ·have hd:decide (j<n+1)=decide (j<n):=by rw [decide_eq_decide];omega
    split
    ·rw [Nat.testBit_or,ih,Nat.testBit_two_pow_of_ne (fun h=>hj h.symm),Bool.or_false,hd]
    ·rw [ih,hd]
def zgd (ss:List Ls) (b:Nat):Nat:=zgx ss b ss.length
theorem znW (ss:List Ls) (b j:Nat):(zgd ss b).testBit j=(decide (j<ss.length)&&(ss.getD j default).has b):=zlm ..
theorem zr6 {ss:List Ls} {ps:List Ls} {p:Ls} {b:Nat} (hH:Homo ss ps) (hp:p∈ps) (hb:b<256) (hpb:p.has b=true):zX ss p ss.length=zgd ss b:=by
 refine Nat.eq_of_testBit_eq fun j=>?_
 rw [zlk,znW]
 by_cases hj:j<ss.length
 ·simp only [hj,decide_true,Bool.true_and]
  have hs:ss.getD j default∈ss:=by rw [List.getD_eq_getElem?_getD,List.getElem?_eq_getElem hj];exact List.getElem_mem _
  generalize ss.getD j default=s at *
  cases hz:(s.meet p).zb
  ·have hnz:¬(s.meet p).zero:=fun h=>by rw [Ls.zb_iff.2 h] at hz;cases hz
   obtain ⟨x,hx,hxm⟩:=Ls.some_of hnz
   rw [Ls.has_meet,Bool.and_eq_true] at hxm
   rcases hH s hs p hp with h|h
   ·rw [h b hb hpb];rfl
   ·rw [h x hx hxm.2] at hxm;exact absurd hxm.1 (by simp)
  ·have h:=Ls.zero_has (Ls.zb_iff.1 hz) b
   rw [Ls.has_meet,hpb,Bool.and_true] at h
   rw [h];rfl
 ·simp [hj]
structure Wz where
 ss:List Ls
 fol:List Nat
 p:Pz
def Wz.nx (z:Wz) (S:Nat):Nat:=aft z.fol S|||z.p.fs
def Wz.run (z:Wz):Nat→List Nat→Nat
 | S,[]=>S
 | S,b::t=>z.run (z.nx S&&&zgd z.ss b) t
def Wz.acc (z:Wz) (S:Nat):Bool:=decide (S&&&z.p.lt≠0)||z.p.nl
structure CsI (z:Wz) (al:List Nat) (i:Nat) (S:List Nat) (rows:List (List Nat)) (accs:List Bool):Prop where
 nod:S.Nodup
 lt:∀ x∈S,x<2 ^ z.ss.length
 le:i≤S.length+1
 rl:rows.length=i
 acl:accs.length=i
 row:∀ q r,rows[q]?=some r→r.length=al.length∧∀ c,c<al.length→1≤r.getD c 0∧S[r.getD c 0 - 1]?=some (z.nx (if q=0 then 0 else S.getD (q - 1) 0)&&&al.getD c 0)
 ac:∀ q,q<i→accs.getD q false=z.acc (if q=0 then 0 else S.getD (q - 1) 0)
theorem CsI.start (z:Wz) (al:List Nat):CsI z al 0 [] [] [] :=
 ⟨List.nodup_nil,(fun x h=>by cases h),by simp,rfl,rfl,(fun q r h=>by simp at h),fun q h=>absurd h (by omega)⟩
structure CrI (z:Wz) (al:List Nat) (nx:Nat) (c:Nat) (S S':List Nat) (row:List Nat):Prop where
 pre:S <+: S'
 nod:S'.Nodup
 lt:∀ x∈S',x<2 ^ z.ss.length
 most:S'.length≤S.length+c
 rl:row.length=al.length
 cl:∀ j,j<c→1≤row.getD j 0∧S'[row.getD j 0 - 1]?=some (nx&&&al.getD j 0)
theorem CrI.start {z:Wz} {al:List Nat} {i:Nat} {S:List Nat} {rows:List (List Nat)} {accs:List Bool} (h:CsI z al i S rows accs) (nx:Nat):CrI z al nx 0 S S (List.replicate al.length 0) :=
 ⟨List.prefix_refl _,h.nod,h.lt,Nat.le_refl _,by simp,fun j h=>absurd h (by omega)⟩
theorem zln {l:List Nat} {c x j:Nat} (hc:c<l.length):(l.set c x).getD j 0=if j=c then x else l.getD j 0:=by
 simp only [List.getD_eq_getElem?_getD,List.getElem?_set]
 by_cases h:c=j
 ·subst h;rw [if_pos rfl,if_pos hc,if_pos rfl];rfl
 ·rw [if_neg h,if_neg (fun e=>h e.symm)]
theorem CrI.old {z:Wz} {al:List Nat} {nx c:Nat} {S S' row:List Nat} (h:CrI z al nx c S S' row) (hc:c<al.length) {t:Nat} (ht:S'[t]?=some (nx&&&al.getD c 0)):CrI z al nx (c+1) S S' (row.set c (t+1)):=by
 refine ⟨h.pre,h.nod,h.lt,by have:=h.most;omega,by rw [List.length_set];exact h.rl,fun j hj=>?_⟩
 rw [zln (by rw [h.rl];exact hc)]
 by_cases he:j=c
 ·rw [if_pos he,he];exact ⟨by omega,ht⟩
 ·rw [if_neg he];exact h.cl j (by omega)
theorem CrI.new {z:Wz} {al:List Nat} {nx c:Nat} {S S' row:List Nat} (h:CrI z al nx c S S' row) (hc:c<al.length) (ht:(nx&&&al.getD c 0)∉S') (hlt:al.getD c 0<2 ^ z.ss.length):CrI z al nx (c+1) S (S'++[nx&&&al.getD c 0]) (row.set c (S'.length+1)):=by
 refine ⟨h.pre.trans (List.prefix_append _ _),?_,?_,by have:=h.most;simp;omega,by rw [List.length_set];exact h.rl,fun j hj=>?_⟩
 ·rw [List.nodup_append]
  exact ⟨h.nod,by simp,fun a ha b hb=>by rw [List.mem_singleton] at hb;subst hb;exact fun e=>ht (e ▸ ha)⟩
 ·intro x hx
  rcases List.mem_append.1 hx with hx|hx
  ·exact h.lt x hx
  ·rw [List.mem_singleton.1 hx];exact Nat.lt_of_le_of_lt Nat.and_le_right hlt
 ·rw [zln (by rw [h.rl];exact hc)]
  by_cases he:j=c
  ·rw [if_pos he,he];exact ⟨by omega,by simp⟩
  ·rw [if_neg he]
   obtain ⟨h1,h2⟩:=h.cl j (by omega)
   refine ⟨h1,?_⟩
   rw [List.getElem?_append_left (List.getElem?_eq_some_iff.1 h2).1];exact h2
theorem ztE {S S':List Nat} (h:S <+: S') {j:Nat} (hj:j<S.length):S'.getD j 0=S.getD j 0:=by
 obtain ⟨T,rfl⟩:=h
 rw [List.getD_eq_getElem?_getD,List.getElem?_append_left hj,←List.getD_eq_getElem?_getD]
theorem zuQ {S S':List Nat} (h:S <+: S') {j x:Nat} (hj:S[j]?=some x):S'[j]?=some x:=by
 obtain ⟨T,rfl⟩:=h
 rw [List.getElem?_append_left (List.getElem?_eq_some_iff.1 hj).1];exact hj
theorem CsI.next {z:Wz} {al:List Nat} {i:Nat} {S S' row:List Nat} {rows:List (List Nat)} {accs:List Bool} (h:CsI z al i S rows accs) (hi:i≤S.length) (hr:CrI z al (z.nx (if i=0 then 0 else S.getD (i - 1) 0)) al.length S S' row) :
 CsI z al (i+1) S' (rows++[row]) (accs++[z.acc (if i=0 then 0 else S.getD (i - 1) 0)]):=by
 have hpl:=hr.pre.length_le
 have hst:∀ q,q≤i→(if q=0 then 0 else S'.getD (q - 1) 0)=(if q=0 then 0 else S.getD (q - 1) 0):=fun q hq=>by
  by_cases h0:q=0
  ·rw [if_pos h0,if_pos h0]
  ·rw [if_neg h0,if_neg h0,ztE hr.pre (by omega)]
 refine ⟨hr.nod,hr.lt,by omega,by rw [List.length_append,h.rl];rfl,by rw [List.length_append,h.acl];rfl,fun q r hq=>?_,fun q hq=>?_⟩
 ·have hql:=(List.getElem?_eq_some_iff.1 hq).1
  rw [List.length_append,h.rl,List.length_singleton] at hql
  by_cases he:q=i
  ·subst he
   rw [List.getElem?_append_right (by rw [h.rl];exact Nat.le_refl _),h.rl,Nat.sub_self] at hq
   simp only [List.getElem?_cons_zero,Option.some.injEq] at hq
   subst hq
   rw [hst q (Nat.le_refl _)]
   exact ⟨hr.rl,hr.cl⟩
  ·rw [List.getElem?_append_left (by rw [h.rl];omega)] at hq
   obtain ⟨h1,h2⟩:=h.row q r hq
   rw [hst q (by omega)]
   exact ⟨h1,fun c hc=>⟨(h2 c hc).1,zuQ hr.pre (h2 c hc).2⟩⟩
 ·rw [List.getD_eq_getElem?_getD]
  by_cases he:q=i
  ·subst he
   rw [List.getElem?_append_right (by rw [h.acl];exact Nat.le_refl _),h.acl,Nat.sub_self,hst q (Nat.le_refl _)];rfl
  ·rw [List.getElem?_append_left (by rw [h.acl];omega),←List.getD_eq_getElem?_getD,hst q (by omega)]
   exact h.ac q (by omega)
def zcz (cls:List Nat) (rows:List (List Nat)) (accs:List Bool):Mch:=⟨0,cls.map Int.ofNat,rows.map fun r=>r.map Int.ofNat,accs⟩
theorem zwq {z:Wz} {al:List Nat} {S:List Nat} {rows:List (List Nat)} {accs:List Bool} {cls:List Nat} (h:CsI z al (S.length+1) S rows accs) (hs:S.length≤255) (hc:cls.length=256) (hk:1≤al.length∧al.length≤256) (hcl:∀ x,x<256→cls.getD x 0<al.length):MOk (zcz cls rows accs) al.length:=by
 have hn:(zcz cls rows accs).nx.length=S.length+1:=by show (rows.map _).length=_;rw [List.length_map,h.rl]
 refine ⟨by show (cls.map _).length=_;rw [List.length_map,hc],by omega,by omega,by rw [hn];exact h.acl,⟨Int.le_refl _,by rw [hn];show (0:Int)<_;omega⟩,hk,fun r hr=>?_,fun c hcm=>?_⟩
 ·obtain ⟨r',hr',rfl⟩:=List.mem_map.1 hr
  obtain ⟨q,hq⟩:=List.getElem?_of_mem hr'
  obtain ⟨h1,h2⟩:=h.row q r' hq
  refine ⟨by rw [List.length_map];exact h1,fun x hx=>?_⟩
  obtain ⟨y,hy,rfl⟩:=List.mem_map.1 hx
  obtain ⟨c,hc',he⟩:=List.getElem_of_mem hy
  obtain ⟨h3,h4⟩:=h2 c (by omega)
  have he':r'.getD c 0=y:=by rw [List.getD_eq_getElem?_getD,List.getElem?_eq_getElem hc'];exact he
  rw [he'] at h3 h4
  have:=(List.getElem?_eq_some_iff.1 h4).1
  rw [hn]
  exact ⟨Int.natCast_nonneg _,by show (y:Int)<_;omega⟩
 ·obtain ⟨y,hy,rfl⟩:=List.mem_map.1 hcm
  obtain ⟨x,hx,he⟩:=List.getElem_of_mem hy
  have:=hcl x (by omega)
  rw [List.getD_eq_getElem?_getD,List.getElem?_eq_getElem hx] at this
  have he':y<al.length:=by rw [←he];exact this
  exact ⟨Int.natCast_nonneg _,Int.ofNat_lt.2 he'⟩
theorem zuR {z:Wz} {al:List Nat} {S:List Nat} {rows:List (List Nat)} {accs:List Bool} {cls:List Nat} (h:CsI z al (S.length+1) S rows accs) (hcl:∀ x,x<256→cls.getD x 0<al.length) (hc:cls.length=256)
 (hm:∀ x,x<256→al.getD (cls.getD x 0) 0=zgd z.ss x) {q b:Nat} (hq:q≤S.length) (hb:b<256) :
 1≤stp (zcz cls rows accs) q b∧S[stp (zcz cls rows accs) q b - 1]?=some (z.nx (if q=0 then 0 else S.getD (q - 1) 0)&&&zgd z.ss b):=by
 obtain ⟨r,hr⟩:∃ r,rows[q]?=some r:=⟨_,List.getElem?_eq_getElem (by rw [h.rl];omega)⟩
 obtain ⟨h1,h2⟩:=h.row q r hr
 have h3:=h2 _ (hcl b hb)
 rw [hm b hb] at h3
 have e:stp (zcz cls rows accs) q b=r.getD (cls.getD b 0) 0:=by
  unfold stp zcz
  dsimp only
  have e1:(cls.map Int.ofNat).getD b 0=((cls.getD b 0:Nat):Int):=by
   rw [List.getD_eq_getElem?_getD,List.getElem?_map,List.getD_eq_getElem?_getD,List.getElem?_eq_getElem (by omega)];rfl
  rw [e1,Int.toNat_natCast]
  have e2:(rows.map fun r=>r.map Int.ofNat).getD q []=r.map Int.ofNat:=by rw [List.getD_eq_getElem?_getD,List.getElem?_map,hr];rfl
  have hcb:cls.getD b 0<r.length:=by rw [h1];exact hcl b hb
  generalize cls.getD b 0=c at *
  rw [e2,List.getD_eq_getElem?_getD,List.getElem?_map,List.getD_eq_getElem?_getD,List.getElem?_eq_getElem hcb];rfl
 rw [e];exact h3
theorem zpp {z:Wz} {al:List Nat} {S:List Nat} {rows:List (List Nat)} {accs:List Bool} {cls:List Nat} (h:CsI z al (S.length+1) S rows accs) (hcl:∀ x,x<256→cls.getD x 0<al.length) (hc:cls.length=256)
 (hm:∀ x,x<256→al.getD (cls.getD x 0) 0=zgd z.ss x):∀ (t:List Nat) (q:Nat),q≤S.length→BT t→lng (zcz cls rows accs) q t=z.acc (z.run (if q=0 then 0 else S.getD (q - 1) 0) t)
 | [], q, hq, _ => by
   show accs.getD q false=_
   rw [h.ac q (by omega)];rfl
 | b :: t, q, hq, hb => by
   obtain ⟨h1,h2⟩:=zuR h hcl hc hm hq (hb b List.mem_cons_self)
   have hlt:=(List.getElem?_eq_some_iff.1 h2).1
   show lng (zcz cls rows accs) (stp (zcz cls rows accs) q b) t=_
   rw [zpp h hcl hc hm t _ (by omega) (fun x hx=>hb x (List.mem_cons_of_mem _ hx)),if_neg (by omega),List.getD_eq_getElem?_getD,h2]
   rfl
end Go.Proofs.YtjmlialibdobpaaGreatDoor
namespace Go.Proofs.YtjmlialibdobpaaGreatDoor
open Go.EG
attribute [local irreducible] zP yj Go.Calls
set_option linter.unusedSimpArgs false
set_option linter.unusedVariables false
set_option maxRecDepth 20000
set_option maxHeartbeats 4000000
def zbJ:Nat→List Nat→List (Value × Value)
 | _,[]=>[]
 | i,x::S=>(.int .u64 (x:Int),.int .i64 ((i+1:Nat):Int))::zbJ (i+1) S
abbrev zii (S:List Nat):List (Value × Value):=zbJ 0 S
theorem zkO {x y:Nat}:qH (.int .u64 (x:Int)) (.int .u64 (y:Int))=decide (x=y):=by
 unfold qH;rw [decide_eq_decide];omega
theorem zjI:∀ {S:List Nat} {i t:Nat},t∉S→qO (zbJ i S) (.int .u64 (t:Int))=none∧yF (zbJ i S) (.int .u64 (t:Int)) (.int .i64 ((i+S.length+1:Nat):Int))=zbJ i (S++[t])
 | [],i,t,h=>⟨rfl,rfl⟩
 | x :: S, i, t, h => by
   have hx:¬t=x:=fun e=>h (e ▸ List.mem_cons_self)
   obtain ⟨h1,h2⟩:=zjI (S:=S) (i:=i+1) (t:=t) fun hm=>h (List.mem_cons_of_mem _ hm)
   simp only [zbJ,qO,yF,zkO,hx,decide_false,Bool.false_eq_true,if_false,List.cons_append]
   refine ⟨h1,?_⟩
   rw [←h2,List.length_cons,show i+(S.length+1)+1=i+1+S.length+1 by omega]
theorem zjJ:∀ {S:List Nat} {i j t:Nat},S.Nodup→S[j]?=some t→qO (zbJ i S) (.int .u64 (t:Int))=some (.int .i64 ((i+j+1:Nat):Int))
 | [],i,j,t,hn,h=>by simp at h
 | x :: S, i, 0, t, hn, h => by
   simp only [List.getElem?_cons_zero,Option.some.injEq] at h
   subst h
   simp only [zbJ,qO,zkO,decide_true,if_true]
 | x :: S, i, j + 1, t, hn, h => by
   simp only [List.getElem?_cons_succ] at h
   have hx:¬t=x:=fun e=>(List.nodup_cons.1 hn).1 (e ▸ List.mem_of_getElem? h)
   have ih:=zjJ (i:=i+1) (List.nodup_cons.1 hn).2 h
   simp only [zbJ,qO,zkO,hx,decide_false,Bool.false_eq_true,if_false]
   rw [ih,show i+(j+1)+1=i+1+j+1 by omega]
theorem zr7 {S:List Nat} {t:Nat} (h:t∉S):qO (zii S) (.int .u64 (t:Int))=none∧yF (zii S) (.int .u64 (t:Int)) (.int .i64 ((S.length+1:Nat):Int))=zii (S++[t]):=by
 have:=zjI (i:=0) h
 rw [Nat.zero_add] at this
 exact this
theorem zr8 {S:List Nat} {j t:Nat} (hn:S.Nodup) (h:S[j]?=some t):qO (zii S) (.int .u64 (t:Int))=some (.int .i64 ((j+1:Nat):Int)):=by
 have:=zjJ (i:=0) hn h
 rw [Nat.zero_add] at this
 exact this
def RT.z (r:RT):Wz:=⟨(r.wr ([],[])).1.1,(r.wr ([],[])).1.2,(r.wr ([],[])).2⟩
def seQ (r:RT) (v:Value) (L1:List Ent):Prop:=(∃ n,v=.tuple #[.agg #[.int .i64 0,.slice none 0 0,.slice none 0 0,.slice none 0 0],xh n]∧L1=[]) ∨
 ∃ y F kc,v=.tuple #[MA.v y,.nilIface]∧L1=[frE 82 F]∧MFz F y∧Can y.m kc∧r.pos≤64∧∀ t,BT t→lng y.m y.m.start.toNat t=r.z.acc (r.z.run 0 t)
structure CtG where
 i:Nat
 S:List Nat
 sa:Option Addr
 sc:Nat
 rows:List (List Nat)
 nr:List RA
 na:Option Addr
 nc:Nat
 accs:List Bool
 ra:Option Addr
 rc:Nat
 F:List Frz
structure CuG where
 c:Nat
 S:List Nat
 sa:Option Addr
 sc:Nat
 row:List Nat
theorem zwr {w0 w:World} {fp:List Nat} {b:Nat} (h:R w0 fp [.box 29 b [.slice none 0 0,.slice none 0 0] xx] w):R w0 fp (wL b ([],[]) none 0 none 0) w :=
 (Ref.takes (w0:=w0) (fp0:=fp) [29,7001,7002] rfl (.box rfl (Thin.refl _))) w ((h.ownNil 7002 qd 1).ownNil 7001 zh 4)
abbrev wK (b:Nat) (st:WS) (sa:Option Addr) (sc:Nat) (fa:Option Addr) (fc:Nat):List Ent :=
 [.box 29 b [.slice sa st.1.length sc,.slice fa st.2.length fc] xx,.own 7001 sa st.1.length sc zh 4 (lsL st.1),.own 7002 fa st.2.length fc qd 1 (ulL st.2)]
theorem zt2 {w0 w:World} {fp:List Nat} {b:Nat} {st:WS} {sa:Option Addr} {sc:Nat} {fa:Option Addr} {fc:Nat} (h:R w0 fp (wL b st sa sc fa fc) w):R w0 fp (wK b st sa sc fa fc) w :=
 (Ref.takes (w0:=w0) (fp0:=fp) [7000,7001,7002] rfl (.box rfl (Thin.refl _))) w h
theorem zwS {w0 w:World} {fp:List Nat} {b:Nat} {st:WS} {sa:Option Addr} {sc:Nat} {fa:Option Addr} {fc:Nat} (h:R w0 fp (wK b st sa sc fa fc) w):R w0 fp (wL b st sa sc fa fc) w :=
 (Ref.takes (w0:=w0) (fp0:=fp) [29,7001,7002] rfl (.box rfl (Thin.refl _))) w h
def sqK (b:Nat) (r:WS × Pz) (v:Value) (L1:List Ent):Prop:=∃ sa sc fa fc,v=r.2.v∧L1=wK b r.1 sa sc fa fc
theorem znX (r:RT) (hs:r.size≤4096) (hPl:r.Pl) (hp:r.pos≤64) (b:Nat) (fp:List Nat) (w:World) (hG:zkM w fp) (hI:RIn w fp r) (hR:R w fp [.box 29 b [.slice none 0 0,.slice none 0 0] xx] w) :
 Calls Tryz.prog qi #[pS b,r.v] w fun e w'=>∃ v L1,e=.returned v∧R w fp L1 w'∧sqK b (r.wr ([],[])) v L1 :=
 (zhf 4096 (Nat.le_refl _) r hs hPl b ([],[]) none 0 none 0 ⟨rfl,fun x h=>by cases h⟩ (by simpa using hp) fp w hG hI (zwr hR)).mono fun e w' ⟨v,L1,he,hR',sa,sc,fa,fc,hv,hL⟩=>by
  subst hL
  exact ⟨v,_,he,zt2 hR',sa,sc,fa,fc,hv,rfl⟩
theorem znY (b:Nat) (st:WS) (sa:Option Addr) (sc:Nat) (fa:Option Addr) (fc:Nat) (fr:Nat) (hw:WOk st) (hl:st.1.length≤64) (hfr:fr<2 ^ st.1.length) (fp:List Nat) (w:World) (hG:zkM w fp) (hR:R w fp (wK b st sa sc fa fc) w) :
 Calls Tryz.prog yE #[pS b,.int .u64 (fr:Int)] w fun e w'=>∃ v L1,e=.returned v∧R w fp L1 w'∧(v=.int .u64 (aft st.2 fr:Nat)∧L1=wK b st sa sc fa fc) :=
 (zoF b st sa sc fa fc fr hw hl hfr fp w hG (zwS hR)).mono fun e w' ⟨v,L1,he,hR',hv,hL⟩=>by
  subst hL
  exact ⟨v,_,he,zt2 hR',hv,rfl⟩
theorem zjK (r:RT) (hs:r.size≤4096) (hPl:r.Pl) (w:World) (hG:Tab w) (hin:RIn w [] r) (hpl:RPl w r) :
 Calls Tryz.prog vo #[r.v,.bool true] w fun e w'=>∃ v L1,e=.returned v∧R w [] L1 w'∧seQ r v L1:=by
 refine zV [.v r.v,.v (.bool true)] zuK (by simp) ?_
 have cC:=fun (W:World) (L':List Ent) (hR:R w [] L' W)=>znV r hs hPl W (fun x hx=>(hin x hx).cast hR (fun _ h=>by cases h)) (hpl.later hR)
 have hw0:WOk ([],[]):=⟨rfl,fun x h=>by cases h⟩
 have cW:=fun (hp:r.pos≤64) (b:Nat) (fp:List Nat) (W:World) hG hI hR=>znX r hs hPl hp b fp W hG hI hR
 have hwk:=fun (hp:r.pos≤64)=>RT.wr_ok r ([],[]) hw0 (by simpa using hp)
 have hz:r.z=⟨(r.wr ([],[])).1.1,(r.wr ([],[])).1.2,(r.wr ([],[])).2⟩:=rfl
 obtain ⟨q,hq⟩:∃ q,r.wr ([],[])=q:=⟨_,rfl⟩
 rw [hq] at cW hwk hz
 have cK:=fun (hp:r.pos≤64) (W:World) (L':List Ent) (hR:R w [] L' W) (sa:Option Addr) (sc:Nat) hI=>zlQ q.1.1 (by have:=(hwk hp).2.2.1;simpa using Nat.le_trans this (by simpa using hp)) sa sc W (hG.cast hR (fun _ h=>by cases h)) hI
 have hrc:∃ k s mn mx ps a c,r=.mk k s mn mx ps a c:=by cases r;exact ⟨_,_,_,_,_,_,_,rfl⟩
 obtain ⟨k,s,mn,mx,ps0,a,c,hr⟩:=hrc
 have hrv:r.v=RT.v (.mk k s mn mx ps0 a c):=by rw [hr]
 rw [hrv] at cC cW ⊢
 obtain ⟨⟨ss,fol⟩,whole⟩:=q
 obtain ⟨wn,wf,wl⟩:=whole
 (repeat' ((conv=>whnf);first|(refine zA (fun w' hR=>cC w' _ hR) ?_;rintro _ _ ⟨rfl,⟨hp,rfl⟩|⟨n,rfl⟩⟩;all_goals refine ⟨.v _,rfl,?_⟩)|(refine zL [29] rfl (fun w' hR hR0=>cW hp _ _ w' (hG.castL hR) (RIn.castL hin hR) hR0) ?_;rintro _ _ ⟨wsa,wsc,wfa,wfc,rfl,rfl⟩;refine ⟨.v _,rfl,?_⟩)|(refine zA (fun w' hR=>cK hp w' _ hR _ _ (In.ownR (key:=7001) hR rfl)) ?_;rintro _ _ ⟨ps,cls,ca,cc,aa,ac,rfl,rfl,hP,hH,hCI⟩;refine ⟨.v _,rfl,?_⟩)|refine ⟨.sl 7001 _ _ _,⟨rfl,rfl,rfl,rfl⟩,?_⟩|refine ⟨_,⟨rfl,trivial⟩,?_⟩|(refine zd (fun h=>?_) (fun h=>?_)<;>try (exfalso;omega))|(refine zc (fun h=>?_) (fun h=>?_)<;>try (exfalso;omega))|(refine za (fun h=>?_) (fun h=>?_)<;>(try simp only [zqa,zqb,zqc,zqd,zqe,zqf,zqg] at h))|refine pay ?_|intro _));(all_goals (conv=>whnf))
 all_goals try (exfalso;omega)
 ·rename_i b2 b4 b29 b8 b9 mb
  obtain ⟨wok,pok,wl1,_⟩:=hwk hp
  obtain ⟨pok1,pok2⟩:=pok
  dsimp only at wok pok1 pok2 wl1
  have hss:ss.length≤64:=by simp at wl1;omega
  have hfl:fol.length=ss.length:=wok.len
  obtain ⟨hps1,hps2⟩:=hP.len
  obtain ⟨al,hal⟩:∃ al,kY ps ss ps.length=al:=⟨_,rfl⟩
  have hall:al.length=ps.length:=by rw [←hal];exact znN ..
  have halg:∀ c,c<ps.length→al.getD c 0=zX ss (ps.getD c default) ss.length:=fun c hc=>by rw [←hal,znO _ _ _ _ hc,if_pos hc]
  have hal2:∀ c,c<ps.length→al.getD c 0<2 ^ ss.length:=fun c hc=>by rw [halg c hc];exact zie ..
  rw [hal]
  obtain ⟨z,hzz⟩:∃ z:Wz,z=⟨ss,fol,⟨wn,wf,wl⟩⟩:=⟨_,rfl⟩
  have zss:z.ss=ss:=by rw [hzz]
  have zfol:z.fol=fol:=by rw [hzz]
  have zp:z.p=⟨wn,wf,wl⟩:=by rw [hzz]
  rw [←hzz] at hz
  have h264:(2:Nat) ^ ss.length≤2 ^ 64:=Nat.pow_le_pow_right (by decide) hss
  have uf:wf<18446744073709551616:=Nat.lt_of_lt_of_le pok1 h264
  have ul:wl<18446744073709551616:=Nat.lt_of_lt_of_le pok2 h264
  refine zu CtG (fun g=>[(1,.v (.bool true)),(4,.ptr 4 b4 0),(5,.v .nilIface),(7,.ptr 29 b29 0),(8,.ptr 8 b8 0),(9,.ptr 9 b9 0),(10,.sl 818 aa ps.length ac),(11,.sl 104 g.sa g.S.length g.sc),(12,.mp 41 mb),(13,.v (.int .i64 (g.i:Int)))])
   (fun g=>wK b29 (ss,fol) wsa wsc wfa wfc++[.box 8 b8 [.bool wn,.int .u64 (wf:Int),.int .u64 (wl:Int)] zJ,.box 9 b9 [.int .i64 0,.slice ca 256 cc,.slice g.na g.i g.nc,.slice g.ra g.i g.rc] zg,.own 801 ca 256 cc zj 1 (enL cls),.own 818 aa ps.length ac qd 1 (ulL al),.own 104 g.sa g.S.length g.sc qd 1 (ulL g.S),.mapE 41 mb (.int .u64) (zii g.S),.own 124 g.na g.i g.nc zY 1 (g.nr.map RA.v),.own 130 g.ra g.i g.rc zU 1 (g.accs.map Value.bool),frE 79 g.F,.box 4 b4 mz zg])
   (fun g=>CsI z al g.i g.S g.rows g.accs∧g.S.length≤255∧g.nr.map RA.xs=g.rows.map (fun r=>r.map Int.ofNat)∧∀ r∈g.nr,FIn g.F r.a (zo .i64 r.xs)) (fun g=>256 - g.i)
   ⟨0,[],none,0,[],[],none,0,[],none,0,[]⟩ ⟨CsI.start z al,Nat.zero_le _,rfl,fun r hr=>by cases hr⟩ (by (repeat ((conv=>whnf);refine vS ?_));exact trivial)
   ((Ref.ownNil 104 qd 1).trans ((Ref.ownNil 124 zY 1).trans ((Ref.ownNil 130 zU 1).trans ((Ref.freezeNew 79).trans (Ref.takes [29,7001,7002,8,9,801,818,104,41,124,130,79,4] rfl (Thin.refl _)))))) ?_
  rintro ⟨i,S,sa,sc,rows,nr,na,nc,accs,ra,rc,F⟩ ⟨hI,hSl,hnr,hfr⟩
  dsimp only at hI hSl hnr hfr ⊢
  have hile:=hI.le
  by_cases hlt:i≤S.length
  ·obtain ⟨cur,hcur⟩:∃ c,(if i=0 then 0 else S.getD (i - 1) 0)=c:=⟨_,rfl⟩
   have hcl:cur<2 ^ ss.length:=by
    rw [←hcur]
    split
    ·exact Nat.pow_pos (by decide)
    ·have:=hI.lt _ (zI (d:=0) (show i - 1<S.length by omega))
     rwa [zss] at this
   have hcl64:cur<18446744073709551616:=Nat.lt_of_lt_of_le hcl h264
   have hnx:z.nx cur=aft fol cur|||wf:=by unfold Wz.nx;rw [zfol,zp]
   have hafl:aft fol cur<18446744073709551616:=zwo (n:=64) wok.lt
   have hnl:z.nx cur<18446744073709551616:=by rw [hnx];exact Nat.or_lt_two_pow (n:=64) hafl uf
   have hac:z.acc cur=(decide (cur&&&wl≠0)||wn):=by unfold Wz.acc;rw [zp]
   (repeat' ((conv=>whnf);first|refine ⟨_,⟨rfl,trivial⟩,?_⟩|(refine zd (fun h=>?_) (fun h=>?_)<;>try (exfalso;omega))|(refine zc (fun h=>?_) (fun h=>?_)<;>try (exfalso;omega))|(refine za (fun h=>?_) (fun h=>?_)<;>(try simp only [zqa,zqb,zqc,zqd,zqe,zqf,zqg] at h))|refine pay ?_|intro _));(all_goals (conv=>whnf))
   all_goals try (exfalso;omega)
   refine zfw Unit (fun _=>[(1,.v (.bool true)),(4,.ptr 4 b4 0),(5,.v .nilIface),(7,.ptr 29 b29 0),(8,.ptr 8 b8 0),(9,.ptr 9 b9 0),(10,.sl 818 aa ps.length ac),(11,.sl 104 sa S.length sc),(12,.mp 41 mb),(13,.v (.int .i64 (i:Int))),(14,.v (.int .u64 (z.nx cur:Nat))),(15,.v (.bool (z.acc cur)))])
    (fun _=>wK b29 (ss,fol) wsa wsc wfa wfc++[.box 8 b8 [.bool wn,.int .u64 (wf:Int),.int .u64 (wl:Int)] zJ,.box 9 b9 [.int .i64 0,.slice ca 256 cc,.slice na i nc,.slice ra i rc] zg,.own 801 ca 256 cc zj 1 (enL cls),.own 818 aa ps.length ac qd 1 (ulL al),.own 104 sa S.length sc qd 1 (ulL S),.mapE 41 mb (.int .u64) (zii S),.own 124 na i nc zY 1 (nr.map RA.v),.own 130 ra i rc zU 1 (accs.map Value.bool),frE 79 F,.box 4 b4 mz zg])
    (fun _=>True) ?_ ?_
   ·by_cases h0:i=0
    ·rw [if_pos h0] at hcur
     have hnx0:z.nx cur=wf:=by rw [hnx,←hcur,znR,Nat.zero_or]
     have hac0:z.acc cur=wn:=by rw [hac,←hcur,Nat.zero_and];simp
     rw [hnx0,hac0]
     (repeat' ((conv=>whnf);first|(refine zd (fun h=>?_) (fun h=>?_)<;>try (exfalso;omega))|(refine zc (fun h=>?_) (fun h=>?_)<;>try (exfalso;omega))|(refine za (fun h=>?_) (fun h=>?_)<;>(try simp only [zqa,zqb,zqc,zqd,zqe,zqf,zqg] at h))|refine pay ?_|intro _));(all_goals (conv=>whnf))
     all_goals try (exfalso;omega)
     exact vf () trivial (by (repeat ((conv=>whnf);refine vS ?_));exact trivial) (Ref.refl _)
    ·rw [if_neg h0] at hcur
     have hi1:i - 1<S.length:=by omega
     have q0:(((i:Nat):Int) - 1).toNat=i - 1:=by omega
     have hat:=zgb hi1
     have hisk:=zd7 hi1
     have hsl:=zgv S
     rw [hcur] at hat
     have hor:((((aft fol cur:Nat):Int).toNat|||((wf:Nat):Int).toNat:Nat):Int)=((aft fol cur|||wf:Nat):Int):=by rw [Int.toNat_natCast,Int.toNat_natCast]
     have hand:((((cur:Nat):Int).toNat&&&((wl:Nat):Int).toNat:Nat):Int)=((cur&&&wl:Nat):Int):=by rw [Int.toNat_natCast,Int.toNat_natCast]
     have cA:=fun (fp:List Nat) (W:World) hG hR=>znY b29 (ss,fol) wsa wsc wfa wfc cur wok hss hcl fp W hG hR
     rw [hnx]
     by_cases hz0:cur&&&wl=0
     ·have hac0:z.acc cur=wn:=by rw [hac,hz0];simp
      rw [hac0]
      (repeat' ((conv=>whnf);first|rw [q0]|rw [hat]|rw [hor]|rw [hand]|(refine zL [29,7001,7002] rfl (fun w' hR hR0=>cA _ w' (hG.castL hR) hR0) ?_;rintro _ _ ⟨rfl,rfl⟩;refine ⟨.v _,rfl,?_⟩)|refine ⟨_,⟨rfl,trivial⟩,?_⟩|(refine zd (fun h=>?_) (fun h=>?_)<;>try (exfalso;omega))|(refine zc (fun h=>?_) (fun h=>?_)<;>try (exfalso;omega))|(refine za (fun h=>?_) (fun h=>?_)<;>(try simp only [zqa,zqb,zqc,zqd,zqe,zqf,zqg] at h))|refine pay ?_|refine And.intro (by first|exact ⟨rfl,hisk⟩|exact ⟨by omega,by omega,by omega,by omega⟩) ?_|intro _));(all_goals (conv=>whnf))
      all_goals try (exfalso;omega)
      all_goals exact vf () trivial (by (repeat ((conv=>whnf);refine vS ?_));exact trivial) (Ref.takes [29,7001,7002,8,9,801,818,104,41,124,130,79,4] rfl (Thin.refl _))
     ·have hac1:z.acc cur=true:=by rw [hac];simp [hz0]
      rw [hac1]
      (repeat' ((conv=>whnf);first|rw [q0]|rw [hat]|rw [hor]|rw [hand]|(refine zL [29,7001,7002] rfl (fun w' hR hR0=>cA _ w' (hG.castL hR) hR0) ?_;rintro _ _ ⟨rfl,rfl⟩;refine ⟨.v _,rfl,?_⟩)|refine ⟨_,⟨rfl,trivial⟩,?_⟩|(refine zd (fun h=>?_) (fun h=>?_)<;>try (exfalso;omega))|(refine zc (fun h=>?_) (fun h=>?_)<;>try (exfalso;omega))|(refine za (fun h=>?_) (fun h=>?_)<;>(try simp only [zqa,zqb,zqc,zqd,zqe,zqf,zqg] at h))|refine pay ?_|refine And.intro (by first|exact ⟨rfl,hisk⟩|exact ⟨by omega,by omega,by omega,by omega⟩) ?_|intro _));(all_goals (conv=>whnf))
      all_goals try (exfalso;omega)
      all_goals exact vf () trivial (by (repeat ((conv=>whnf);refine vS ?_));exact trivial) (Ref.takes [29,7001,7002,8,9,801,818,104,41,124,130,79,4] rfl (Thin.refl _))
   ·rintro ⟨⟩ -
    have hz1:=zlj ps.length
    have qn:((ps.length:Nat):Int).toNat=ps.length:=by omega
    (repeat' ((conv=>whnf);first|rw [qn]|refine ⟨_,⟨rfl,trivial⟩,?_⟩|(refine zd (fun h=>?_) (fun h=>?_)<;>try (exfalso;omega))|(refine zc (fun h=>?_) (fun h=>?_)<;>try (exfalso;omega))|(refine za (fun h=>?_) (fun h=>?_)<;>(try simp only [zqa,zqb,zqc,zqd,zqe,zqf,zqg] at h))|refine pay ?_|intro _));(all_goals (conv=>whnf))
    all_goals try (exfalso;omega)
    rename_i b82
    rw [hz1]
    refine zu CuG (fun g=>[(1,.v (.bool true)),(4,.ptr 4 b4 0),(5,.v .nilIface),(7,.ptr 29 b29 0),(8,.ptr 8 b8 0),(9,.ptr 9 b9 0),(10,.sl 818 aa ps.length ac),(11,.sl 104 g.sa g.S.length g.sc),(12,.mp 41 mb),(13,.v (.int .i64 (i:Int))),(14,.v (.int .u64 (z.nx cur:Nat))),(15,.v (.bool (z.acc cur))),(16,.sl 82 (some ⟨b82,0,none⟩) ps.length ps.length),(83,.sl 818 aa ps.length ac),(84,.v (.int .i64 (ps.length:Int))),(85,.v (.int .i64 (g.c:Int)))])
     (fun g=>wK b29 (ss,fol) wsa wsc wfa wfc++[.box 8 b8 [.bool wn,.int .u64 (wf:Int),.int .u64 (wl:Int)] zJ,.box 9 b9 [.int .i64 0,.slice ca 256 cc,.slice na i nc,.slice ra i rc] zg,.own 801 ca 256 cc zj 1 (enL cls),.own 818 aa ps.length ac qd 1 (ulL al),.own 104 g.sa g.S.length g.sc qd 1 (ulL g.S),.mapE 41 mb (.int .u64) (zii g.S),.own 124 na i nc zY 1 (nr.map RA.v),.own 130 ra i rc zU 1 (accs.map Value.bool),frE 79 F,.box 4 b4 mz zg,.own 82 (some ⟨b82,0,none⟩) ps.length ps.length zj 1 (enL g.row)])
     (fun g=>g.c≤ps.length∧CrI z al (z.nx cur) g.c S g.S g.row) (fun g=>ps.length - g.c) ⟨0,S,sa,sc,List.replicate ps.length 0⟩ ⟨Nat.zero_le _,by have:=CrI.start hI (z.nx cur);rwa [hall] at this⟩ (by (repeat ((conv=>whnf);refine vS ?_));exact trivial)
     (Ref.takes [29,7001,7002,8,9,801,818,104,41,124,130,79,4,82] rfl (Thin.refl _)) ?_
    rintro ⟨c,S',sa',sc',row⟩ ⟨hc,hCr⟩
    dsimp only at hc hCr ⊢
    have hal3:=hCr.most
    by_cases hcl:c<ps.length
    ·obtain ⟨t,ht⟩:∃ t,z.nx cur&&&al.getD c 0=t:=⟨_,rfl⟩
     have q0:((c:Nat):Int).toNat=c:=by omega
     have hat:=zgb (l:=al) (j:=c) (by omega)
     have hisk:=zd7 (l:=al) (j:=c) (by omega)
     have ha64:al.getD c 0<18446744073709551616:=Nat.lt_of_lt_of_le (hal2 c hcl) h264
     have hand:((((z.nx cur:Nat):Int).toNat&&&((al.getD c 0:Nat):Int).toNat:Nat):Int)=((t:Nat):Int):=by rw [Int.toNat_natCast,Int.toNat_natCast,ht]
     have hrl:row.length=ps.length:=by rw [hCr.rl,hall]
     have hlr:=yz row
     by_cases hm:t∈S'
     ·obtain ⟨j,hj⟩:=List.getElem?_of_mem hm
      have hg:=zr8 hCr.nod hj
      have hsp:=qP (l:=row) (q:=c) (v:=j+1) (by omega)
      have hC':=hCr.old (by omega) (t:=j) (by rw [ht];exact hj)
      have hjl:=(List.getElem?_eq_some_iff.1 hj).1
      (repeat' ((conv=>whnf);first|rw [q0]|rw [hat]|rw [hand]|rw [hsp]|refine jN hg ?_|refine ⟨.sl 818 _ _ _,⟨rfl,rfl,rfl,rfl⟩,?_⟩|refine ⟨_,⟨rfl,trivial⟩,?_⟩|(refine zd (fun h=>?_) (fun h=>?_)<;>try (exfalso;omega))|(refine zc (fun h=>?_) (fun h=>?_)<;>try (exfalso;omega))|(refine za (fun h=>?_) (fun h=>?_)<;>(try simp only [zqa,zqb,zqc,zqd,zqe,zqf,zqg] at h))|refine pay ?_|refine And.intro (by first|exact ⟨rfl,hisk⟩|exact ⟨by omega,by omega,by omega,by omega⟩|exact ⟨rfl,rfl,_,rfl⟩) ?_|intro _));(all_goals (conv=>whnf))
      all_goals try (exfalso;omega)
      exact zi (⟨c+1,S',sa',sc',row.set c (j+1)⟩:CuG) ⟨hcl,hC'⟩ (by dsimp only;omega) (by (repeat ((conv=>whnf);refine vS ?_));exact trivial) (Ref.takes [29,7001,7002,8,9,801,818,104,41,124,130,79,4,82] rfl (Thin.refl _))
     ·obtain ⟨hg,hg2⟩:=zr7 hm
      have hsp:=qP (l:=row) (q:=c) (v:=S'.length+1) (by omega)
      have hC':=hCr.new (by omega) (by rw [ht];exact hm) (by rw [zss];exact hal2 c hcl)
      rw [ht] at hC'
      have hap:ulL S'++[.int .u64 (t:Int)]=ulL (S'++[t]):=by simp [ulL,zo]
      have hl1:(S'++[t]).length=S'.length+1:=by simp
      (repeat' ((conv=>whnf);first|rw [q0]|rw [hat]|rw [hand]|rw [hsp]|rw [hap]|rw [hg2]|refine uY hg ?_|refine ⟨.sl 818 _ _ _,⟨rfl,rfl,rfl,rfl⟩,?_⟩|refine ⟨_,⟨rfl,trivial⟩,?_⟩|(refine zd (fun h=>?_) (fun h=>?_)<;>try (exfalso;omega))|(refine zc (fun h=>?_) (fun h=>?_)<;>try (exfalso;omega))|(refine za (fun h=>?_) (fun h=>?_)<;>(try simp only [zqa,zqb,zqc,zqd,zqe,zqf,zqg] at h))|refine pay ?_|refine And.intro (by first|exact ⟨rfl,hisk⟩|exact ⟨by omega,by omega,by omega,by omega⟩|exact ⟨rfl,rfl,_,rfl⟩) ?_|intro _));(all_goals (conv=>whnf))
      all_goals try (exfalso;omega)
      rename_i b103 a2 c2
      exact zi (⟨c+1,S'++[t],a2,c2,row.set c (S'.length+1)⟩:CuG) ⟨hcl,hC'⟩ (by dsimp only;omega) (by dsimp only;rw [hl1];(repeat ((conv=>whnf);refine vS ?_));exact trivial) (by dsimp only;rw [hl1];exact Ref.takes [29,7001,7002,8,9,801,818,104,41,124,130,79,4,82] rfl (Thin.refl _))
    ·obtain rfl:c=ps.length:=by omega
     have hrl:row.length=ps.length:=by rw [hCr.rl,hall]
     rw [←hall] at hCr
     by_cases hfull:256≤S'.length
     ·(repeat' ((conv=>whnf);first|refine ⟨_,⟨rfl,trivial⟩,?_⟩|(refine zd (fun h=>?_) (fun h=>?_)<;>try (exfalso;omega))|(refine zc (fun h=>?_) (fun h=>?_)<;>try (exfalso;omega))|(refine za (fun h=>?_) (fun h=>?_)<;>(try simp only [zqa,zqb,zqc,zqd,zqe,zqf,zqg] at h))|refine pay ?_|intro _));(all_goals (conv=>whnf))
      all_goals try (exfalso;omega)
      exact ⟨⟨[],Ref.takes [] rfl (.nil _),.inl ⟨9,rfl,rfl⟩⟩⟩
     ·have hI':=hI.next hlt (by rw [hcur];exact hCr)
      rw [hcur] at hI'
      have hnv:nr.map RA.v++[Value.slice (some ⟨b82,0,none⟩) ps.length ps.length]=(nr++[(⟨row.map Int.ofNat,some ⟨b82,0,none⟩,ps.length⟩:RA)]).map RA.v:=by
       rw [List.map_append,List.map_singleton]
       unfold RA.v
       rw [List.length_map,hrl]
      have hav:accs.map Value.bool++[.bool (z.acc cur)]=(accs++[z.acc cur]).map Value.bool:=by rw [List.map_append];rfl
      (repeat' ((conv=>whnf);first|rw [hnv]|rw [hav]|refine ⟨.sl 124 _ _ _,⟨rfl,rfl,rfl,rfl⟩,?_⟩|refine ⟨.sl 130 _ _ _,⟨rfl,rfl,rfl,rfl⟩,?_⟩|refine ⟨_,⟨rfl,trivial⟩,?_⟩|(refine zd (fun h=>?_) (fun h=>?_)<;>try (exfalso;omega))|(refine zc (fun h=>?_) (fun h=>?_)<;>try (exfalso;omega))|(refine za (fun h=>?_) (fun h=>?_)<;>(try simp only [zqa,zqb,zqc,zqd,zqe,zqf,zqg] at h))|refine pay ?_|refine And.intro (by first|exact ⟨by unfold maxLen;omega,by omega⟩) ?_|intro _));(all_goals (conv=>whnf))
      all_goals try (exfalso;omega)
      rename_i b123 a124 c124 b129 a130 c130
      refine zi (⟨i+1,S',sa',sc',rows++[row],nr++[⟨row.map Int.ofNat,some ⟨b82,0,none⟩,ps.length⟩],a124,c124,accs++[z.acc cur],a130,c130,⟨some ⟨b82,0,none⟩,ps.length,ps.length,enL row⟩::F⟩:CtG) ⟨hI',by dsimp only;omega,?_,?_⟩ (by dsimp only;omega) (by (repeat ((conv=>whnf);refine vS ?_));exact trivial) ?_
      ·dsimp only
       rw [List.map_append,List.map_append,hnr];rfl
      ·intro r hr
       rcases List.mem_append.1 hr with hr|hr
       ·exact (hfr r hr).tail
       ·rw [List.mem_singleton] at hr
        subst hr
        exact FIn.head
      ·dsimp only
       exact (Ref.takes [82,79,29,7001,7002,8,9,801,818,104,41,124,130,4] rfl (Thin.refl _)).trans (Ref.freezeRow.trans (Ref.takes [29,7001,7002,8,9,801,818,104,41,124,130,79,4] rfl (Thin.refl _)))
  ·obtain rfl:i=S.length+1:=by omega
   have hclen:=hCI.len
   have hcl2:∀ x,x<256→cls.getD x 0<al.length:=fun x hx=>by rw [hall];rcases hCI.lt x with h|h<;>omega
   have hm2:∀ x,x<256→al.getD (cls.getD x 0) 0=zgd z.ss x:=fun x hx=>by
    obtain ⟨p,hpm,hpx⟩:=hP.cover x hx
    obtain ⟨j,hj⟩:=List.getElem?_of_mem hpm
    have hjl:=(List.getElem?_eq_some_iff.1 hj).1
    rw [hCI.cl j p x hjl hj hx hpx,halg j hjl,zss,List.getD_eq_getElem?_getD,hj]
    exact zr6 hH hpm hx hpx
   have hM:=zwq hI hSl hclen (by rw [hall];exact ⟨hps1,hps2⟩) hcl2
   have hL:=zpp hI hcl2 hclen hm2
   obtain ⟨x,hx⟩:∃ x:MA,x=⟨0,cls.map Int.ofNat,ca,cc,nr,na,nc,accs,ra,rc⟩:=⟨_,rfl⟩
   have hxm:x.m=zcz cls rows accs:=by rw [hx];unfold MA.m zcz;dsimp only;rw [hnr]
   rw [←hxm] at hM hL
   have hnrl:nr.length=S.length+1:=by
    have:=congrArg List.length hnr
    rw [List.length_map,List.length_map,hI.rl] at this;exact this
   have hxv:x.v=.agg #[.int .i64 0,.slice ca 256 cc,.slice na (S.length+1) nc,.slice ra (S.length+1) rc]:=by
    rw [hx]
    unfold MA.v MA.cells
    dsimp only
    rw [List.length_map,hclen,hnrl,hI.acl]
   have cM:=fun (W:World) (hI:McI W [] x)=>uj 82 x hI hM
   rw [hxv] at cM
   have hMc:∀ {L':List Ent} {W:World},R w [] L' W→In W [] ca (enL cls)→In W [] na (nr.map RA.v)→In W [] ra (accs.map Value.bool)→frE 79 F∈L'→McI W [] x:=fun hR h1 h2 h3 h4=>by
    rw [hx]
    exact ⟨h1,h2,h3,fun r hr=>(hfr r hr).in_ hR h4⟩
   (repeat' ((conv=>whnf);first|(refine zA (fun w' hR=>cM w' (hMc hR (In.ownR (key:=801) hR rfl) (In.ownR (key:=124) hR rfl) (In.ownR (key:=130) hR rfl) ((zQ (key:=79) rfl).mem_iff.2 List.mem_cons_self))) ?_;rintro _ _ ⟨y,F',kc,rfl,rfl,hy,hC,hSm⟩;refine ⟨.v _,rfl,?_⟩)|refine ⟨_,⟨rfl,trivial⟩,?_⟩|(refine zd (fun h=>?_) (fun h=>?_)<;>try (exfalso;omega))|(refine zc (fun h=>?_) (fun h=>?_)<;>try (exfalso;omega))|(refine za (fun h=>?_) (fun h=>?_)<;>(try simp only [zqa,zqb,zqc,zqd,zqe,zqf,zqg] at h))|refine pay ?_|intro _));(all_goals (conv=>whnf))
   all_goals try (exfalso;omega)
   have hx0:x.m.start.toNat=0:=by rw [hxm];rfl
   refine ⟨⟨_,Ref.takes [82] rfl (Thin.refl _),.inr ⟨y,F',kc,rfl,rfl,hy,hC,hp,fun t ht=>?_⟩⟩⟩
   have h1:=hSm t ht
   rw [hx0,hL t 0 (Nat.zero_le _) ht] at h1
   rw [hz];exact h1
 ·exact ⟨⟨[],Ref.takes [] rfl (.nil _),.inl ⟨n,rfl,rfl⟩⟩⟩
theorem znZ (r:RT) (hs:r.size≤4096) (hPl:r.Pl) (w:World) (hG:Tab w) (hin:RIn w [] r) (hpl:RPl w r) :
 Calls Tryz.prog ut #[r.v] w fun e w'=>∃ v L1,e=.returned v∧R w [] L1 w'∧seQ r v L1:=by
 refine zV [.v r.v] zgS (by simp) ?_
 have cC:=fun (W:World) (L':List Ent) (hR:R w [] L' W)=>zjK r hs hPl W (hG.cast hR (fun _ h=>by cases h)) (fun x hx=>(hin x hx).cast hR (fun _ h=>by cases h)) (hpl.later hR)
 have hrc:∃ k s mn mx ps a c,r=.mk k s mn mx ps a c:=by cases r;exact ⟨_,_,_,_,_,_,_,rfl⟩
 obtain ⟨k,s,mn,mx,ps0,a,c,hr⟩:=hrc
 have hrv:r.v=RT.v (.mk k s mn mx ps0 a c):=by rw [hr]
 rw [hrv] at cC ⊢
 (repeat' ((conv=>whnf);first|(refine zA (fun w' hR=>cC w' _ hR) ?_;rintro _ _ (⟨n,rfl,rfl⟩|⟨y,F,kc,rfl,rfl,hy,hC,hp,hL⟩);all_goals refine ⟨.v _,rfl,?_⟩)|refine ⟨_,⟨rfl,trivial⟩,?_⟩|(refine zd (fun h=>?_) (fun h=>?_)<;>try (exfalso;omega))|(refine zc (fun h=>?_) (fun h=>?_)<;>try (exfalso;omega))|(refine za (fun h=>?_) (fun h=>?_)<;>(try simp only [zqa,zqb,zqc,zqd,zqe,zqf,zqg] at h))|refine pay ?_|intro _));(all_goals (conv=>whnf))
 ·exact ⟨⟨[],Ref.takes [] rfl (.nil _),.inl ⟨n,rfl,rfl⟩⟩⟩
 ·exact ⟨⟨_,Ref.takes [82] rfl (Thin.refl _),.inr ⟨y,F,kc,rfl,rfl,hy,hC,hp,hL⟩⟩⟩
abbrev lsZ:Ls:=⟨0,0,0,0,by decide,by decide,by decide,by decide⟩
abbrev ltR (x:Nat):RT:=.mk 2 (yX x) 0 0 [] none 0
def zas (xs:List Nat) (a:Option Addr) (c:Nat):RT:=match xs with
 | []=>.mk 1 lsZ 0 0 [] none 0
 | [x]=>ltR x
 | xs=>.mk 3 lsZ 0 0 (xs.map ltR) a c
theorem zr9 (x:Nat) (hx:x<256) (w:World):Calls Tryz.prog zcq #[.int .u8 (x:Int)] w fun e w'=>e=.returned (ltR x).v∧Ext w w':=by
 refine zx [.v (.int .u8 (x:Int))] w znx (by simp) ?_
 have cL:=fun (b:Nat) (c:Nat) (W:World) hI=>zp7 x hx (some ⟨b,0,none⟩) c W hI
 (repeat' ((conv=>whnf);first|refine zm (.v (yX x).v) (fun w' hR=>cL _ _ w' (In.ownR (key:=4) hR rfl)) ?_|refine ⟨_,⟨rfl,trivial⟩,?_⟩|(refine zd (fun h=>?_) (fun h=>?_)<;>try (exfalso;omega))|(refine zc (fun h=>?_) (fun h=>?_)<;>try (exfalso;omega))|(refine za (fun h=>?_) (fun h=>?_)<;>(try simp only [zqa,zqb,zqc,zqd,zqe,zqf,zqg] at h))|refine pay ?_|intro _));(all_goals (conv=>whnf))
 all_goals try (exfalso;omega)
 exact ⟨rfl⟩
theorem zqn (xs:List Nat) (hl:xs.length≤4096) (a:Option Addr) (c:Nat) (w:World) (hin:In w [] a (rtL (xs.map ltR))):Calls Tryz.prog uu #[.slice a xs.length c] w fun e w'=>e=.returned (zas xs a c).v∧Ext w w':=by
 refine zx [.v (.slice a xs.length c)] w zgP (by simp) ?_
 match xs,hl,hin with
 | [], hl, hin =>
   (repeat' ((conv=>whnf);first|refine ⟨_,⟨rfl,trivial⟩,?_⟩|(refine zd (fun h=>?_) (fun h=>?_)<;>try (exfalso;omega))|(refine zc (fun h=>?_) (fun h=>?_)<;>try (exfalso;omega))|(refine za (fun h=>?_) (fun h=>?_)<;>(try simp only [zqa,zqb,zqc,zqd,zqe,zqf,zqg] at h))|refine pay ?_|intro _));(all_goals (conv=>whnf))
   all_goals try (exfalso;omega)
   exact ⟨rfl⟩
 | [x], hl, hin =>
   have rd:=fun {L:List Ent}=>hin.rdn (L:=L) (k:=0) (vs:=(ltR x).cells) (show 0<8 by decide) rfl
   have hne:a≠none:=hin.ne' (k:=0) (by rw [zaq];simp)
   (repeat' ((conv=>whnf);first|refine ⟨(ltR x).cells,rfl,rd,?_⟩|refine ⟨_,⟨rfl,trivial⟩,?_⟩|(refine zd (fun h=>?_) (fun h=>?_)<;>try (exfalso;omega))|(refine zc (fun h=>?_) (fun h=>?_)<;>try (exfalso;omega))|(refine za (fun h=>?_) (fun h=>?_)<;>(try simp only [zqa,zqb,zqc,zqd,zqe,zqf,zqg] at h))|refine pay ?_|intro _));(all_goals (conv=>whnf))
   all_goals try (exfalso;omega)
   exact ⟨rfl⟩
 | x :: y :: xs, hl, hin =>
   have h2:(x::y::xs).length=xs.length+2:=rfl
   (repeat' ((conv=>whnf);first|refine ⟨_,⟨rfl,trivial⟩,?_⟩|(refine zd (fun h=>?_) (fun h=>?_)<;>try (exfalso;omega))|(refine zc (fun h=>?_) (fun h=>?_)<;>try (exfalso;omega))|(refine za (fun h=>?_) (fun h=>?_)<;>(try simp only [zqa,zqb,zqc,zqd,zqe,zqf,zqg] at h))|refine pay ?_|intro _));(all_goals (conv=>whnf))
   all_goals try (exfalso;omega)
   refine ⟨?_⟩
   show _=RT.v (.mk 3 lsZ 0 0 ((x::y::xs).map ltR) a c)
   have e:((x::y::xs).map ltR).length=(x::y::xs).length:=List.length_map ..
   unfold RT.v RT.cells
   dsimp only
   rw [e];rfl
abbrev rz8:List Value:=[.int .i64 0,.int .u64 0,.int .u64 0,.int .u64 0,.int .u64 0,.int .i64 0,.int .i64 0,.slice none 0 0]
def ltQ (xs:List Nat) (v:Value) (L1:List Ent):Prop:=(64<xs.length∧v=.tuple #[.agg rz8.toArray,xh 9]∧L1=[]) ∨
 (xs.length≤64∧∃ a c,v=.tuple #[(zas xs a c).v,.nilIface]∧L1=[.own 14 a xs.length c zB 8 (rtL (xs.map ltR))])
structure LxG where
 i:Nat
 a:Option Addr
 c:Nat
theorem zlS (xs:List Nat) (hb:∀ x∈xs,x<256) (hl:xs.length≤9223372036854775807) (a0:Option Addr) (c0:Nat) (w:World) (hin:In w [] a0 (byL xs)) :
 Calls Tryz.prog vn #[.slice a0 xs.length c0] w fun e w'=>∃ v L1,e=.returned v∧R w [] L1 w'∧ltQ xs v L1:=by
 refine zV [.v (.slice a0 xs.length c0)] zhW (by simp) ?_
 by_cases hbig:64<xs.length
 ·(repeat' ((conv=>whnf);first|refine ⟨_,⟨rfl,trivial⟩,?_⟩|(refine zd (fun h=>?_) (fun h=>?_)<;>try (exfalso;omega))|(refine zc (fun h=>?_) (fun h=>?_)<;>try (exfalso;omega))|(refine za (fun h=>?_) (fun h=>?_)<;>(try simp only [zqa,zqb,zqc,zqd,zqe,zqf,zqg] at h))|refine pay ?_|intro _));(all_goals (conv=>whnf))
  all_goals try (exfalso;omega)
  exact ⟨⟨[],Ref.takes [] rfl (.nil _),.inl ⟨hbig,rfl,rfl⟩⟩⟩
 ·have qn:((xs.length:Nat):Int).toNat=xs.length:=by omega
  (repeat' ((conv=>whnf);first|rw [qn]|refine ⟨_,⟨rfl,trivial⟩,?_⟩|(refine zd (fun h=>?_) (fun h=>?_)<;>try (exfalso;omega))|(refine zc (fun h=>?_) (fun h=>?_)<;>try (exfalso;omega))|(refine za (fun h=>?_) (fun h=>?_)<;>(try simp only [zqa,zqb,zqc,zqd,zqe,zqf,zqg] at h))|refine pay ?_|intro _));(all_goals (conv=>whnf))
  all_goals try (exfalso;omega)
  rename_i b2 b14
  refine zu LxG (fun g=>[(2,.ptr 2 b2 0),(3,.v .nilIface),(4,.sl 14 g.a g.i g.c),(15,.v (.slice a0 xs.length c0)),(16,.v (.int .i64 (xs.length:Int))),(17,.v (.int .i64 (g.i:Int)))])
   (fun g=>[.own 14 g.a g.i g.c zB 8 (rtL ((xs.take g.i).map ltR)),.box 2 b2 rz8 zB]) (fun g=>g.i≤xs.length) (fun g=>xs.length - g.i) ⟨0,some ⟨b14,0,none⟩,xs.length⟩ (Nat.zero_le _) (by (repeat ((conv=>whnf);refine vS ?_));exact trivial) (Ref.takes [14,2] rfl (Thin.refl _)) ?_
  rintro ⟨i,a,c⟩ hi
  dsimp only at hi ⊢
  by_cases hlt:i<xs.length
  ·obtain ⟨x,hx⟩:∃ x,xs[i]?=some x:=⟨_,List.getElem?_eq_getElem hlt⟩
   have hx2:x<256:=hb x (List.mem_of_getElem? hx)
   have hbd:(xs.map Int.ofNat).getD i 0=(x:Int):=by rw [List.getD_eq_getElem?_getD,List.getElem?_map,hx];rfl
   have rd:=fun {L:List Ent}=>rdI (L:=L) (k:=.u8) (zs:=xs.map Int.ofNat) hin (i:=i) (by simpa using hlt)
   rw [hbd] at rd
   have nr:a0≠none:=hin.ne' (k:=i) (by rw [j8];exact hlt)
   have q0:((i:Nat):Int).toNat=i:=by omega
   have htk:xs.take (i+1)=xs.take i++[x]:=by rw [List.take_add_one,hx];rfl
   have hap:rtL ((xs.take i).map ltR)++(ltR x).cells=rtL ((xs.take (i+1)).map ltR):=by rw [htk,List.map_append,zjF];simp [rtL]
   have hap2:rtL ((xs.take i).map ltR)++[.int .i64 2,.int .u64 ((yX x).a:Int),.int .u64 ((yX x).b:Int),.int .u64 ((yX x).c:Int),.int .u64 ((yX x).d:Int),.int .i64 0,.int .i64 0,.slice none 0 0]=rtL ((xs.take (i+1)).map ltR):=hap
   have cO:=fun w=>zr9 x hx2 w
   (repeat' ((conv=>whnf);first|rw [q0]|rw [hap]|rw [hap2]|refine ⟨_,rd,?_⟩|refine zm (.v (ltR x).v) (fun w' hR=>cO w') ?_|refine ⟨_,⟨rfl,trivial⟩,?_⟩|(refine zd (fun h=>?_) (fun h=>?_)<;>try (exfalso;omega))|(refine zc (fun h=>?_) (fun h=>?_)<;>try (exfalso;omega))|(refine za (fun h=>?_) (fun h=>?_)<;>(try simp only [zqa,zqb,zqc,zqd,zqe,zqf,zqg] at h))|refine pay ?_|refine And.intro (by first|exact ⟨by unfold maxLen;omega,by omega⟩) ?_|intro _));(all_goals (conv=>whnf))
   all_goals try (exfalso;omega)
   rename_i b24 a2 c2
   exact zi (⟨i+1,a2,c2⟩:LxG) hlt (by dsimp only;omega) (by (repeat ((conv=>whnf);refine vS ?_));exact trivial) (Ref.takes [14,2] rfl (.own rfl hap (Thin.refl _)))
  ·have cS:=fun (W:World) (a:Option Addr) (c:Nat) hI=>zqn xs (by omega) a c W hI
   obtain rfl:i=xs.length:=by omega
   rw [List.take_length]
   obtain ⟨r,hr⟩:∃ r,zas xs a c=r:=⟨_,rfl⟩
   replace cS:=fun (W:World) hI=>cS W a c hI
   rw [hr] at cS
   obtain ⟨k,s,mn,mx,ps,pa,pc⟩:=r
   (repeat' ((conv=>whnf);first|refine zm (.v (RT.v (.mk k s mn mx ps pa pc))) (fun w' hR=>cS w' (In.ownR (key:=14) hR rfl)) ?_|refine ⟨_,⟨rfl,trivial⟩,?_⟩|(refine zd (fun h=>?_) (fun h=>?_)<;>try (exfalso;omega))|(refine zc (fun h=>?_) (fun h=>?_)<;>try (exfalso;omega))|(refine za (fun h=>?_) (fun h=>?_)<;>(try simp only [zqa,zqb,zqc,zqd,zqe,zqf,zqg] at h))|refine pay ?_|intro _));(all_goals (conv=>whnf))
   all_goals try (exfalso;omega)
   exact ⟨⟨_,Ref.takes [14] rfl (Thin.refl _),.inr ⟨by omega,a,c,by rw [hr];rfl,rfl⟩⟩⟩
end Go.Proofs.YtjmlialibdobpaaGreatDoor
namespace Go.Proofs.YtjmlialibdobpaaGreatDoor
open Go.EG
set_option linter.unusedSimpArgs false
set_option linter.unusedVariables false
structure IsLS (T:List Nat→Prop) (s w:List Nat):Prop where
 suf:w <:+ s
 mem:T w
 top:∀ v,v <:+ s→T v→v <:+ w
theorem ze5 {v s:List Nat} {b:Nat} (h:v <:+ s++[b]):v=[]∨∃ v',v=v'++[b]∧v' <:+ s:=by
 rcases List.eq_nil_or_concat v with h0|⟨v',x,rfl⟩
 ·exact .inl h0
 ·rw [List.concat_eq_append] at h ⊢
  obtain ⟨u,hu⟩:=h
  rw [←List.append_assoc] at hu
  obtain ⟨h1,h2⟩:=List.append_inj' hu rfl
  simp at h2
  subst h2
  exact .inr ⟨v',rfl,u,h1⟩
theorem ze6 {v s:List Nat} (b:Nat) (h:v <:+ s):v++[b] <:+ s++[b]:=by
 obtain ⟨u,rfl⟩:=h
 exact ⟨u,by rw [List.append_assoc]⟩
theorem IsLS.refl {T:List Nat→Prop} {w:List Nat} (h:T w):IsLS T w w:=⟨List.suffix_refl _,h,fun v hv _=>hv⟩
theorem IsLS.step {T:List Nat→Prop} (hT:∀ v b,T (v++[b])→T v) {s u w:List Nat} {b:Nat} (h:IsLS T s u) (k:IsLS T (u++[b]) w):IsLS T (s++[b]) w:=by
 refine ⟨k.suf.trans (ze6 b h.suf),k.mem,fun v hv hm=>?_⟩
 rcases ze5 hv with rfl|⟨v',rfl,hv'⟩
 ·exact List.nil_suffix
 ·exact k.top _ (ze6 b (h.top v' hv' (hT _ _ hm))) hm
theorem IsLS.tail {T:List Nat→Prop} {x:Nat} {tl w:List Nat} {b:Nat} (hn:¬T (x::tl++[b])) (h:IsLS T (tl++[b]) w):IsLS T (x::tl++[b]) w:=by
 refine ⟨h.suf.trans (List.suffix_cons _ _),h.mem,fun v hv hm=>?_⟩
 rcases List.suffix_cons_iff.1 hv with rfl|hv
 ·exact absurd hm hn
 ·exact h.top v hv hm
def qC (t:Tri):Nat→List Nat→Option Nat
 | n,[]=>some n
 | n, b :: w => match cl t.ch n b with
   | some c=>qC t c w
   | none=>none
theorem zat (t:Tri):∀ (w v:List Nat) (n:Nat),qC t n (w++v)=(qC t n w).bind fun m=>qC t m v
 | [],v,n=>rfl
 | b :: w, v, n => by
   rw [List.cons_append,qC,qC]
   cases cl t.ch n b with
   | none=>rfl
   | some c=>exact zat t w v c
theorem zc4 {t:Tri} {w:List Nat} {n m b:Nat} (h:qC t n w=some m):qC t n (w++[b])=cl t.ch m b:=by
 rw [zat,h]
 show qC t m [b]=_
 rw [qC]
 cases cl t.ch m b<;>rfl
def Wd (t:Tri) (w:List Nat):Prop:=∃ n,qC t 0 w=some n
theorem Wd.nil (t:Tri):Wd t []:=⟨0,rfl⟩
theorem Wd.pre {t:Tri}:∀ (v:List Nat) (b:Nat),Wd t (v++[b])→Wd t v:=fun v b ⟨n,h⟩=>by
 rw [zat] at h
 cases hv:qC t 0 v with
 | none=>rw [hv] at h;cases h
 | some m=>exact ⟨m,hv⟩
theorem zws {l l':List ((Nat × Nat) × Nat)} {n b c:Nat} (h:cl l n b=some c):cl (l++l') n b=some c:=by
 induction l with
 | nil=>cases h
 | cons x l ih =>
   obtain ⟨k,d⟩:=x
   rw [List.cons_append]
   unfold cl at h ⊢
   split at h
   ·rename_i hk;rw [if_pos hk];exact h
   ·rename_i hk;rw [if_neg hk];exact ih h
theorem zwt {l:List ((Nat × Nat) × Nat)} {n b c:Nat} (h:cl l n b=none):cl (l++[((n,b),c)]) n b=some c:=by
 induction l with
 | nil=>simp [cl]
 | cons x l ih =>
   obtain ⟨k,d⟩:=x
   rw [List.cons_append]
   unfold cl at h ⊢
   split at h
   ·cases h
   ·rename_i hk;rw [if_neg hk];exact ih h
theorem u7 {t t':Tri} (h:∀ n b c,cl t.ch n b=some c→cl t'.ch n b=some c):∀ (w:List Nat) (n m:Nat),qC t n w=some m→qC t' n w=some m
 | [],n,m,hw=>hw
 | b :: w, n, m, hw => by
   rw [qC] at hw ⊢
   cases hc:cl t.ch n b with
   | none=>rw [hc] at hw;cases hw
   | some c=>rw [hc] at hw;rw [h n b c hc];exact u7 h w c m hw
structure TGr (t t':Tri):Prop where
 ch:∀ n b c,cl t.ch n b=some c→cl t'.ch n b=some c
 en:∀ n,t'.en.getD n 0=t.en.getD n 0
 us:(∀ x∈t.ch,t.us.getD x.1.2 false=true)→∀ x∈t'.ch,t'.us.getD x.1.2 false=true
theorem TGr.refl (t:Tri):TGr t t:=⟨fun _ _ _ h=>h,fun _=>rfl,fun h=>h⟩
theorem TGr.trans {a b c:Tri} (h:TGr a b) (k:TGr b c):TGr a c:=⟨fun n x y e=>k.ch n x y (h.ch n x y e),fun n=>(k.en n).trans (h.en n),fun e=>k.us (h.us e)⟩
theorem zsa {us:List Bool} {b x:Nat} (h:us.getD x false=true):(us.set b true).getD x false=true:=by
 rw [List.getD_eq_getElem?_getD,List.getElem?_set]
 by_cases he:b=x
 ·subst he
  rw [if_pos rfl]
  split
  ·rfl
  ·rename_i hl
   rw [List.getD_eq_getElem?_getD,List.getElem?_eq_none (by omega)] at h;cases h
 ·rw [if_neg he,←List.getD_eq_getElem?_getD];exact h
theorem zwu {us:List Bool} {b:Nat} (h:b<us.length):(us.set b true).getD b false=true:=by
 rw [List.getD_eq_getElem?_getD,List.getElem?_set_self h];rfl
theorem zwv (l:List Nat) (n:Nat):(l++[0]).getD n 0=l.getD n 0:=by
 rw [List.getD_eq_getElem?_getD,List.getD_eq_getElem?_getD]
 rcases Nat.lt_trichotomy n l.length with h|h|h
 ·rw [List.getElem?_append_left h]
 ·subst h;rw [List.getElem?_append_right (Nat.le_refl _),List.getElem?_eq_none (l:=l) (Nat.le_refl _)];simp
 ·rw [List.getElem?_eq_none (l:=l++[0]) (by simp;omega),List.getElem?_eq_none (l:=l) (by omega)]
theorem zuS {t:Tri} {m n b:Nat} (hT:TI t m) (hb:b<256) {t':Tri} {n':Nat} (ha:zcp t n b=some (t',n')):TGr t t'∧cl t'.ch n b=some n':=by
 have hul:=hT.us
 unfold zcp at ha
 split at ha
 ·rename_i c hc
  cases ha
  exact ⟨⟨fun _ _ _ h=>h,fun _=>rfl,fun h x hx=>zsa (h x hx)⟩,hc⟩
 ·rename_i hc
  split at ha
  ·cases ha
  ·cases ha
   refine ⟨⟨fun _ _ _ h=>zws h,fun n=>zwv _ _,fun h x hx=>?_⟩,zwt hc⟩
   rcases List.mem_append.1 hx with hx|hx
   ·exact zsa (h x hx)
   ·rw [List.mem_singleton.1 hx];exact zwu (by rw [hul];exact hb)
theorem zn0:∀ {p:List Nat} {t:Tri} {m n:Nat},TI t m→n<t.en.length→(∀ b∈p,b<256)→∀ {t':Tri} {n':Nat},zaD p t n=some (t',n')→TGr t t'∧qC t' n p=some n'
 | [],t,m,n,h,hn,hb,t',n',ha=>by cases ha;exact ⟨TGr.refl _,rfl⟩
 | b :: p, t, m, n, h, hn, hb, t', n', ha => by
   rw [zaD] at ha
   split at ha
   ·rename_i t1 n1 h1
    obtain ⟨i1,i2⟩:=zgp h h1
    obtain ⟨j1,j2⟩:=zuS h (hb b List.mem_cons_self) h1
    obtain ⟨k1,k2⟩:=zn0 i1 i2 (fun x hx=>hb x (List.mem_cons_of_mem _ hx)) ha
    refine ⟨j1.trans k1,?_⟩
    rw [qC,k1.ch _ _ _ j2]
    exact k2
   ·cases ha
structure TPat (t:Tri) (ps:List (List Nat)):Prop where
 wk:∀ p∈ps,∃ n,qC t 0 p=some n
 en:∀ n,0<t.en.getD n 0↔∃ p∈ps,qC t 0 p=some n
 us:∀ x∈t.ch,t.us.getD x.1.2 false=true
theorem TPat.start:TPat tri0 []:=by
 refine ⟨fun p h=>(by cases h),fun n=>⟨fun h=>?_,fun ⟨p,hp,_⟩=>(by cases hp)⟩,fun x h=>(by cases h)⟩
 have e:(tri0.en).getD n 0=0:=by
  show ([0]:List Nat).getD n 0=0
  cases n with
  | zero=>rfl
  | succ n=>rfl
 omega
theorem ztF {t:Tri} {m:Nat} {ps:List (List Nat)} {p:List Nat} (hT:TI t m) (h:TPat t ps) (hb:∀ b∈p,b<256) {t':Tri} (ha:za2 t p=some t'):TPat t' (ps++[p]):=by
 unfold za2 at ha
 split at ha
 ·rename_i t1 n h1
  cases ha
  obtain ⟨i1,i2⟩:=zhQ hT (by rw [hT.en];omega) h1
  obtain ⟨k1,k2⟩:=zn0 hT (by rw [hT.en];omega) hb h1
  have hw:∀ (q:List Nat) (k x:Nat),qC ⟨t1.ch,t1.en.set n (t1.en.getD n 0+1),t1.us⟩ k q=some x↔qC t1 k q=some x:=fun q k x =>
   ⟨u7 (t:=⟨t1.ch,t1.en.set n (t1.en.getD n 0+1),t1.us⟩) (t':=t1) (fun _ _ _ h=>h) q k x,u7 (t:=t1) (t':=⟨t1.ch,t1.en.set n (t1.en.getD n 0+1),t1.us⟩) (fun _ _ _ h=>h) q k x⟩
  refine ⟨fun q hq=>?_,fun x=>?_,k1.us h.us⟩
  ·rcases List.mem_append.1 hq with hq|hq
   ·obtain ⟨x,hx⟩:=h.wk q hq
    exact ⟨x,(hw ..).2 (u7 k1.ch q 0 x hx)⟩
   ·rw [List.mem_singleton.1 hq];exact ⟨n,(hw ..).2 k2⟩
  ·show 0<(t1.en.set n (t1.en.getD n 0+1)).getD x 0↔_
   rw [List.getD_eq_getElem?_getD,List.getElem?_set]
   by_cases he:n=x
   ·subst he
    rw [if_pos rfl,if_pos i2]
    constructor
    ·intro _;exact ⟨p,by simp,(hw ..).2 k2⟩
    ·intro _;simp
   ·rw [if_neg he,←List.getD_eq_getElem?_getD,k1.en x,h.en x]
    constructor
    ·rintro ⟨q,hq,hx⟩
     exact ⟨q,List.mem_append_left _ hq,(hw ..).2 (u7 k1.ch q 0 x hx)⟩
    ·rintro ⟨q,hq,hx⟩
     have hx:=(hw ..).1 hx
     rcases List.mem_append.1 hq with hq|hq
     ·obtain ⟨y,hy⟩:=h.wk q hq
      have:=u7 k1.ch q 0 y hy
      rw [this] at hx
      cases hx
      exact ⟨q,hq,hy⟩
     ·rw [List.mem_singleton.1 hq,k2] at hx
      cases hx
      exact absurd rfl he
 ·cases ha
theorem zjL:∀ {qs:List (List Nat)} {t:Tri} {m:Nat} {ps:List (List Nat)},TI t m→TPat t ps→(∀ q∈qs,∀ b∈q,b<256)→∀ {t':Tri},yg qs t=some t'→TPat t' (ps++qs)
 | [],t,m,ps,hT,h,hb,t',ha=>by cases ha;rw [List.append_nil];exact h
 | q :: qs, t, m, ps, hT, h, hb, t', ha => by
   rw [yg] at ha
   split at ha
   ·rename_i t1 h1
    have:=zjL (zgq hT h1) (ztF hT h (hb q List.mem_cons_self) h1) (fun x hx=>hb x (List.mem_cons_of_mem _ hx)) ha
    rw [List.append_assoc] at this
    exact this
   ·cases ha
theorem gA {α:Type} {l:List α} {x d:α} {j:Nat} (h:j<l.length):(l++[x]).getD j d=l.getD j d:=by
 rw [List.getD_eq_getElem?_getD,List.getElem?_append_left h,←List.getD_eq_getElem?_getD]
theorem gL {α:Type} (l:List α) (x d:α) {j:Nat} (h:j=l.length):(l++[x]).getD j d=x:=by
 subst h
 rw [List.getD_eq_getElem?_getD,List.getElem?_append_right (Nat.le_refl _),Nat.sub_self];rfl
theorem gP {α:Type} {l l':List α} {d:α} {j:Nat} (h:l <+: l') (hj:j<l.length):l'.getD j d=l.getD j d:=by
 obtain ⟨r,rfl⟩:=h
 rw [List.getD_eq_getElem?_getD,List.getElem?_append_left hj,←List.getD_eq_getElem?_getD]
theorem ztG {l:List Nat} {c x j:Nat} (hc:c<l.length):(l.set c x).getD j 0=if j=c then x else l.getD j 0:=by
 simp only [List.getD_eq_getElem?_getD,List.getElem?_set]
 by_cases h:c=j
 ·subst h;rw [if_pos rfl,if_pos hc,if_pos rfl];rfl
 ·rw [if_neg h,if_neg (fun e=>h e.symm)]
structure IIn (t:Tri) (ls:List Nat) (i k:Nat) (nd fa row:List Nat) (W:List (List Nat)):Prop where
 lw:W.length=nd.length
 lf:fa.length=nd.length
 wk:∀ j,j<nd.length→qC t 0 (W.getD j [])=some (nd.getD j 0)
 z:W.getD 0 []=[]
 fl:∀ j,0<j→j<nd.length→W.getD j []≠[]∧fa.getD j 0<nd.length∧IsLS (Wd t) (W.getD j []).tail (W.getD (fa.getD j 0) [])
 rl:row.length=ls.length+1
 r0:row.getD 0 0=0
 done:∀ q,q<k→row.getD (q+1) 0<nd.length∧IsLS (Wd t) (W.getD i []++[ls.getD q 0]) (W.getD (row.getD (q+1) 0) [])
 todo:∀ q,k≤q→q<ls.length→row.getD (q+1) 0<nd.length∧(i=0→row.getD (q+1) 0=0)∧(i≠0→IsLS (Wd t) ((W.getD i []).tail++[ls.getD q 0]) (W.getD (row.getD (q+1) 0) []))
 ii:i<nd.length
theorem IIn.old {t:Tri} {ls:List Nat} {i k:Nat} {nd fa row:List Nat} {W:List (List Nat)} (h:IIn t ls i k nd fa row W) (hk:k<ls.length) (hc:cl t.ch (nd.getD i 0) (ls.getD k 0)=none):IIn t ls i (k+1) nd fa row W:=by
 refine ⟨h.lw,h.lf,h.wk,h.z,h.fl,h.rl,h.r0,fun q hq=>?_,fun q h1 h2=>h.todo q (by omega) h2,h.ii⟩
 by_cases he:q=k
 ·subst he
  obtain ⟨t1,t2,t3⟩:=h.todo q (Nat.le_refl _) hk
  refine ⟨t1,?_⟩
  have hn:¬Wd t (W.getD i []++[ls.getD q 0]):=fun ⟨m,hm⟩=>by
   rw [zc4 (h.wk i h.ii),hc] at hm;cases hm
  by_cases h0:i=0
  ·subst h0
   rw [t2 rfl,h.z]
   rw [h.z] at hn
   refine ⟨List.nil_suffix,Wd.nil t,fun v hv hm=>?_⟩
   rcases ze5 hv with rfl|⟨v',rfl,hv'⟩
   ·exact List.suffix_refl _
   ·have:v'=[]:=List.suffix_nil.1 hv'
    subst this
    exact absurd hm hn
  ·obtain ⟨hne,_⟩:=h.fl i (by omega) h.ii
   have h3:=t3 h0
   obtain ⟨x,tl,hx⟩:∃ x tl,W.getD i []=x::tl:=by
    cases hw:W.getD i [] with
    | nil=>exact absurd hw hne
    | cons x tl=>exact ⟨x,tl,rfl⟩
   rw [hx] at h3 hn ⊢
   exact IsLS.tail hn h3
 ·exact h.done q (by omega)
theorem IIn.new {t:Tri} {ls:List Nat} {i k c:Nat} {nd fa row:List Nat} {W:List (List Nat)} (h:IIn t ls i k nd fa row W) (hk:k<ls.length) (hc:cl t.ch (nd.getD i 0) (ls.getD k 0)=some c) :
 IIn t ls i (k+1) (nd++[c]) (fa++[row.getD (k+1) 0]) (row.set (k+1) nd.length) (W++[W.getD i []++[ls.getD k 0]]):=by
 have hlw:=h.lw
 have hlf:=h.lf
 have hii:=h.ii
 have hln:(nd++[c]).length=nd.length+1:=by simp
 obtain ⟨t1,t2,t3⟩:=h.todo k (Nat.le_refl _) hk
 have hWi:(W++[W.getD i []++[ls.getD k 0]]).getD i []=W.getD i []:=gA (by omega)
 have hWl:(W++[W.getD i []++[ls.getD k 0]]).getD nd.length []=W.getD i []++[ls.getD k 0]:=gL _ _ _ hlw.symm
 have hWj:∀ {j},j<nd.length→(W++[W.getD i []++[ls.getD k 0]]).getD j []=W.getD j []:=fun hj=>gA (by omega)
 have hwk:qC t 0 (W.getD i []++[ls.getD k 0])=some c:=by rw [zc4 (h.wk i h.ii),hc]
 refine ⟨by simp [hlw],by simp [hlf],fun j hj=>?_,by rw [hWj (by omega)];exact h.z,fun j h0 hj=>?_,by rw [List.length_set];exact h.rl,?_,fun q hq=>?_,fun q h1 h2=>?_,by omega⟩
 ·by_cases he:j=nd.length
  ·rw [he,hWl,gL nd c 0 rfl];exact hwk
  ·rw [hWj (by omega),gA (by omega)];exact h.wk j (by omega)
 ·by_cases he:j=nd.length
  ·subst he
   rw [hWl,gL fa _ 0 hlf.symm,hWj t1,hln]
   refine ⟨by simp,by omega,?_⟩
   by_cases hi0:i=0
   ·subst hi0
    rw [t2 rfl,h.z]
    exact IsLS.refl (Wd.nil t)
   ·obtain ⟨hne,_⟩:=h.fl i (by omega) h.ii
    have h3:=t3 hi0
    cases hw:W.getD i [] with
    | nil=>exact absurd hw hne
    | cons x tl=>rw [hw] at h3;exact h3
  ·obtain ⟨a1,a2,a3⟩:=h.fl j h0 (by omega)
   rw [hWj (by omega),gA (by omega),hWj a2,hln]
   exact ⟨a1,by omega,a3⟩
 ·rw [ztG (by rw [h.rl];omega),if_neg (by omega)];exact h.r0
 ·rw [ztG (by rw [h.rl];omega),hWi,hln]
  by_cases he:q=k
  ·subst he
   rw [if_pos rfl,hWl]
   exact ⟨by omega,IsLS.refl ⟨c,hwk⟩⟩
  ·rw [if_neg (by omega)]
   obtain ⟨a1,a2⟩:=h.done q (by omega)
   rw [hWj a1]
   exact ⟨by omega,a2⟩
 ·rw [ztG (by rw [h.rl];omega),if_neg (by omega),hWi,hln]
  obtain ⟨a1,a2,a3⟩:=h.todo q (by omega) h2
  rw [hWj a1]
  exact ⟨by omega,a2,a3⟩
theorem zkP {t:Tri} {ls0:List Nat} {i n:Nat}:∀ (ls:List Nat) (k:Nat) (nd fa row:List Nat) (W:List (List Nat)),ls0.drop k=ls→IIn t ls0 i k nd fa row W→nd.getD i 0=n→k≤ls0.length →
 ∃ W',W <+: W'∧nd <+: (inB t n ls k nd fa row).1∧IIn t ls0 i ls0.length (inB t n ls k nd fa row).1 (inB t n ls k nd fa row).2.1 (inB t n ls k nd fa row).2.2 W'
 | [], k, nd, fa, row, W, hd, h, hn, hk => by
   have:ls0.length=k:=by
    have:=congrArg List.length hd
    simp at this;omega
   rw [inB,this]
   exact ⟨W,List.prefix_refl _,List.prefix_refl _,h⟩
 | b :: ls, k, nd, fa, row, W, hd, h, hn, hk => by
   have hlt:k<ls0.length:=by
    have:=congrArg List.length hd
    simp at this;omega
   have hb:ls0.getD k 0=b:=by
    have h2:=congrArg (fun l=>l[0]?) hd
    simp at h2
    rw [List.getD_eq_getElem?_getD,h2];rfl
   have hd2:ls0.drop (k+1)=ls:=by
    have h2:=congrArg List.tail hd
    rw [List.tail_drop] at h2
    exact h2
   rw [inB]
   cases hc:cl t.ch n b with
   | none =>
     dsimp only
     exact zkP ls (k+1) nd fa row W hd2 (h.old hlt (by rw [hn,hb];exact hc)) hn (by omega)
   | some c =>
     dsimp only
     have hii:=h.ii
     obtain ⟨W',w1,w2,w3⟩:=zkP (n:=n) ls (k+1) _ _ _ _ hd2 (h.new hlt (by rw [hn,hb];exact hc)) (by rw [gA hii];exact hn) (by omega)
     exact ⟨W',(List.prefix_append _ _).trans w1,(List.prefix_append _ _).trans w2,w3⟩
theorem ztH {t:Tri} {mx:Nat} (hT:TI t mx):∀ (l:Nat) {p q:List Nat} {n:Nat},p.length≤l→qC t 0 p=some n→qC t 0 q=some n→p=q:=by
 have last:∀ {p:List Nat} {x n:Nat},qC t 0 (p++[x])=some n→∃ m,qC t 0 p=some m∧cl t.ch m x=some n:=fun {p x n} h=>by
  cases hq:qC t 0 p with
  | none=>rw [zat,hq] at h;cases h
  | some m=>exact ⟨m,rfl,by rw [←zc4 hq];exact h⟩
 have zero:∀ {p:List Nat} {x:Nat},¬qC t 0 (p++[x])=some 0:=fun {p x} h=>by
  obtain ⟨m,_,hc⟩:=last h
  have:=(hT.idx (jv hc)).1
  dsimp only at this
  omega
 intro l
 induction l with
 | zero =>
   intro p q n hl hp hq
   have:p=[]:=List.length_eq_zero_iff.1 (by omega)
   subst this
   have hn:n=0:=by simpa [qC,eq_comm] using hp
   subst hn
   rcases List.eq_nil_or_concat q with rfl|⟨q',y,rfl⟩
   ·rfl
   ·rw [List.concat_eq_append] at hq;exact absurd hq zero
 | succ l ih =>
   intro p q n hl hp hq
   rcases List.eq_nil_or_concat p with rfl|⟨p',x,rfl⟩
   ·have hn:n=0:=by simpa [qC,eq_comm] using hp
    subst hn
    rcases List.eq_nil_or_concat q with rfl|⟨q',y,rfl⟩
    ·rfl
    ·rw [List.concat_eq_append] at hq;exact absurd hq zero
   ·rw [List.concat_eq_append] at hp hl ⊢
    obtain ⟨m,hm,hc⟩:=last hp
    rcases List.eq_nil_or_concat q with rfl|⟨q',y,rfl⟩
    ·have hn:n=0:=by simpa [qC,eq_comm] using hq
     subst hn
     exact absurd hp zero
    ·rw [List.concat_eq_append] at hq ⊢
     obtain ⟨m',hm',hc'⟩:=last hq
     obtain ⟨e1,e2⟩:=hT.inj hc hc'
     subst e1 e2
     rw [ih (by simp at hl;omega) hm hm']
structure AI (t:Tri) (ps:List (List Nat)) (ls:List Nat) (s:Bst) (i:Nat) (W:List (List Nat)):Prop where
 lw:W.length=s.nd.length
 lf:s.fa.length=s.nd.length
 wk:∀ j,j<s.nd.length→qC t 0 (W.getD j [])=some (s.nd.getD j 0)
 z:W.getD 0 []=[]
 pos:0<s.nd.length
 fl:∀ j,0<j→j<s.nd.length→W.getD j []≠[]∧s.fa.getD j 0<s.nd.length∧IsLS (Wd t) (W.getD j []).tail (W.getD (s.fa.getD j 0) [])
 nxl:s.nx.length=i
 hil:s.hi.length=i
 row:∀ j,j<i→(s.nx.getD j []).length=ls.length+1∧(s.nx.getD j []).getD 0 0=0∧∀ q,q<ls.length→(s.nx.getD j []).getD (q+1) 0<s.nd.length∧IsLS (Wd t) (W.getD j []++[ls.getD q 0]) (W.getD ((s.nx.getD j []).getD (q+1) 0) [])
 hi:∀ j,j<i→(0<s.hi.getD j 0↔∃ p∈ps,p <:+ W.getD j [])
 ord:∀ j,0<j→j<s.nd.length→s.fa.getD j 0<j
theorem AI.start (t:Tri) (ps:List (List Nat)) (ls:List Nat):AI t ps ls jx 0 [[]]:=by
 refine ⟨rfl,rfl,fun j hj=>?_,rfl,by simp [jx],fun j h0 hj=>?_,rfl,rfl,fun j h=>absurd h (by omega),fun j h=>absurd h (by omega),fun j h0 hj=>?_⟩
 ·have:j=0:=by simp [jx] at hj;omega
  subst this;rfl
 ·simp [jx] at hj;omega
 ·simp [jx] at hj;omega
theorem zsb {t:Tri} {mx:Nat} {ps:List (List Nat)} {ls:List Nat} {s:Bst} {i:Nat} {W:List (List Nat)} (hT:TI t mx) (hls:ls.Nodup) (hp:TPat t ps) (hne:[]∉ps) (h:AI t ps ls s i W) (hi:i<s.nd.length) (hB:BI t mx ls s i):∃ W',W <+: W'∧AI t ps ls (zbB t ls s i) (i+1) W':=by
 have hlw:=h.lw
 have hord:=h.ord
 have hfi:i≠0→s.fa.getD i 0<i:=fun h0=>hord i (by omega) hi
 have h0:IIn t ls i 0 s.nd s.fa (uo ls s i) W:=by
  refine ⟨h.lw,h.lf,h.wk,h.z,h.fl,(zkw hB hi).1,?_,fun q hq=>absurd hq (by omega),fun q _ hq=>?_,hi⟩
  ·unfold uo
   by_cases hi0:i=0
   ·rw [if_pos hi0];rfl
   ·rw [if_neg hi0];exact (h.row _ (hfi hi0)).2.1
  ·unfold uo
   by_cases hi0:i=0
   ·rw [if_pos hi0]
    have e:(List.replicate (ls.length+1) 0).getD (q+1) 0=0:=by rw [List.getD_eq_getElem?_getD,List.getElem?_replicate];split<;>rfl
    rw [e]
    exact ⟨h.pos,fun _=>rfl,fun hn=>absurd hi0 hn⟩
   ·rw [if_neg hi0]
    obtain ⟨_,_,r3⟩:=h.row _ (hfi hi0)
    obtain ⟨r4,r5⟩:=r3 q hq
    exact ⟨r4,fun hn=>absurd hn hi0,fun _=>IsLS.step (Wd.pre (t:=t)) (h.fl i (by omega) hi).2.2 r5⟩
 obtain ⟨W',w1,w2,w3⟩:=zkP (n:=s.nd.getD i 0) ls 0 s.nd s.fa (uo ls s i) W rfl h0 rfl (Nat.zero_le _)
 have hB':=zeJ hT hls hB hi
 have hWj:∀ {j},j<s.nd.length→W'.getD j []=W.getD j []:=fun hj=>gP w1 (by omega)
 have hle:=w2.length_le
 refine ⟨W',w1,⟨w3.lw,w3.lf,w3.wk,w3.z,by have:=h.pos;show 0<(inB t (s.nd.getD i 0) ls 0 s.nd s.fa (uo ls s i)).1.length;omega,w3.fl,by show (s.nx++[_]).length=_;rw [List.length_append,h.nxl];rfl,by show (s.hi++[_]).length=_;rw [List.length_append,h.hil];rfl,fun j hj=>?_,fun j hj=>?_,hB'.fi⟩⟩
 ·have hnx:(zbB t ls s i).nx=s.nx++[(inB t (s.nd.getD i 0) ls 0 s.nd s.fa (uo ls s i)).2.2]:=rfl
  have hnd:(zbB t ls s i).nd=(inB t (s.nd.getD i 0) ls 0 s.nd s.fa (uo ls s i)).1:=rfl
  rw [hnx,hnd]
  by_cases he:j=i
  ·subst he
   rw [gL s.nx _ _ h.nxl.symm]
   exact ⟨w3.rl,w3.r0,fun q hq=>w3.done q hq⟩
  ·rw [gA (by rw [h.nxl];omega)]
   obtain ⟨a1,a2,a3⟩:=h.row j (by omega)
   refine ⟨a1,a2,fun q hq=>?_⟩
   obtain ⟨a4,a5⟩:=a3 q hq
   rw [hWj (by omega),hWj a4]
   exact ⟨by omega,a5⟩
 ·show 0<(s.hi++[za3 t s i]).getD j 0↔_
  by_cases he:j=i
  ·subst he
   rw [gL s.hi _ _ h.hil.symm,hWj hi]
   unfold za3
   have hen:=hp.en (s.nd.getD j 0)
   have hwj:=h.wk j hi
   by_cases hj0:j=0
   ·rw [if_pos hj0]
    subst hj0
    rw [Nat.add_zero,hen,h.z]
    constructor
    ·rintro ⟨p,hpm,hpw⟩
     exfalso
     rcases List.eq_nil_or_concat p with rfl|⟨p',x,rfl⟩
     ·exact hne hpm
     ·rw [List.concat_eq_append,zat] at hpw
      cases hq:qC t 0 p' with
      | none=>rw [hq] at hpw;cases hpw
      | some m =>
        rw [hq] at hpw
        have e:qC t m [x]=some (s.nd.getD 0 0):=hpw
        rw [qC] at e
        cases hc:cl t.ch m x with
        | none=>rw [hc] at e;cases e
        | some c =>
          rw [hc] at e
          have e2:c=s.nd.getD 0 0:=by simpa [qC] using e
          have:=(hT.idx (jv hc)).1
          rw [hB.z] at e2
          dsimp only at this
          omega
    ·rintro ⟨p,hpm,hps⟩
     have:p=[]:=List.suffix_nil.1 hps
     subst this
     exact absurd hpm hne
   ·rw [if_neg hj0]
    obtain ⟨f1,f2,f3⟩:=h.fl j (by omega) hi
    have hf:=hfi hj0
    have hih:=h.hi _ hf
    have key:(0<t.en.getD (s.nd.getD j 0) 0+s.hi.getD (s.fa.getD j 0) 0)↔(0<t.en.getD (s.nd.getD j 0) 0∨0<s.hi.getD (s.fa.getD j 0) 0):=by omega
    rw [key,hen,hih]
    cases hw:W.getD j [] with
    | nil=>exact absurd hw f1
    | cons x tl =>
      rw [hw] at f3 hwj
      constructor
      ·rintro (⟨p,hpm,hpw⟩|⟨p,hpm,hps⟩)
       ·refine ⟨p,hpm,?_⟩
        rw [ztH hT _ (Nat.le_refl _) hpw hwj]
        exact List.suffix_refl _
       ·exact ⟨p,hpm,(hps.trans f3.suf).trans (List.suffix_cons _ _)⟩
      ·rintro ⟨p,hpm,hps⟩
       rcases List.suffix_cons_iff.1 hps with rfl|hps
       ·exact .inl ⟨_,hpm,hwj⟩
       ·exact .inr ⟨p,hpm,f3.top p hps (hp.wk p hpm)⟩
  ·rw [gA (by rw [h.hil];omega),hWj (by omega)]
   exact h.hi j (by omega)
theorem zn1 {t:Tri} {mx:Nat} {ps:List (List Nat)} {ls:List Nat} (hT:TI t mx) (hls:ls.Nodup) (hp:TPat t ps) (hne:[]∉ps):∀ {f:Nat} {s:Bst} {i:Nat} {W:List (List Nat)},AI t ps ls s i W→BI t mx ls s i→257≤f+i →
 ∃ W',AI t ps ls (jw t ls f s i) (jw t ls f s i).nd.length W'
 | 0, s, i, W, h, hB, hf => by
   have:=yy hB.nod hB.cap
   have:=hT.cap
   have:=hB.le
   omega
 | f + 1, s, i, W, h, hB, hf => by
   rw [jw]
   split
   ·rename_i hi
    obtain ⟨W',_,h'⟩:=zsb hT hls hp hne h hi hB
    exact zn1 hT hls hp hne h' (zeJ hT hls hB hi) (by omega)
   ·rename_i hi
    have:=hB.le
    have e:i=s.nd.length:=by omega
    rw [←e]
    exact ⟨W,h⟩
theorem zuT {us:List Bool} {b:Nat} (hb:b<256) (h:us.getD b false=true):(yP us)[((List.range b).filter fun x=>us.getD x false).length]?=some b∧((List.range (b+1)).filter fun x=>us.getD x false).length=((List.range b).filter fun x=>us.getD x false).length+1:=by
 have h1:(List.range (b+1)).filter (fun x=>us.getD x false)=(List.range b).filter (fun x=>us.getD x false)++[b]:=by
  rw [List.range_succ,List.filter_append]
  congr 1
  simp only [List.filter_cons,List.filter_nil,h,if_true]
 refine ⟨?_,by rw [h1];simp⟩
 unfold yP
 rw [show (256:Nat)=(b+1)+(256 - (b+1)) by omega,List.range_add,List.filter_append,h1,List.append_assoc,List.getElem?_append_right (Nat.le_refl _),Nat.sub_self]
 rfl
theorem zuU {t:Tri} {ps:List (List Nat)} (hp:TPat t ps) {v:List Nat} {b:Nat} (h:Wd t (v++[b])):t.us.getD b false=true:=by
 obtain ⟨n,hn⟩:=h
 cases hq:qC t 0 v with
 | none=>rw [zat,hq] at hn;cases hn
 | some m =>
   rw [zc4 hq] at hn
   exact hp.us _ (jv hn)
theorem ztI {t:Tri} {ps:List (List Nat)} {W:List (List Nat)} (hp:TPat t ps) (h:AI t ps (yP t.us) (y5 t) (y5 t).nd.length W) {j b:Nat} {s:List Nat} (hj:j<(y5 t).nd.length) (hb:b<256) (hs:IsLS (Wd t) s (W.getD j [])) :
 stp (qD t) j b<(y5 t).nd.length∧IsLS (Wd t) (s++[b]) (W.getD (stp (qD t) j b) []):=by
 obtain ⟨r1,r2,r3⟩:=h.row j hj
 have hnx:(qD t).nx.getD j []=((y5 t).nx.getD j []).map Int.ofNat:=by
  show ((y5 t).nx.map fun r=>r.map Int.ofNat).getD j []=_
  rw [List.getD_eq_getElem?_getD,List.getElem?_map,List.getD_eq_getElem?_getD,List.getElem?_eq_getElem (by rw [h.nxl];exact hj)];rfl
 have hcl:(qD t).cls.getD b 0=if t.us.getD b false=true then ((((List.range (b+1)).filter fun x=>t.us.getD x false).length:Nat):Int) else 0:=by
  show (xv t.us 256).getD b 0=_
  unfold xv
  rw [List.getD_eq_getElem?_getD,List.getElem?_map,List.getElem?_range hb]
  simp [hb]
 have hgt:∀ {r:List Nat} {k:Nat},k<r.length→((r.map Int.ofNat).getD k 0).toNat=r.getD k 0:=fun {r k} hk=>by
  rw [List.getD_eq_getElem?_getD,List.getElem?_map,List.getD_eq_getElem?_getD,List.getElem?_eq_getElem hk];rfl
 unfold stp
 rw [hnx,hcl]
 by_cases hu:t.us.getD b false=true
 ·rw [if_pos hu]
  obtain ⟨l1,l2⟩:=zuT hb hu
  have hk:=(List.getElem?_eq_some_iff.1 l1).1
  rw [l2,Int.toNat_natCast,hgt (by omega)]
  obtain ⟨a1,a2⟩:=r3 _ hk
  rw [List.getD_eq_getElem?_getD (l:=yP t.us),l1] at a2
  exact ⟨a1,IsLS.step (Wd.pre (t:=t)) hs a2⟩
 ·rw [if_neg hu]
  have e0:((((y5 t).nx.getD j []).map Int.ofNat).getD (Int.toNat 0) 0).toNat=0:=by
   show ((((y5 t).nx.getD j []).map Int.ofNat).getD 0 0).toNat=0
   rw [hgt (by omega),r2]
  rw [e0,h.z]
  refine ⟨h.pos,List.nil_suffix,Wd.nil t,fun v hv hm=>?_⟩
  rcases ze5 hv with rfl|⟨v',rfl,hv'⟩
  ·exact List.suffix_refl _
  ·exact absurd (zuU hp hm) hu
theorem ztJ {t:Tri} {ps:List (List Nat)} (ha:yg ps tri0=some t) (hb:∀ p∈ps,∀ b∈p,b<256) (hne:[]∉ps) (s:List Nat) (hs:BT s):lng (qD t) (qD t).start.toNat s=true↔∃ p∈ps,p <:+ s:=by
 have hT:=zc0 TI.start ha
 have hp:=zjL TI.start TPat.start hb ha
 rw [List.nil_append] at hp
 obtain ⟨W,hW⟩:=zn1 (f:=257) hT (zbC t.us) hp hne (AI.start t ps (yP t.us)) (BI.start t _ _ hT) (by omega)
 have hW:AI t ps (yP t.us) (y5 t) (y5 t).nd.length W:=hW
 have key:∀ (n:Nat) (s:List Nat),s.length=n→BT s→zF (qD t) 0 s<(y5 t).nd.length∧IsLS (Wd t) s (W.getD (zF (qD t) 0 s) []):=by
  intro n
  induction n with
  | zero =>
    intro s hl _
    have:s=[]:=List.length_eq_zero_iff.1 hl
    subst this
    refine ⟨hW.pos,?_⟩
    show IsLS (Wd t) [] (W.getD 0 [])
    rw [hW.z];exact IsLS.refl (Wd.nil t)
  | succ n ih =>
    intro s hl hs
    rcases List.eq_nil_or_concat s with rfl|⟨s',b,rfl⟩
    ·simp at hl
    ·rw [List.concat_eq_append] at hl hs ⊢
     obtain ⟨h1,h2⟩:=ih s' (by simp at hl;exact hl) (fun x hx=>hs x (List.mem_append_left _ hx))
     rw [kF]
     exact ztI hp hW h1 (hs b (by simp)) h2
 obtain ⟨h1,h2⟩:=key _ s rfl hs
 have hst:(qD t).start.toNat=0:=rfl
 rw [hst]
 unfold lng xX
 generalize zF (qD t) 0 s=j at *
 have hac:(qD t).acc.getD j false=decide (0<(y5 t).hi.getD j 0):=by
  show ((y5 t).hi.map fun n=>decide (0<n)).getD j false=_
  rw [List.getD_eq_getElem?_getD,List.getElem?_map,List.getD_eq_getElem?_getD,List.getElem?_eq_getElem (by rw [hW.hil];exact h1)];rfl
 rw [hac,decide_eq_true_eq,hW.hi j h1]
 constructor
 ·rintro ⟨p,hpm,hps⟩
  exact ⟨p,hpm,hps.trans h2.suf⟩
 ·rintro ⟨p,hpm,hps⟩
  exact ⟨p,hpm,h2.top p hps (hp.wk p hpm)⟩
def chF (n len:Nat):List Nat:=(List.range len).map fun j=>if j+1<len then 2 ^ (n+j+1) else 0
theorem zbN (n len:Nat):(chF n len).length=len:=by simp [chF]
theorem zkQ (n len j:Nat) (h:j<len):(chF n len).getD j 0=if j+1<len then 2 ^ (n+j+1) else 0:=by
 simp [chF,List.getD_eq_getElem?_getD,h]
theorem gAp {l l':List Nat} {j:Nat}:(l++l').getD j 0=if j<l.length then l.getD j 0 else l'.getD (j - l.length) 0:=by
 split
 ·rename_i h;rw [List.getD_eq_getElem?_getD,List.getElem?_append_left h,←List.getD_eq_getElem?_getD]
 ·rename_i h;rw [List.getD_eq_getElem?_getD,List.getElem?_append_right (by omega),←List.getD_eq_getElem?_getD]
theorem zqo {fol:List Nat} {n m:Nat} (hf:fol.length=n) (hm:1≤m):vJ (fol++chF n m++[0]) (2 ^ (n+m - 1)) (2 ^ (n+m))=fol++chF n (m+1):=by
 have h1:(fol++chF n m++[0]).length=n+m+1:=by simp [zbN,hf];omega
 refine zif (by rw [v6,h1,List.length_append,zbN,hf];omega) fun i hi=>?_
 rw [v6,h1] at hi
 rw [zc3 _ _ _ _ (by rw [h1];exact hi),Nat.testBit_two_pow]
 have hc:(fol++chF n m).length=n+m:=by simp [zbN,hf]
 have g1:(fol++chF n m++[0]).getD i 0=if i<n+m then (fol++chF n m).getD i 0 else [0].getD (i - (n+m)) 0:=by rw [gAp,hc]
 have g2:(fol++chF n m).getD i 0=if i<n then fol.getD i 0 else (chF n m).getD (i - n) 0:=by rw [gAp,hf]
 have g3:(fol++chF n (m+1)).getD i 0=if i<n then fol.getD i 0 else (chF n (m+1)).getD (i - n) 0:=by rw [gAp,hf]
 rw [g1,g2,g3]
 by_cases hin:i<n
 ·rw [if_neg (by simp;omega),if_pos (by omega),if_pos hin,if_pos hin]
 ·rw [if_neg hin,if_neg hin,zkQ n (m+1) (i - n) (by omega)]
  by_cases hl:i<n+m
  ·rw [if_pos hl,zkQ n m (i - n) (by omega)]
   by_cases he:i=n+m - 1
   ·rw [if_pos (by simp;omega),if_neg (by omega),if_pos (by omega),Nat.zero_or]
    congr 1;omega
   ·rw [if_neg (by simp;omega),if_pos (by omega),if_pos (by omega)]
  ·have he:i=n+m:=by omega
   rw [if_neg (by simp;omega),if_neg hl,if_neg (by omega),he,Nat.sub_self];rfl
theorem zn2 (x:Nat) (st:WS):(ltR x).wr st=((st.1++[yX x],st.2++[0]),⟨false,2 ^ st.1.length,2 ^ st.1.length⟩):=by
 unfold ltR
 rw [RT.wr,if_pos rfl]
theorem zpq {n:Nat} {ss:List Ls} {fol:List Nat} (hs:ss.length=n) (hf:fol.length=n):∀ (ys zs:List Nat),1≤zs.length →
 RT.wrS (ys.map ltR) ⟨false,2 ^ n,2 ^ (n+zs.length - 1)⟩ (ss++zs.map yX,fol++chF n zs.length)=((ss++(zs++ys).map yX,fol++chF n (zs++ys).length),⟨false,2 ^ n,2 ^ (n+(zs++ys).length - 1)⟩)
 | [],zs,hz=>by rw [List.map_nil,RT.wrS,List.append_nil]
 | y :: ys, zs, hz => by
   rw [List.map_cons,RT.wrS,zn2]
   have hl:(ss++zs.map yX).length=n+zs.length:=by simp [hs]
   simp only [hl,zar,Bool.false_and,Bool.false_eq_true,if_false]
   rw [zqo hf hz]
   have ih:=zpq hs hf ys (zs++[y]) (by simp)
   have e1:(zs++[y]).length=zs.length+1:=by simp
   have e2:zs++[y]++ys=zs++y::ys:=by simp
   rw [e1,e2,List.map_append,List.map_singleton,←List.append_assoc,show n+(zs.length+1) - 1=n+zs.length by omega] at ih
   exact ih
def ptL (n len:Nat):Pz:=if len=0 then ⟨true,0,0⟩ else ⟨false,2 ^ n,2 ^ (n+len - 1)⟩
theorem zuV (p:List Nat) (a:Option Addr) (c:Nat) {ss:List Ls} {fol:List Nat} (h:fol.length=ss.length):(zas p a c).wr (ss,fol)=((ss++p.map yX,fol++chF ss.length p.length),ptL ss.length p.length):=by
 match p with
 | [] =>
   unfold zas
   rw [RT.wr,if_neg (by decide),if_neg (by decide),if_neg (by decide)]
   simp [chF,ptL]
 | [x] =>
   show (ltR x).wr (ss,fol)=_
   rw [zn2]
   simp [chF,ptL,List.range_succ]
 | x :: y :: xs =>
   show (RT.mk 3 lsZ 0 0 ((x::y::xs).map ltR) a c).wr (ss,fol)=_
   rw [RT.wr,if_neg (by decide),if_pos rfl,List.map_cons,RT.wrS,zn2]
   have h0:vJ (fol++[0]) 0 (2 ^ ss.length)=fol++[0]:=zjE _ _
   simp only [zar,h0,Bool.true_and,if_true,Nat.zero_or,Bool.false_eq_true,if_false]
   have ih:=zpq (n:=ss.length) rfl h (y::xs) [x] (by simp)
   have e3:chF ss.length 1=[0]:=by simp [chF,List.range_succ]
   simp only [List.length_singleton,List.map_singleton,e3,Nat.add_sub_cancel] at ih
   rw [ih]
   simp [ptL]
structure Lq where
 xs:List Nat
 a:Option Addr
 c:Nat
abbrev Lq.r (q:Lq):RT:=zas q.xs q.a q.c
def PosR:List (List Nat)→Nat→Nat→List Nat→Nat→Prop
 | [],_,_,_,_=>False
 | q::ps,n,j,p,k=>(p=q∧k<q.length∧j=n+k)∨PosR ps (n+q.length) j p k
def ze7:Nat→List (List Nat)→List Nat
 | _,[]=>[]
 | n,q::ps=>chF n q.length++ze7 (n+q.length) ps
def ssP (ps:List (List Nat)):List Ls:=ps.flatten.map yX
theorem zn3:∀ (ps:List (List Nat)) (n:Nat),(ze7 n ps).length=ps.flatten.length
 | [],n=>rfl
 | q::ps,n=>by rw [ze7,List.length_append,zbN,zn3 ps,List.flatten_cons,List.length_append]
theorem PosR.bd:∀ {ps:List (List Nat)} {n j k:Nat} {p:List Nat},PosR ps n j p k→n≤j∧j<n+ps.flatten.length∧p∈ps∧k<p.length
 | q :: ps, n, j, k, p, h => by
   rw [List.flatten_cons,List.length_append]
   rcases h with ⟨rfl,h1,rfl⟩|h
   ·exact ⟨by omega,by omega,List.mem_cons_self,h1⟩
   ·obtain ⟨h1,h2,h3,h4⟩:=PosR.bd h
    exact ⟨by omega,by omega,List.mem_cons_of_mem _ h3,h4⟩
theorem PosR.at_:∀ {ps:List (List Nat)} {n j:Nat},n≤j→j<n+ps.flatten.length→∃ p k,PosR ps n j p k
 | [],n,j,h1,h2=>by simp at h2;omega
 | q :: ps, n, j, h1, h2 => by
   rw [List.flatten_cons,List.length_append] at h2
   by_cases h:j<n+q.length
   ·exact ⟨q,j - n,.inl ⟨rfl,by omega,by omega⟩⟩
   ·obtain ⟨p,k,hp⟩:=PosR.at_ (ps:=ps) (n:=n+q.length) (j:=j) (by omega) (by omega)
    exact ⟨p,k,.inr hp⟩
theorem PosR.of:∀ {ps:List (List Nat)} {n k:Nat} {p:List Nat},p∈ps→k<p.length→∃ j,PosR ps n j p k
 | q :: ps, n, k, p, h, hk => by
   rcases List.mem_cons.1 h with rfl|h
   ·exact ⟨n+k,.inl ⟨rfl,hk,rfl⟩⟩
   ·obtain ⟨j,hj⟩:=PosR.of (ps:=ps) (n:=n+q.length) h hk
    exact ⟨j,.inr hj⟩
theorem PosR.pred:∀ {ps:List (List Nat)} {n j k:Nat} {p:List Nat},PosR ps n j p (k+1)→PosR ps n (j - 1) p k∧1≤j
 | q :: ps, n, j, k, p, h => by
   rcases h with ⟨rfl,h1,rfl⟩|h
   ·exact ⟨.inl ⟨rfl,by omega,by omega⟩,by omega⟩
   ·obtain ⟨h1,h2⟩:=PosR.pred h
    exact ⟨.inr h1,h2⟩
theorem PosR.succ:∀ {ps:List (List Nat)} {n j k:Nat} {p:List Nat},PosR ps n j p k→k+1<p.length→PosR ps n (j+1) p (k+1)
 | q :: ps, n, j, k, p, h, hk => by
   rcases h with ⟨rfl,h1,rfl⟩|h
   ·exact .inl ⟨rfl,hk,by omega⟩
   ·exact .inr (PosR.succ h hk)
theorem PosR.let:∀ {ps:List (List Nat)} {n j k:Nat} {p:List Nat},PosR ps n j p k→ps.flatten[j - n]?=some (p.getD k 0)
 | q :: ps, n, j, k, p, h => by
   rw [List.flatten_cons]
   rcases h with ⟨rfl,h1,rfl⟩|h
   ·rw [List.getElem?_append_left (by omega),show n+k - n=k by omega,List.getD_eq_getElem?_getD,List.getElem?_eq_getElem h1];rfl
   ·have hb:=PosR.bd h
    rw [List.getElem?_append_right (by omega),show j - n - q.length=j - (n+q.length) by omega]
    exact PosR.let h
theorem PosR.fol:∀ {ps:List (List Nat)} {n j k:Nat} {p:List Nat},PosR ps n j p k→(ze7 n ps).getD (j - n) 0=if k+1<p.length then 2 ^ (j+1) else 0
 | q :: ps, n, j, k, p, h => by
   rw [ze7,gAp,zbN]
   rcases h with ⟨rfl,h1,rfl⟩|h
   ·rw [if_pos (by omega),zkQ _ _ _ (by omega),show n+k - n=k by omega]
   ·have hb:=PosR.bd h
    rw [if_neg (by omega),show j - n - q.length=j - (n+q.length) by omega]
    exact PosR.fol h
theorem PosR.fst:∀ {ps:List (List Nat)} {n j k k':Nat} {p p':List Nat},PosR ps n j p k→PosR ps n j p' k'→p=p'∧k=k'
 | q :: ps, n, j, k, k', p, p', h, h' => by
   rcases h with ⟨rfl,h1,rfl⟩|h
   ·rcases h' with ⟨rfl,h3,h4⟩|h'
    ·exact ⟨rfl,by omega⟩
    ·have:=PosR.bd h';omega
   ·have hb:=PosR.bd h
    rcases h' with ⟨rfl,h3,h4⟩|h'
    ·omega
    ·exact PosR.fst h h'
theorem zpr:∀ (qs:List Lq) (acc:Pz) (ss:List Ls) (fol:List Nat),fol.length=ss.length →
 (RT.wrA (qs.map Lq.r) acc (ss,fol)).1=(ss++ssP (qs.map Lq.xs),fol++ze7 ss.length (qs.map Lq.xs)) ∧
 ((RT.wrA (qs.map Lq.r) acc (ss,fol)).2.nl=true↔acc.nl=true∨[]∈qs.map Lq.xs) ∧
 (∀ j,(RT.wrA (qs.map Lq.r) acc (ss,fol)).2.fs.testBit j=true↔acc.fs.testBit j=true∨∃ p,PosR (qs.map Lq.xs) ss.length j p 0) ∧
 (∀ j,(RT.wrA (qs.map Lq.r) acc (ss,fol)).2.lt.testBit j=true↔acc.lt.testBit j=true∨∃ p k,PosR (qs.map Lq.xs) ss.length j p k∧k+1=p.length)
 | [], acc, ss, fol, h => by
   rw [List.map_nil,List.map_nil,RT.wrA]
   refine ⟨by simp [ssP,ze7],by simp,fun j=>by simp [PosR],fun j=>by simp [PosR]⟩
 | q :: qs, acc, ss, fol, h => by
   rw [List.map_cons,List.map_cons,RT.wrA,zuV _ _ _ h]
   have hl:(fol++chF ss.length q.xs.length).length=(ss++q.xs.map yX).length:=by simp [zbN,h]
   obtain ⟨h1,h2,h3,h4⟩:=zpr qs (zih acc (ptL ss.length q.xs.length)) (ss++q.xs.map yX) (fol++chF ss.length q.xs.length) hl
   have hl2:(ss++q.xs.map yX).length=ss.length+q.xs.length:=by simp
   rw [hl2] at h1 h3 h4
   refine ⟨?_,?_,fun j=>?_,fun j=>?_⟩
   ·rw [h1]
    simp [ssP,ze7]
   ·rw [h2]
    unfold zih ptL
    by_cases h0:q.xs.length=0
    ·have:q.xs=[]:=List.length_eq_zero_iff.1 h0
     rw [if_pos h0]
     simp [this]
    ·rw [if_neg h0]
     have:¬[]=q.xs:=fun e=>h0 (by rw [←e];rfl)
     simp [this]
   ·rw [h3]
    unfold zih ptL
    by_cases h0:q.xs.length=0
    ·rw [if_pos h0]
     simp only [Nat.or_zero]
     constructor
     ·rintro (h|⟨p,hp⟩)
      ·exact .inl h
      ·exact .inr ⟨p,.inr hp⟩
     ·rintro (h|⟨p,⟨_,h5,_⟩|hp⟩)
      ·exact .inl h
      ·omega
      ·exact .inr ⟨p,hp⟩
    ·rw [if_neg h0]
     simp only [Nat.testBit_or,Bool.or_eq_true,Nat.testBit_two_pow,decide_eq_true_eq]
     constructor
     ·rintro ((h|h)|⟨p,hp⟩)
      ·exact .inl h
      ·exact .inr ⟨q.xs,.inl ⟨rfl,by omega,by omega⟩⟩
      ·exact .inr ⟨p,.inr hp⟩
     ·rintro (h|⟨p,⟨_,h5,h6⟩|hp⟩)
      ·exact .inl (.inl h)
      ·exact .inl (.inr (by omega))
      ·exact .inr ⟨p,hp⟩
   ·rw [h4]
    unfold zih ptL
    by_cases h0:q.xs.length=0
    ·rw [if_pos h0]
     simp only [Nat.or_zero]
     constructor
     ·rintro (h|⟨p,k,hp,hk⟩)
      ·exact .inl h
      ·exact .inr ⟨p,k,.inr hp,hk⟩
     ·rintro (h|⟨p,k,⟨_,h5,_⟩|hp,hk⟩)
      ·exact .inl h
      ·omega
      ·exact .inr ⟨p,k,hp,hk⟩
    ·rw [if_neg h0]
     simp only [Nat.testBit_or,Bool.or_eq_true,Nat.testBit_two_pow,decide_eq_true_eq]
     constructor
     ·rintro ((h|h)|⟨p,k,hp,hk⟩)
      ·exact .inl h
      ·exact .inr ⟨q.xs,q.xs.length - 1,.inl ⟨rfl,by omega,by omega⟩,by omega⟩
      ·exact .inr ⟨p,k,.inr hp,hk⟩
     ·rintro (h|⟨p,k,⟨rfl,h5,h6⟩|hp,hk⟩)
      ·exact .inl (.inl h)
      ·exact .inl (.inr (by omega))
      ·exact .inr ⟨p,k,hp,hk⟩
theorem zuW (ps:List (List Nat)):(ssP ps).length=ps.flatten.length:=by unfold ssP;exact List.length_map ..
theorem zuX {ps:List (List Nat)} {j k:Nat} {p:List Nat} (h:PosR ps 0 j p k):(ssP ps).getD j default=yX (p.getD k 0):=by
 have:=PosR.let h
 rw [Nat.sub_zero] at this
 unfold ssP
 rw [List.getD_eq_getElem?_getD,List.getElem?_map,this];rfl
theorem zlo {p:List Nat} {k:Nat} (h:k<p.length):p.take (k+1)=p.take k++[p.getD k 0]:=by
 rw [List.take_add_one,List.getElem?_eq_getElem h,List.getD_eq_getElem?_getD,List.getElem?_eq_getElem h];rfl
theorem Wz.run_app (z:Wz):∀ (s t:List Nat) (S:Nat),z.run S (s++t)=z.run (z.run S s) t
 | [],t,S=>rfl
 | b::s,t,S=>Wz.run_app z s t _
structure ZOk (z:Wz) (ps:List (List Nat)):Prop where
 ss:z.ss=ssP ps
 fol:z.fol=ze7 0 ps
 nl:z.p.nl=true↔[]∈ps
 fs:∀ j,z.p.fs.testBit j=true↔∃ p,PosR ps 0 j p 0
 lt:∀ j,z.p.lt.testBit j=true↔∃ p k,PosR ps 0 j p k∧k+1=p.length
theorem zuY (qs:List Lq) (a:Option Addr) (c:Nat):ZOk (RT.mk 4 lsZ 0 0 (qs.map Lq.r) a c).z (qs.map Lq.xs):=by
 have hw:(RT.mk 4 lsZ 0 0 (qs.map Lq.r) a c).wr ([],[])=RT.wrA (qs.map Lq.r) ⟨false,0,0⟩ ([],[]):=by
  rw [RT.wr,if_neg (by decide),if_neg (by decide),if_pos rfl]
 obtain ⟨h1,h2,h3,h4⟩:=zpr qs ⟨false,0,0⟩ [] [] rfl
 unfold RT.z
 rw [hw]
 refine ⟨by dsimp only;rw [h1];simp,by dsimp only;rw [h1];simp,by dsimp only;rw [h2];simp,fun j=>?_,fun j=>?_⟩
 ·dsimp only;rw [h3];simp
 ·dsimp only;rw [h4];simp
theorem zgf {z:Wz} {ps:List (List Nat)} (h:ZOk z ps) (hb:∀ p∈ps,∀ b∈p,b<256):∀ (n:Nat) (t:List Nat),t.length=n→BT t→∀ j,(z.run 0 t).testBit j=true↔∃ p k,PosR ps 0 j p k∧p.take (k+1) <:+ t:=by
 intro n
 induction n with
 | zero =>
   intro t hl _ j
   have:t=[]:=List.length_eq_zero_iff.1 hl
   subst this
   show (0:Nat).testBit j=true↔_
   constructor
   ·intro h;simp at h
   ·rintro ⟨p,k,hp,hs⟩
    have h1:=List.suffix_nil.1 hs
    have h2:=(PosR.bd hp).2.2.2
    have:=congrArg List.length h1
    simp at this
    have h3:p.length=0:=by rw [this];rfl
    omega
 | succ n ih =>
   intro t hl ht j
   rcases List.eq_nil_or_concat t with rfl|⟨t',b,rfl⟩
   ·simp at hl
   ·rw [List.concat_eq_append] at hl ht ⊢
    have ih:=ih t' (by simp at hl;exact hl) (fun x hx=>ht x (List.mem_append_left _ hx))
    have hb2:b<256:=ht b (by simp)
    rw [Wz.run_app]
    show (z.nx (z.run 0 t')&&&zgd z.ss b).testBit j=true↔_
    unfold Wz.nx
    rw [Nat.testBit_and,Nat.testBit_or,Bool.and_eq_true,Bool.or_eq_true,zd8,znW,h.fs,h.fol,h.ss,Bool.and_eq_true,decide_eq_true_eq,zuW]
    have hlet:∀ {p k},PosR ps 0 j p k→(((ssP ps).getD j default).has b=true↔b=p.getD k 0):=fun {p k} hp=>by
     have hk:=PosR.bd hp
     rw [zuX hp,zrv (hb p hk.2.2.1 _ (zI hk.2.2.2)) hb2,decide_eq_true_eq]
    constructor
    ·rintro ⟨hfa,hjl,hhas⟩
     obtain ⟨p,k,hp⟩:=PosR.at_ (ps:=ps) (n:=0) (j:=j) (Nat.zero_le _) (by omega)
     have hk:=PosR.bd hp
     have hbk:=(hlet hp).1 hhas
     refine ⟨p,k,hp,?_⟩
     rw [zlo hk.2.2.2,←hbk]
     rcases hfa with ⟨i,hi,hS,hf⟩|⟨p',hp'⟩
     ·obtain ⟨q,m,hq,hqs⟩:=(ih i).1 hS
      have hfo:=PosR.fol hq
      rw [Nat.sub_zero] at hfo
      rw [hfo] at hf
      split at hf
      ·rename_i hm
       rw [Nat.testBit_two_pow,decide_eq_true_eq] at hf
       have hsc:=PosR.succ hq hm
       rw [hf] at hsc
       obtain ⟨e1,e2⟩:=PosR.fst hp hsc
       subst e1 e2
       exact ze6 b hqs
      ·simp at hf
     ·obtain ⟨e1,e2⟩:=PosR.fst hp hp'
      subst e1 e2
      rw [List.take_zero]
      exact ze6 b List.nil_suffix
    ·rintro ⟨p,k,hp,hs⟩
     have hk:=PosR.bd hp
     rw [zlo hk.2.2.2] at hs
     have hbk:b=p.getD k 0∧p.take k <:+ t':=by
      rcases ze5 hs with h0|⟨v',hv,hv'⟩
      ·simp at h0
      ·obtain ⟨h1,h2⟩:=List.append_inj' hv rfl
       simp at h2
       exact ⟨by rw [List.getD_eq_getElem?_getD];exact h2.symm,by rw [h1];exact hv'⟩
     refine ⟨?_,by omega,(hlet hp).2 hbk.1⟩
     cases k with
     | zero=>exact .inr ⟨p,hp⟩
     | succ k =>
       obtain ⟨hpr,hj1⟩:=PosR.pred hp
       have hkp:=PosR.bd hpr
       refine .inl ⟨j - 1,by rw [zn3];omega,(ih (j - 1)).2 ⟨p,k,hpr,hbk.2⟩,?_⟩
       have hfo:=PosR.fol hpr
       rw [Nat.sub_zero] at hfo
       rw [hfo,if_pos hk.2.2.2,Nat.testBit_two_pow,decide_eq_true_eq]
       omega
theorem zuZ {z:Wz} {ps:List (List Nat)} (h:ZOk z ps) (hb:∀ p∈ps,∀ b∈p,b<256) (t:List Nat) (ht:BT t):z.acc (z.run 0 t)=true↔∃ p∈ps,p <:+ t:=by
 have hr:=zgf h hb _ t rfl ht
 unfold Wz.acc
 rw [Bool.or_eq_true,decide_eq_true_eq,h.nl]
 constructor
 ·rintro (hne|he)
  ·obtain ⟨j,hj⟩:=Nat.exists_testBit_of_ne_zero hne
   rw [Nat.testBit_and,Bool.and_eq_true,hr,h.lt] at hj
   obtain ⟨⟨p,k,hp,hs⟩,q,m,hq,hm⟩:=hj
   obtain ⟨e1,e2⟩:=PosR.fst hp hq
   subst e1 e2
   rw [hm,List.take_length] at hs
   exact ⟨p,(PosR.bd hp).2.2.1,hs⟩
  ·exact ⟨[],he,List.nil_suffix⟩
 ·rintro ⟨p,hp,hs⟩
  by_cases h0:p=[]
  ·subst h0;exact .inr hp
  ·refine .inl fun hz=>?_
   have hl:0<p.length:=List.length_pos_iff.2 h0
   obtain ⟨j,hj⟩:=PosR.of (ps:=ps) (n:=0) hp (show p.length - 1<p.length by omega)
   have h1:((z.run 0 t)&&&z.p.lt).testBit j=true:=by
    rw [Nat.testBit_and,Bool.and_eq_true,hr,h.lt]
    have e:p.length - 1+1=p.length:=by omega
    exact ⟨⟨p,_,hj,by rw [e,List.take_length];exact hs⟩,p,_,hj,e⟩
   rw [hz] at h1
   simp at h1
end Go.Proofs.YtjmlialibdobpaaGreatDoor
namespace Go.Proofs.YtjmlialibdobpaaGreatDoor
open Go.EG
attribute [local irreducible] zP yj Go.Calls
set_option linter.unusedSimpArgs false
set_option linter.unusedVariables false
set_option maxRecDepth 20000
set_option maxHeartbeats 4000000
def zxi (ps:List (List Nat)) (v:Value) (L1:List Ent):Prop :=
 (zvp ps∧L1=[]∧∃ n,v=.tuple #[.agg #[.int .i64 0,.slice none 0 0,.slice none 0 0,.slice none 0 0],.slice none 0 0,xh n]) ∨
 ([]∉ps∧∃ t y F aH cH,yg ps tri0=some t∧v=.tuple #[MA.v y,.slice aH (yD t).length cH,.nilIface]∧y.m=qD t∧MFz F y∧L1=[frE 79 F,.own 53 aH (yD t).length cH zj 1 (zo .i64 (yD t))])
structure OzG where
 i:Nat
 t:Tri
 a:Option Addr
 c:Nat
theorem zqp (ps:List PA) (hl:ps.length≤4096) (pa:Option Addr) (pc:Nat) (w:World) (hin:PIn w [] ps pa) :
 Calls Tryz.prog x6 #[.slice pa ps.length pc] w fun e w'=>∃ v L1,e=.returned v∧R w [] L1 w'∧zxi (ps.map PA.xs) v L1:=by
 refine zV [.v (.slice pa ps.length pc)] zfa (by simp) ?_
 obtain ⟨h1,h2,h3,h4⟩:=hin
 by_cases h0:ps.length=0
 ·(repeat' ((conv=>whnf);first|refine ⟨_,⟨rfl,trivial⟩,?_⟩|(refine zd (fun h=>?_) (fun h=>?_)<;>try (exfalso;omega))|(refine zc (fun h=>?_) (fun h=>?_)<;>try (exfalso;omega))|(refine za (fun h=>?_) (fun h=>?_)<;>(try simp only [zqa,zqb,zqc,zqd,zqe,zqf,zqg] at h))|refine pay ?_|intro _));(all_goals (conv=>whnf))
  all_goals try (exfalso;omega)
  exact ⟨⟨[],Ref.takes [] rfl (.nil _),.inl ⟨.inl (by rw [List.length_eq_zero_iff.1 h0];rfl),rfl,4,rfl⟩⟩⟩
 ·(repeat' ((conv=>whnf);first|refine ⟨_,⟨rfl,trivial⟩,?_⟩|(refine zd (fun h=>?_) (fun h=>?_)<;>try (exfalso;omega))|(refine zc (fun h=>?_) (fun h=>?_)<;>try (exfalso;omega))|(refine za (fun h=>?_) (fun h=>?_)<;>(try simp only [zqa,zqb,zqc,zqd,zqe,zqf,zqg] at h))|refine pay ?_|intro _));(all_goals (conv=>whnf))
  all_goals try (exfalso;omega)
  rename_i b2
  refine zu Nat (fun i=>[(0,.v (.slice pa ps.length pc)),(2,.ptr 2 b2 0),(3,.v (.slice none 0 0)),(4,.v .nilIface),(17,.v (.slice pa ps.length pc)),(18,.v (.int .i64 ps.length)),(19,.v (.int .i64 i))])
   (fun _=>[.box 2 b2 [.int .i64 0,.slice none 0 0,.slice none 0 0,.slice none 0 0] zg])
   (fun i=>i≤ps.length∧[]∉(ps.take i).map PA.xs) (fun i=>ps.length - i) 0 ⟨Nat.zero_le _,by simp⟩ (by (repeat ((conv=>whnf);refine vS ?_));exact trivial) (Ref.takes [2] rfl (Thin.refl _)) ?_
  rintro i ⟨hi,hni⟩
  by_cases hlt:i<ps.length
  ·obtain ⟨r,hr⟩:∃ r,ps[i]?=some r:=⟨_,List.getElem?_eq_getElem hlt⟩
   have hmem:r∈ps:=List.mem_of_getElem? hr
   have rdr:=fun {L:List Ent}=>h1.rd (L:=L) (k:=i) (v:=r.v) (by rw [List.getElem?_map,hr];rfl)
   have n1:pa≠none:=h1.ne' (k:=i) (by rw [List.length_map];exact hlt)
   have hrl:=h3 r hmem
   have q0:((i:Nat):Int).toNat=i:=by omega
   by_cases hz:r.xs.length=0
   ·(repeat' ((conv=>whnf);first|rw [q0]|refine ⟨_,_,_,rdr,?_⟩|refine ⟨_,⟨rfl,trivial⟩,?_⟩|(refine zd (fun h=>?_) (fun h=>?_)<;>try (exfalso;omega))|(refine zc (fun h=>?_) (fun h=>?_)<;>try (exfalso;omega))|(refine za (fun h=>?_) (fun h=>?_)<;>(try simp only [zqa,zqb,zqc,zqd,zqe,zqf,zqg] at h))|refine pay ?_|intro _));(all_goals (conv=>whnf))
    all_goals try (exfalso;omega)
    exact ⟨⟨[],Ref.takes [] rfl (.nil _),.inl ⟨.inr (.inl (List.mem_map.2 ⟨r,hmem,List.length_eq_zero_iff.1 hz⟩)),rfl,4,rfl⟩⟩⟩
   ·(repeat' ((conv=>whnf);first|rw [q0]|refine ⟨_,_,_,rdr,?_⟩|refine ⟨_,⟨rfl,trivial⟩,?_⟩|(refine zd (fun h=>?_) (fun h=>?_)<;>try (exfalso;omega))|(refine zc (fun h=>?_) (fun h=>?_)<;>try (exfalso;omega))|(refine za (fun h=>?_) (fun h=>?_)<;>(try simp only [zqa,zqb,zqc,zqd,zqe,zqf,zqg] at h))|refine pay ?_|intro _));(all_goals (conv=>whnf))
    all_goals try (exfalso;omega)
    exact zi (i+1) ⟨hlt,by rw [List.take_add_one,hr,List.map_append];exact fun hm=>(List.mem_append.1 hm).elim hni fun h=>hz (by rw [←(List.mem_singleton.1 h:[]=r.xs)];rfl)⟩ (by omega) (by (repeat ((conv=>whnf);refine vS ?_));exact trivial) (Ref.takes [2] rfl (Thin.refl _))
  ·have hne:[]∉ps.map PA.xs:=by rwa [List.take_of_length_le (by omega)] at hni
   (repeat' ((conv=>whnf);first|refine ⟨_,⟨rfl,trivial⟩,?_⟩|(refine zd (fun h=>?_) (fun h=>?_)<;>try (exfalso;omega))|(refine zc (fun h=>?_) (fun h=>?_)<;>try (exfalso;omega))|(refine za (fun h=>?_) (fun h=>?_)<;>(try simp only [zqa,zqb,zqc,zqd,zqe,zqf,zqg] at h))|refine pay ?_|intro _));(all_goals (conv=>whnf))
   all_goals try (exfalso;omega)
   rename_i mb b30 bt
   refine zu OzG (fun x=>[(0,.v (.slice pa ps.length pc)),(2,.ptr 2 b2 0),(3,.v (.slice none 0 0)),(4,.v .nilIface),(7,.ptr 3200 bt 0),(33,.v (.slice pa ps.length pc)),(34,.v (.int .i64 ps.length)),(35,.v (.int .i64 x.i))])
    (fun x=>[.box 3200 bt (zdw x.t mb x.a x.c) qJ,.mapE 3201 mb (.agg [.int .i64,.int .u8]) (chm x.t.ch),.own 3202 x.a x.t.en.length x.c zj 1 (enL x.t.en),.box 2 b2 [.int .i64 0,.slice none 0 0,.slice none 0 0,.slice none 0 0] zg])
    (fun x=>x.i≤ps.length∧TI x.t x.i∧yg ((ps.map PA.xs).drop x.i) x.t=yg (ps.map PA.xs) tri0) (fun x=>ps.length - x.i) ⟨0,tri0,some ⟨b30,0,none⟩,1⟩ ⟨Nat.zero_le _,TI.start,rfl⟩ (by (repeat ((conv=>whnf);refine vS ?_));exact trivial)
    (Ref.takes [32,29,30,2] rfl (.keep rfl (fun _ h=>h) (.keep rfl (fun _ h=>h) (.keep rfl (fun _ h=>h) (Thin.refl _))))) ?_
   rintro ⟨i,t,a,c⟩ ⟨hi,hT,he⟩
   dsimp only at hi hT he ⊢
   by_cases hlt:i<ps.length
   ·obtain ⟨r,hr⟩:∃ r,ps[i]?=some r:=⟨_,List.getElem?_eq_getElem hlt⟩
    have hmem:r∈ps:=List.mem_of_getElem? hr
    have rdr:=fun {L:List Ent}=>h1.rd (L:=L) (k:=i) (v:=r.v) (by rw [List.getElem?_map,hr];rfl)
    have n1:pa≠none:=h1.ne' (k:=i) (by rw [List.length_map];exact hlt)
    have hrl:=h3 r hmem
    have q0:((i:Nat):Int).toNat=i:=by omega
    have hdr:(ps.map PA.xs).drop i=r.xs::(ps.map PA.xs).drop (i+1):=by
     have hx:(ps.map PA.xs)[i]?=some r.xs:=by rw [List.getElem?_map,hr];rfl
     obtain ⟨e1,e2⟩:=List.getElem?_eq_some_iff.1 hx
     rw [←e2];exact (List.getElem_cons_drop e1).symm
    rw [hdr,yg] at he
    have c1:=fun (fp:List Nat) (w':World) hR hI=>zjm (mx:=4096) bt mb t (hT.mono (by omega)) (Nat.le_refl _) a c r.xs (h4 r hmem) hrl r.a r.c fp w' hR hI
    have hpat:=h2 r hmem
    cases hp:za2 t r.xs with
    | none =>
      rw [hp] at he c1
      (repeat' ((conv=>whnf);first|rw [q0]|refine ⟨_,_,_,rdr,?_⟩|(refine zL [3200,3201,3202] rfl (fun w' hR hR0=>c1 _ w' hR0 (hpat.castL hR)) ?_;rintro _ _ ⟨rfl,rfl⟩;refine ⟨.v _,rfl,?_⟩)|refine ⟨_,⟨rfl,trivial⟩,?_⟩|(refine zd (fun h=>?_) (fun h=>?_)<;>try (exfalso;omega))|(refine zc (fun h=>?_) (fun h=>?_)<;>try (exfalso;omega))|(refine za (fun h=>?_) (fun h=>?_)<;>(try simp only [zqa,zqb,zqc,zqd,zqe,zqf,zqg] at h))|refine pay ?_|intro _));(all_goals (conv=>whnf))
      all_goals try (exfalso;omega)
      exact ⟨⟨[],Ref.takes [] rfl (.nil _),.inl ⟨.inr (.inr he.symm),rfl,9,rfl⟩⟩⟩
    | some t' =>
      rw [hp] at he c1
      (repeat' ((conv=>whnf);first|rw [q0]|refine ⟨_,_,_,rdr,?_⟩|(refine zL [3200,3201,3202] rfl (fun w' hR hR0=>c1 _ w' hR0 (hpat.castL hR)) ?_;rintro _ _ ⟨a',c',rfl,rfl⟩;refine ⟨.v _,rfl,?_⟩)|refine ⟨_,⟨rfl,trivial⟩,?_⟩|(refine zd (fun h=>?_) (fun h=>?_)<;>try (exfalso;omega))|(refine zc (fun h=>?_) (fun h=>?_)<;>try (exfalso;omega))|(refine za (fun h=>?_) (fun h=>?_)<;>(try simp only [zqa,zqb,zqc,zqd,zqe,zqf,zqg] at h))|refine pay ?_|intro _));(all_goals (conv=>whnf))
      all_goals try (exfalso;omega)
      exact zi ⟨i+1,t',_,_⟩ ⟨hlt,zgq hT hp,he⟩ (show ps.length - (i+1)<ps.length - i by omega) (by (repeat ((conv=>whnf);refine vS ?_));exact trivial) (Ref.takes [3200,3201,3202,2] rfl (Thin.refl _))
   ·obtain rfl:i=ps.length:=by omega
    rw [List.drop_of_length_le (by rw [List.length_map];exact Nat.le_refl _),yg] at he
    have c2:=fun (fp:List Nat) (w':World) hR=>zha (mx:=4096) bt mb t (hT.mono hl) (Nat.le_refl _) a c fp w' hR
    (repeat' ((conv=>whnf);first|(refine zL [3200,3201,3202] rfl (fun w' hR hR0=>c2 _ w' hR0) ?_;rintro _ _ ⟨y,F,aH,cH,rfl,hy,hF,rfl⟩;refine ⟨.v _,rfl,?_⟩)|refine ⟨_,⟨rfl,trivial⟩,?_⟩|(refine zd (fun h=>?_) (fun h=>?_)<;>try (exfalso;omega))|(refine zc (fun h=>?_) (fun h=>?_)<;>try (exfalso;omega))|(refine za (fun h=>?_) (fun h=>?_)<;>(try simp only [zqa,zqb,zqc,zqd,zqe,zqf,zqg] at h))|refine pay ?_|intro _));(all_goals (conv=>whnf))
    all_goals try (exfalso;omega)
    exact ⟨⟨_,Ref.takes [79,53] rfl (Thin.refl _),.inr ⟨hne,t,y,F,aH,cH,he.symm,rfl,hy,hF,rfl⟩⟩⟩
end Go.Proofs.YtjmlialibdobpaaGreatDoor
namespace Go.Proofs.YtjmlialibdobpaaGreatDoor
open Go.ChangeShapes Go.WideShapes Go.RowKit Go.EG
abbrev zc5 : List (String × DataW Unit) := [("math/bits.deBruijn64tab", Rows.laid_math_bits_deBruijn64tab)]
theorem tabName : Tryz.prog.globalNamed "math/bits.deBruijn64tab" = some 0 := by kernel_rfl
theorem tabType:(Tryz.prog.globals[0]?).map (·.type)=some 232:=by kernel_rfl
theorem ztK:Tryz.prog.cellsOf 5=1:=by kernel_rfl
theorem zu0:Rows.laid_math_bits_deBruijn64tab=(DataW.agg (tabI.map fun n=>DataW.lit (.int .u8 n)):DataW Unit):=rfl
theorem zoH {W:World} (h:laidMetH Tryz.prog zc5 W):Tab W:=by
 have h':laidMet Tryz.prog zc5 W:=by
  rw [←show laidMetH Tryz.prog zc5 W=laidMet Tryz.prog zc5 W from rfl];exact h
 obtain ⟨ps,⟨g,t,cs,fuel,p,q,hg,ht,hvar,hd,_,_⟩,_⟩:=h'
 obtain rfl:=Option.some.inj (tabName.symm.trans hg)
 obtain rfl:=Option.some.inj (tabType.symm.trans ht)
 obtain ⟨xs,m,_,hx,hlen,hxl,hat⟩:=DataW.trod_array Tryz.underlying232 hd
 obtain ⟨hx1,_⟩:=Prod.mk.inj hx
 rw [zu0] at hx1
 simp only [DataW.agg.injEq] at hx1
 have hcell:∀ i,i<64→cs[i]?=some (.int .u8 (tabI.getD i 0)):=fun i hi=>by
  have h1:=hat i hi
  rw [ztK,Nat.mul_one] at h1
  have hxi:∃ y,xs[i]?=some y:=⟨xs[i],by simp [hxl,hi]⟩
  obtain ⟨y,hy⟩:=hxi
  rw [hy] at h1
  obtain ⟨n,hn,hyn,_⟩:=DataW.trod_int Tryz.underlying5 h1
  subst hyn
  have h2:=congrArg (fun l=>l[i]?) hx1
  simp only [List.getElem?_map,hy,Option.map_some] at h2
  have h3:tabI[i]?=some (tabI.getD i 0):=by
   rw [List.getD_eq_getElem?_getD]
   have:i<tabI.length:=by rw [zaE];exact hi
   simp [this]
  rw [h3] at h2
  simp only [Option.map_some,Option.some.injEq,DataW.lit.injEq,Lit.int.injEq,true_and] at h2
  rw [h2]
  have h4:=congrArg (fun l=>l[0]?) hn
  simp only [List.getElem?_take,List.getElem?_drop,Nat.add_zero,List.getElem?_cons_zero,Nat.zero_lt_one,if_true] at h4
  rw [←h4]
  simp
 refine .inr ⟨0,0,rfl,?_,by simp,fun j v hv=>?_⟩
 ·have h0:=World.var?_cell hg hvar 0
  rw [hcell 0 (by decide)] at h0
  unfold World.cell? at h0
  rcases Nat.lt_or_ge 0 W.heap.size with h|h
  ·exact h
  ·rw [Array.getElem?_eq_none h] at h0
   simp at h0
 ·have hj:j<64:=by
   have:=(List.getElem?_eq_some_iff.1 hv).1
   rw [ints_length,zaE] at this
   exact this
  rw [xg (by rw [zaE];exact hj)] at hv
  rw [Nat.zero_add,World.var?_cell hg hvar j,hcell j hj]
  exact hv
noncomputable def zlp (os:Os):World :=
 let w0:=World.holding Tryz.prog os ⟨#[],#[],[]⟩
 { w0 with heap:=w0.heap.modify 0 fun
  | .cells _ t frozen=>.cells (zo .u8 tabI).toArray t frozen
  | o=>o }
theorem zlT (os:Os) (args:Array Value):laidMetH Tryz.prog zc5 ((zlp os).forCall (fun _ _=>0) ⟨#[],args,[]⟩).memory :=
 laidMetH_of_parts (laidMet_of_run' 8 (by kernel_rfl) (by kernel_rfl)) (by kernel_rfl)
end Go.Proofs.YtjmlialibdobpaaGreatDoor
