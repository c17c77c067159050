/- A quiet operation's small form fixes its value. Generic over the program: no condition. -/
import Derived.Test.YtjmlialibdobpaaGreatDoorK1
import Derived.Deep.LoopGhost
import Derived.ProofKit
import Derived.OpenShut
import Derived.ShutString
import Derived.ChangeOld
import Derived.Below
import Derived.SizedLaws
import Derived.DataElems
set_option linter.unusedSectionVars false
set_option linter.unusedVariables false
set_option linter.unusedSimpArgs false
namespace Go.EG
section
open Go.RowKit
theorem qC {s:Option SV} {K:SV->Prop} (h:gA s K):∃ u,K u/\∀ K':SV->Prop,K' u->gA s K':=by
 obtain ⟨u,rfl,h⟩:=zy h;exact ⟨u,h,fun _ h=>h⟩
theorem zeO {s:Option SV} {K:Bool->Prop} (h:uv s K):∃ u,K u/\∀ K':Bool->Prop,K' u->uv s K':=by
 obtain ⟨u,rfl,h⟩:=vJ h;exact ⟨u,h,fun _ h=>h⟩
theorem jK {s:Option SV} {K:Int->Prop} (h:va s K):∃ u,K u/\∀ K':Int->Prop,K' u->va s K':=by
 obtain ⟨_,u,rfl,h⟩:=qS h;exact ⟨u,h,fun _ h=>h⟩
theorem yu {k:IntKind} {s:Option SV} {K:Int->Prop} (h:qT k s K):∃ u,K u/\∀ K':Int->Prop,K' u->qT k s K':=by
 obtain ⟨u,rfl,h1⟩:=qw h;exact ⟨u,h1,fun _ h2=>by cases k<;>exact h2⟩
theorem zeP {k:IntKind} {n:Int} {K:Int->Prop} (h:jW k n K):∃ u,K u/\∀ K':Int->Prop,K' u->jW k n K':=by
 cases k<;>simp only [jW] at h ⊢<;>first|exact ⟨_,h.2,fun _ h'=>⟨h.1,h'⟩⟩|exact ⟨_,h,fun _ h=>h⟩
theorem znq {k:IntKind} {n:Int} {K:Int->Prop} (h:zdf k n K):∃ u,K u/\∀ K':Int->Prop,K' u->zdf k n K':=by
 cases k<;>simp only [zdf] at h ⊢<;>first|exact ⟨_,h.2,fun _ h'=>⟨h.1,h'⟩⟩|exact ⟨_,h,fun _ h=>h⟩
theorem znr {lk:LK} {K:Value->Prop} (h:vK lk K):∃ u,K u/\∀ K':Value->Prop,K' u->vK lk K':=by
 cases lk<;>simp only [vK] at h ⊢
 ·obtain ⟨_,h⟩:=h;exact ⟨_,h,fun _ h=>⟨_,h⟩⟩
 ·obtain ⟨_,h⟩:=h;exact ⟨_,h,fun _ h=>⟨_,h⟩⟩
 ·obtain ⟨_,h⟩:=h;exact ⟨_,h,fun _ h=>⟨_,h⟩⟩
 ·obtain ⟨_,h⟩:=h;exact ⟨_,h,fun _ h=>⟨_,h⟩⟩
 ·obtain ⟨_,_,_,h⟩:=h;exact ⟨_,h,fun _ h=>⟨_,_,_,h⟩⟩
 ·obtain ⟨_,h⟩:=h;exact ⟨_,h,fun _ h=>⟨_,h⟩⟩
 ·obtain ⟨_,h⟩:=h;exact ⟨_,h,fun _ h=>⟨_,h⟩⟩
theorem zkF {e:Env} {o:Option X} {d:Int} {K:Int->Prop} (h:zan e o d K):∃ u,K u/\∀ K':Int->Prop,K' u->zan e o d K':=by
 cases o with
 | none=>exact ⟨d,h,fun _ h=>h⟩
 | some x=>exact jK h
theorem zqZ {s:Option Value} {K:Value->Prop} (h:gV s K):∃ u,K u/\∀ K':Value->Prop,K' u->gV s K':=by
 obtain ⟨u,rfl,h⟩:=zec h;exact ⟨u,h,fun _ h=>h⟩
theorem zns {e:Env}:∀ {xs:List X} {K:List SV->Prop},gAs e xs K->∃ u,K u/\∀ K':List SV->Prop,K' u->gAs e xs K'
 | [],K,h=>⟨_,h,fun _ h=>h⟩
 | x :: xs,K,h => by
   obtain ⟨u,h,b⟩:=qC h
   obtain ⟨l,h,b'⟩:=zns h
   exact ⟨_,h,fun K' h=>b _ (b' _ h)⟩
theorem zrZ {e:Env}:∀ {xs:List (Nat × Nat × X)} {K:List (Nat × List Value)->Prop},gPs e xs K->∃ u,K u/\∀ K':List (Nat × List Value)->Prop,K' u->gPs e xs K'
 | [],K,h=>⟨_,h,fun _ h=>h⟩
 | (off,sz,x) :: xs,K,h => by
   obtain ⟨u,⟨h1,h⟩,b⟩:=qC h
   obtain ⟨l,h,b'⟩:=zrZ h
   exact ⟨_,h,fun K' h=>b _ ⟨h1,b' _ h⟩⟩
theorem zvr {nk:NK} {s:SV} {K:Bool->Prop} (h:zcf nk s K):∃ u,K u/\∀ K':Bool->Prop,K' u->zcf nk s K':=by
 unfold zcf at h
 split at h<;>first|exact h.elim|exact ⟨_,h,fun _ h=>h⟩
theorem ztZ {o:Option Value} {A:Value->Prop} {B:Prop} {v:Value} (h:o=some v) (hA:A v):lkK o A B:=by
 subst h;exact ⟨(fun v' hv=>by cases hv;exact hA),fun hn=>by cases hn⟩
theorem zt0 {o:Option Value} {A:Value->Prop} {B:Prop} (h:o=none) (hB:B):lkK o A B:=by
 subst h;exact ⟨(fun v' hv=>by cases hv),fun _=>hB⟩
section
variable {P:Program} {w0:World} {fp0:List Nat} {e:Env} {L:List Ent} {k:SV->List Ent->Prop} {i:I}
theorem zxA (hq:isQ i=true) (h:VI P w0 fp0 i e L k):∃ s,k s L/\∀ k':SV->List Ent->Prop,k' s L->VI P w0 fp0 i e L k':=by
 cases i with
 | mv x=>simp only [VI] at h ⊢;obtain ⟨u,h,b⟩:=qC h;exact ⟨u,h,fun k' h=>b _ h⟩
 | pick c x y =>
   simp only [VI] at h ⊢
   obtain ⟨t,h,b⟩:=zeO h
   obtain ⟨u,h,b1⟩:=qC h
   obtain ⟨v,h,b2⟩:=qC h
   cases t
   ·exact ⟨v,h.2 rfl,fun k' h=>b _ (b1 _ (b2 _ ⟨nofun,fun _=>h⟩))⟩
   ·exact ⟨u,h.1 rfl,fun k' h=>b _ (b1 _ (b2 _ ⟨fun _=>h,nofun⟩))⟩
 | ar o kd x y =>
   simp only [VI] at h ⊢
   obtain ⟨p,h,b⟩:=yu h
   obtain ⟨q,h,b1⟩:=yu h
   obtain ⟨r,h,b2⟩:=zeP h
   exact ⟨_,h,fun k' h=>b _ (b1 _ (b2 _ h))⟩
 | arf o kd x y =>
   simp only [VI] at h ⊢
   obtain ⟨p,h,b⟩:=yu h
   obtain ⟨q,h,b1⟩:=yu h
   obtain ⟨r,h,b2⟩:=znq h
   exact ⟨_,h,fun k' h=>b _ (b1 _ (b2 _ h))⟩
 | dv rem kd x y =>
   simp only [VI] at h ⊢
   obtain ⟨p,h,b⟩:=yu h
   obtain ⟨q,⟨h0,h⟩,b1⟩:=yu h
   exact ⟨_,h,fun k' h=>b _ (b1 _ ⟨h0,h⟩)⟩
 | dvr rem kd x y =>
   simp only [VI] at h ⊢
   obtain ⟨p,h,b⟩:=yu h
   obtain ⟨q,⟨h0,h⟩,b1⟩:=yu h
   exact ⟨_,h,fun k' h=>b _ (b1 _ ⟨h0,h⟩)⟩
 | cmp o kd x y =>
   simp only [VI] at h ⊢
   obtain ⟨p,h,b⟩:=yu h
   obtain ⟨q,h,b1⟩:=yu h
   exact ⟨_,h,fun k' h=>b _ (b1 _ h)⟩
 | bnr kd x y =>
   simp only [VI] at h ⊢
   obtain ⟨p,h,b⟩:=yu h
   obtain ⟨q,h,b1⟩:=yu h
   exact ⟨_,h,fun k' h=>b _ (b1 _ h)⟩
 | sh left kd x y =>
   simp only [VI] at h ⊢
   obtain ⟨p,h,b⟩:=yu h
   obtain ⟨q,⟨h0,h⟩,b1⟩:=jK h
   cases left
   ·exact ⟨_,h,fun k' h=>b _ (b1 _ ⟨h0,h⟩)⟩
   ·obtain ⟨r,h,b2⟩:=zeP h
    exact ⟨_,h,fun k' h=>b _ (b1 _ ⟨h0,b2 _ h⟩)⟩
 | bit o kd x y =>
   simp only [VI] at h ⊢
   obtain ⟨p,h,b⟩:=yu h
   obtain ⟨q,⟨h0,h⟩,b1⟩:=yu h
   exact ⟨_,h,fun k' h=>b _ (b1 _ ⟨h0,h⟩)⟩
 | eqb ng x y =>
   simp only [VI] at h ⊢
   obtain ⟨p,h,b⟩:=zeO h
   obtain ⟨q,h,b1⟩:=zeO h
   exact ⟨_,h,fun k' h=>b _ (b1 _ h)⟩
 | eqs ng x y =>
   simp only [VI] at h ⊢
   obtain ⟨p,h,b⟩:=qC h
   obtain ⟨q,h,b1⟩:=qC h
   split at h
   ·exact ⟨_,h,fun k' h=>b _ (b1 _ h)⟩
   ·exact h.elim
 | eqn nk ng x =>
   simp only [VI] at h ⊢
   obtain ⟨p,h,b⟩:=qC h
   obtain ⟨q,h,b1⟩:=zvr h
   exact ⟨_,h,fun k' h=>b _ (b1 _ h)⟩
 | eqa ng ks x y =>
   simp only [VI] at h ⊢
   obtain ⟨p,h,b⟩:=qC h
   obtain ⟨q,h,b1⟩:=qC h
   split at h
   ·exact ⟨_,h.2,fun k' h'=>b _ (b1 _ ⟨h.1,h'⟩)⟩
   ·exact h.elim
 | eqp ng x y =>
   simp only [VI] at h ⊢
   obtain ⟨p,h,b⟩:=qC h
   obtain ⟨q,⟨a1,a2,h0,h⟩,b1⟩:=qC h
   exact ⟨_,h,fun k' h=>b _ (b1 _ ⟨a1,a2,h0,h⟩)⟩
 | not x=>simp only [VI] at h ⊢;obtain ⟨u,h,b⟩:=zeO h;exact ⟨_,h,fun k' h=>b _ h⟩
 | neg kd x =>
   simp only [VI] at h ⊢
   obtain ⟨p,h,b⟩:=yu h
   obtain ⟨r,h,b2⟩:=zeP h
   exact ⟨_,h,fun k' h=>b _ (b2 _ h)⟩
 | cv kd x =>
   simp only [VI] at h ⊢
   obtain ⟨p,h,b⟩:=jK h
   obtain ⟨r,h,b2⟩:=zeP h
   exact ⟨_,h,fun k' h=>b _ (b2 _ h)⟩
 | cvf kd x =>
   simp only [VI] at h ⊢
   obtain ⟨p,h,b⟩:=jK h
   obtain ⟨r,h,b2⟩:=znq h
   exact ⟨_,h,fun k' h=>b _ (b2 _ h)⟩
 | ext x m =>
   simp only [VI] at h ⊢
   obtain ⟨p,h,b⟩:=qC h
   split at h
   ·obtain ⟨v,h,b1⟩:=zqZ h
    exact ⟨_,h,fun k' h=>b _ (b1 _ h)⟩
   ·exact h.elim
 | bld z ps =>
   simp only [VI] at h ⊢
   obtain ⟨p,h,b⟩:=zrZ h
   exact ⟨_,h,fun k' h=>b _ h⟩
 | ld lk x =>
   simp only [VI] at h ⊢
   obtain ⟨s,h,b⟩:=qC h
   have gen:(vK lk fun v=>Rd w0 fp0 L s [v]/\k (.v v) L)->∃ v,k v L/\∀ k':SV->List Ent->Prop,k' v L->(vK lk fun v=>Rd w0 fp0 L s [v]/\k' (.v v) L):=fun h=>by
    obtain ⟨v,⟨h0,h⟩,b1⟩:=znr h
    exact ⟨_,h,fun k' h=>b1 _ ⟨h0,h⟩⟩
   cases s with
   | ptr key bb off =>
     simp only at h
     cases hb:yh key L with
     | none =>
       simp only [hb] at h
       obtain ⟨v,h,b1⟩:=gen h
       exact ⟨v,h,fun k' h=>b _ (by simp only [hb];exact b1 k' h)⟩
     | some q =>
       obtain ⟨b',cs,T⟩:=q
       simp only [hb] at h
       obtain ⟨h0,h⟩:=h
       obtain ⟨v,h,b1⟩:=zqZ h
       exact ⟨_,h,fun k' h=>b _ (by simp only [hb];exact ⟨h0,b1 _ h⟩)⟩
   | ek key a j =>
     simp only at h
     cases hb:zL key L with
     | none=>simp only [hb] at h
     | some ow =>
       simp only [hb] at h
       obtain ⟨h0,h⟩:=h
       obtain ⟨v,⟨h1,h⟩,b1⟩:=znr h
       exact ⟨_,h,fun k' h=>b _ (by simp only [hb];exact ⟨h0,b1 _ ⟨h1,h⟩⟩)⟩
   | v x=>obtain ⟨v,h,b1⟩:=gen h;exact ⟨v,h,fun k' h=>b _ (b1 k' h)⟩
   | el a j=>obtain ⟨v,h,b1⟩:=gen h;exact ⟨v,h,fun k' h=>b _ (b1 k' h)⟩
   | sl key a n c=>obtain ⟨v,h,b1⟩:=gen h;exact ⟨v,h,fun k' h=>b _ (b1 k' h)⟩
   | mp key bb=>obtain ⟨v,h,b1⟩:=gen h;exact ⟨v,h,fun k' h=>b _ (b1 k' h)⟩
   | vie key a n c=>obtain ⟨v,h,b1⟩:=gen h;exact ⟨v,h,fun k' h=>b _ (b1 k' h)⟩
 | lda m ks x =>
   simp only [VI] at h ⊢
   obtain ⟨s,h,b⟩:=qC h
   have gen:(∃ vs:List Value,vs.length=m/\Rd w0 fp0 L s vs/\k (.v (.agg vs.toArray)) L)->∃ v,k v L/\∀ k':SV->List Ent->Prop,k' v L->(∃ vs:List Value,vs.length=m/\Rd w0 fp0 L s vs/\k' (.v (.agg vs.toArray)) L):=fun h=>by
    obtain ⟨vs,h0,h1,h⟩:=h
    exact ⟨_,h,fun k' h=>⟨vs,h0,h1,h⟩⟩
   cases s with
   | ptr key bb off =>
     simp only at h
     cases hb:yh key L with
     | none =>
       simp only [hb] at h
       obtain ⟨v,h,b1⟩:=gen h
       exact ⟨v,h,fun k' h=>b _ (by simp only [hb];exact b1 k' h)⟩
     | some q =>
       obtain ⟨b',cs,T⟩:=q
       simp only [hb] at h
       obtain ⟨h0,h⟩:=h
       exact ⟨_,h,fun k' h=>b _ (by simp only [hb];exact ⟨h0,h⟩)⟩
   | ek key a j =>
     simp only at h
     cases hb:zL key L with
     | none=>simp only [hb] at h
     | some ow =>
       simp only [hb] at h
       obtain ⟨h0,vs,h1,h2,h⟩:=h
       exact ⟨_,h,fun k' h=>b _ (by simp only [hb];exact ⟨h0,vs,h1,h2,h⟩)⟩
   | v x=>obtain ⟨v,h,b1⟩:=gen h;exact ⟨v,h,fun k' h=>b _ (b1 k' h)⟩
   | el a j=>obtain ⟨v,h,b1⟩:=gen h;exact ⟨v,h,fun k' h=>b _ (b1 k' h)⟩
   | sl key a n c=>obtain ⟨v,h,b1⟩:=gen h;exact ⟨v,h,fun k' h=>b _ (b1 k' h)⟩
   | mp key bb=>obtain ⟨v,h,b1⟩:=gen h;exact ⟨v,h,fun k' h=>b _ (b1 k' h)⟩
   | vie key a n c=>obtain ⟨v,h,b1⟩:=gen h;exact ⟨v,h,fun k' h=>b _ (b1 k' h)⟩
 | nil x =>
   simp only [VI] at h ⊢
   obtain ⟨s,h,b⟩:=qC h
   refine ⟨s,?_,fun k' h'=>b _ ?_⟩
   ·split at h<;>first|exact h.elim|exact h.2|exact h
   ·revert h
    cases s with
    | v x=>cases x<;>intro h<;>first|exact h.elim|exact ⟨h.1,h'⟩
    | ptr=>intro _;exact h'
    | el=>intro h;exact ⟨h.1,h'⟩
    | ek=>intro h;exact ⟨h.1,h'⟩
    | sl=>intro h;exact h.elim
    | mp=>intro h;exact h.elim
    | vie=>intro h;exact h.elim
 | fa off x =>
   simp only [VI] at h ⊢
   obtain ⟨s,h,b⟩:=qC h
   split at h
   ·exact ⟨_,h,fun k' h=>b _ h⟩
   ·exact ⟨_,h.2,fun k' h'=>b _ ⟨h.1,h'⟩⟩
   ·exact ⟨_,h.2,fun k' h'=>b _ ⟨h.1,h'⟩⟩
   ·exact ⟨_,h,fun k' h=>b _ h⟩
   ·exact h.elim
 | ia sz x y =>
   simp only [VI] at h ⊢
   obtain ⟨s,h,b⟩:=qC h
   obtain ⟨q,h,b1⟩:=jK h
   split at h
   ·exact ⟨_,h.2.2,fun k' h'=>b _ (b1 _ ⟨h.1,h.2.1,h'⟩)⟩
   ·exact ⟨_,h.2.2,fun k' h'=>b _ (b1 _ ⟨h.1,h.2.1,h'⟩)⟩
   ·exact h.elim
 | iaa sz len x y =>
   simp only [VI] at h ⊢
   obtain ⟨s,h,b⟩:=qC h
   obtain ⟨q,h,b1⟩:=jK h
   split at h
   ·exact ⟨_,h.2,fun k' h'=>b _ (b1 _ ⟨h.1,h'⟩)⟩
   ·exact ⟨_,h.2,fun k' h'=>b _ (b1 _ ⟨h.1,h'⟩)⟩
   ·exact h.elim
 | lens x =>
   simp only [VI] at h ⊢
   obtain ⟨s,h,b⟩:=qC h
   split at h
   ·exact ⟨_,h,fun k' h=>b _ h⟩
   ·exact ⟨_,h,fun k' h=>b _ h⟩
   ·exact h.elim
 | lent x =>
   simp only [VI] at h ⊢
   obtain ⟨s,h,b⟩:=qC h
   split at h
   ·exact ⟨_,h,fun k' h=>b _ h⟩
   ·exact h.elim
 | mm mx kd x y =>
   simp only [VI] at h ⊢
   obtain ⟨p,h,b⟩:=yu h
   obtain ⟨q,h,b1⟩:=yu h
   exact ⟨_,h,fun k' h=>b _ (b1 _ h)⟩
 | mki T x=>simp only [VI] at h ⊢;obtain ⟨u,h,b⟩:=qC h;exact ⟨_,h,fun k' h=>b _ h⟩
 | mkf fn fi ca =>
   simp only [VI] at h ⊢
   obtain ⟨p,h,b⟩:=zns h
   obtain ⟨q,h,b1⟩:=zns h
   exact ⟨_,h,fun k' h=>b _ (b1 _ h)⟩
 | slc sz x lo hi =>
   simp only [VI] at h ⊢
   obtain ⟨s,h,b⟩:=qC h
   obtain ⟨l,h,b1⟩:=zkF h
   split at h
   ·obtain ⟨m,⟨h0,h⟩,b2⟩:=zkF h
    exact ⟨_,h,fun k' h=>b _ (b1 _ (b2 _ ⟨h0,h⟩))⟩
   ·obtain ⟨m,⟨h0,h⟩,b2⟩:=zkF h
    exact ⟨_,h,fun k' h=>b _ (b1 _ (b2 _ ⟨h0,h⟩))⟩
   ·exact h.elim
 | fld off lk x =>
   simp only [VI] at h ⊢
   obtain ⟨s,h,b⟩:=qC h
   split at h
   ·obtain ⟨v,h,b1⟩:=zqZ h
    exact ⟨_,h,fun k' h=>b _ (b1 _ h)⟩
   ·exact h.elim
 | fls off n x =>
   simp only [VI] at h ⊢
   obtain ⟨s,h,b⟩:=qC h
   split at h
   ·exact ⟨_,h.2,fun k' h'=>b _ ⟨h.1,h'⟩⟩
   ·exact h.elim
 | cvs x =>
   simp only [VI] at h ⊢
   obtain ⟨s,h,b⟩:=qC h
   unfold jd at h
   split at h
   ·split at h
    ·rename_i ho
     obtain ⟨h1,l,h2,h⟩:=h
     refine ⟨_,h,fun k' h'=>b _ ?_⟩
     simp only [jd,ho]
     exact ⟨h1,l,h2,h'⟩
    ·exact h.elim
   ·obtain ⟨xs,h1,l,h2,h⟩:=h
    exact ⟨_,h,fun k' h'=>b _ ⟨xs,h1,l,h2,h'⟩⟩
   ·exact h.elim
 | idx len x y =>
   simp only [VI] at h ⊢
   obtain ⟨s,h,b1⟩:=qC h
   obtain ⟨q,h,b2⟩:=jK h
   split at h
   ·obtain ⟨h1,v,hv,h⟩:=h
    exact ⟨_,h,fun k' h'=>b1 _ (b2 _ ⟨h1,v,hv,h'⟩)⟩
   ·exact h.elim
 | lnm x =>
   simp only [VI] at h ⊢
   obtain ⟨s,h,b⟩:=qC h
   split at h
   ·split at h
    ·rename_i hm
     refine ⟨_,h.2,fun k' h'=>b _ ?_⟩
     simp only [hm]
     exact ⟨h.1,h'⟩
    ·exact h.elim
   ·exact ⟨_,h,fun k' h=>b _ h⟩
   ·exact h.elim
 | lku kk ok z x y =>
   simp only [VI] at h ⊢
   obtain ⟨s,h,b⟩:=qC h
   obtain ⟨u,h,b1⟩:=qC h
   have key:∀ {o:Option Value} {A:Value->Prop} {B:Prop},lkK o A B->(∃ v,o=some v/\A v)∨(o=none/\B):=fun {o A B} h=>by
    cases o with
    | none=>exact .inr ⟨rfl,h.2 rfl⟩
    | some v=>exact .inl ⟨v,rfl,h.1 v rfl⟩
   split at h
   ·split at h
    ·rename_i hm
     obtain ⟨h0,hks⟩:=h
     rcases key (zrN hks) with ⟨v,hv,h⟩|⟨hv,h⟩
     ·refine ⟨_,h,fun k' h'=>b _ (b1 _ ?_)⟩
      simp only [hm]
      exact ⟨h0,zby (fun _=>ztZ hv h') hks⟩
     ·refine ⟨_,h,fun k' h'=>b _ (b1 _ ?_)⟩
      simp only [hm]
      exact ⟨h0,zby (fun _=>zt0 hv h') hks⟩
    ·exact h.elim
   ·exact ⟨_,h.2,fun k' h'=>b _ (b1 _ ⟨h.1,h'⟩)⟩
   ·exact h.elim
 | ixs sz len x y =>
   simp only [VI] at h ⊢
   obtain ⟨s,h,b⟩:=qC h
   obtain ⟨u,h,b1⟩:=jK h
   split at h
   ·exact ⟨_,h.2,fun k' h'=>b _ (b1 _ ⟨h.1,h'⟩)⟩
   ·exact h.elim
 | tas T ok z x =>
   simp only [VI] at h ⊢
   obtain ⟨s,h,b⟩:=qC h
   split at h
   ·rename_i T' v
    by_cases hT:T'=T
    ·exact ⟨_,h.1 hT,fun k' h'=>b _ ⟨fun _=>h',fun hn=>absurd hT hn⟩⟩
    ·exact ⟨_,(h.2 hT).2,fun k' h'=>b _ ⟨fun hn=>absurd hn hT,fun _=>⟨(h.2 hT).1,h'⟩⟩⟩
   ·exact ⟨_,h.2,fun k' h'=>b _ ⟨h.1,h'⟩⟩
   ·exact h.elim
 | _=>cases hq
end
structure Stop (p:Prop):Prop where
 h:p
def j5 (t:Bool) (A B:Prop):Prop :=
 match t with
 | true=>A
 | false=>B
theorem zdE {t:Bool} {A B:Prop} (h1:t=true->A) (h2:t=false->B):j5 t A B:=by
 cases t
 ·exact h2 rfl
 ·exact h1 rfl
theorem zc {p:Prop} [Decidable p] {A B:Prop} (h1:p->A) (h2:¬p->B):j5 (decide p) A B :=
 zdE (fun h=>h1 (of_decide_eq_true h)) (fun h=>h2 (of_decide_eq_false h))
theorem za {p:Prop} [Decidable p] {A B:Prop} (h1:¬p->A) (h2:p->B):j5 (!decide p) A B :=
 zdE (fun h=>h1 (by simpa using h)) (fun h=>h2 (by simpa using h))
class Bp (t:Bool) (p q:outParam Prop):Prop where
 a:t=true->p
 b:t=false->q
instance (priority:=10) (t:Bool):Bp t (t=true) (t=false):=⟨id,id⟩
instance (priority:=20) (t:Bool):Bp (!t) (t=false) (t=true):=⟨fun h=>by simpa using h,fun h=>by simpa using h⟩
theorem zd {t:Bool} {p q A B:Prop} [k:Bp t p q] (h1:p->A) (h2:q->B):j5 t A B:=zdE (fun h=>h1 (k.a h)) fun h=>h2 (k.b h)
theorem xM {t:Bool} {A B:Prop} (h:j5 t A B):(t=true->A)/\(t=false->B):=by
 cases t
 ·exact ⟨fun h=>(by cases h),fun _=>h⟩
 ·exact ⟨fun _=>h,fun h=>(by cases h)⟩
def zp3:List Value->Bool
 | []=>true
 | .agg _::_=>false
 | .tuple _::_=>false
 | _::l=>zp3 l
theorem jL:∀ {l:List Value},zp3 l=true->yL l
 | [],_=>trivial
 | v :: l,h => by
   cases v<;>first|(cases h;done)|exact ⟨trivial,jL (l:=l) h⟩
def atL (xs:List Value) (i:Nat):Value:=(xs[i]?).getD undef
def intOf:Value->Int
 | .int _ n=>n
 | _=>0
def boolOf:Value->Bool
 | .bool b=>b
 | _=>false
def zuX:Value->ByteArray
 | .string s=>s
 | _=>ByteArray.empty
def zuY:Value->Option Addr
 | .pointer p=>p
 | _=>none
def zuZ:Value->Option Addr
 | .slice a _ _=>a
 | _=>none
def zmV:Value->Nat
 | .slice _ n _=>n
 | _=>0
def zu0:Value->Nat
 | .slice _ _ c=>c
 | _=>0
def zjy:Value->Option Nat
 | .map r=>r
 | _=>none
def zeQ:LK->Value->Value
 | .int k,v=>.int k (intOf v)
 | .bool,v=>.bool (boolOf v)
 | .str,v=>.string (zuX v)
 | .ptr,v=>.pointer (zuY v)
 | .slc,v=>.slice (zuZ v) (zmV v) (zu0 v)
 | .map,v=>.map (zjy v)
 | .raw,v=>v
def isK (lk:LK) (xs:List Value) (i:Nat):Prop:=xs[i]?=some (zeQ lk (atL xs i))
theorem zr0 {lk:LK} {K:Value->Prop} (v:Value) (h:K (zeQ lk v)):vK lk K:=by
 cases lk<;>simp only [vK,zeQ] at h ⊢
 ·exact ⟨_,h⟩
 ·exact ⟨_,h⟩
 ·exact ⟨_,h⟩
 ·exact ⟨_,h⟩
 ·exact ⟨_,_,_,h⟩
 ·exact ⟨_,h⟩
 ·exact ⟨_,h⟩
def zig:List LK->List Value->Nat->List Value
 | [],_,_=>[]
 | k::ks,xs,i=>zeQ k (atL xs i)::zig ks xs (i+1)
def zhb:List LK->List Value->Nat->Prop
 | [],_,_=>True
 | k::ks,xs,i=>isK k xs i/\zhb ks xs (i+1)
theorem zhP:∀ (ks:List LK) (xs:List Value) (i:Nat),(zig ks xs i).length=ks.length
 | [],_,_=>rfl
 | _::ks,xs,i=>by simp [zig,zhP ks]
theorem znt:∀ (ks:List LK) (xs:List Value) (i:Nat),zhb ks xs i->(xs.drop i).take ks.length=zig ks xs i
 | [],_,_,_=>by simp [zig]
 | k :: ks,xs,i,h => by
   obtain ⟨h1,h2⟩:=h
   obtain ⟨hi,h1⟩:=List.getElem?_eq_some_iff.1 h1
   rw [List.drop_eq_getElem_cons hi]
   simp only [List.length_cons,List.take_succ_cons,zig]
   rw [znt ks xs (i+1) h2,h1]
def zjz (lk:LK) (v:Value) (K:Value->Prop):Prop :=
 match lk with
 | .int k=>K (.int k (intOf v))
 | .bool=>K (.bool (boolOf v))
 | .str=>K (.string (zuX v))
 | .ptr=>K (.pointer (zuY v))
 | .slc=>K (.slice (zuZ v) (zmV v) (zu0 v))
 | .map=>K (.map (zjy v))
 | .raw=>K v
theorem zjA {lk:LK} {v:Value} {K:Value->Prop} (h:zjz lk v K):K (zeQ lk v):=by cases lk<;>exact h
def zeR:List LK->List Value->Nat->(List Value->Prop)->Prop
 | [],_,_,K=>K []
 | k::ks,xs,i,K=>zjz k (atL xs i) fun v=>zeR ks xs (i+1) fun l=>K (v::l)
theorem zjB:∀ {ks:List LK} {xs:List Value} {i:Nat} {K:List Value->Prop},zeR ks xs i K->K (zig ks xs i)
 | [],_,_,_,h=>h
 | k :: ks,xs,i,K,h => by
   have h1:=zjA (K:=fun v=>zeR ks xs (i+1) fun l=>K (v::l)) h
   exact zjB (K:=fun l=>K (zeQ k (atL xs i)::l)) h1
def arK (o:BinOp) (p q:Int) (K:Int->Prop):Prop :=
 match o with
 | .add=>K (p+q)
 | .sub=>K (p - q)
 | .mul=>K (p*q)
 | _=>False
theorem znu {o:BinOp} {p q:Int} {K:Int->Prop} (h:arK o p q K):K (arF o p q):=by
 cases o<;>first|exact h|exact h.elim
def zt1 (o:BinOp) (p q:Int) (K:Bool->Prop):Prop :=
 match o with
 | .eql=>K (decide (p=q))
 | .neq=>K (!decide (p=q))
 | .lss=>K (decide (p<q))
 | .leq=>K (decide (p<=q))
 | .gtr=>K (decide (q<p))
 | .geq=>K (decide (q<=p))
 | _=>False
theorem zr1 {o:BinOp} {p q:Int} {K:Bool->Prop} (h:zt1 o p q K):K (zm6 o p q):=by
 cases o<;>first|exact h|exact h.elim|(simp only [zt1,zm6] at h ⊢;rw [decide_not];exact h)
def zt2 (o:BinOp) (p q:Int) (K:Int->Prop):Prop :=
 match o with
 | .and=>K ((p.toNat&&&q.toNat:Nat):Int)
 | .or=>K ((p.toNat|||q.toNat:Nat):Int)
 | .xor=>K ((p.toNat ^^^ q.toNat:Nat):Int)
 | .andNot=>K ((p.toNat ^^^ (p.toNat&&&q.toNat):Nat):Int)
 | _=>False
theorem zr2 {o:BinOp} {p q:Int} {K:Int->Prop} (h:zt2 o p q K):K ((zce o p.toNat q.toNat:Nat):Int):=by
 cases o<;>first|exact h|exact h.elim
def zt3 (k:IntKind) (K:Int->Prop):Prop :=
 match k with
 | .i64=>K 9223372036854775807
 | .i32=>K 2147483647
 | .i16=>K 32767
 | .i8=>K 127
 | .u64=>K 18446744073709551615
 | .u32=>K 4294967295
 | .u16=>K 65535
 | .u8=>K 255
theorem zlK {k:IntKind} {K:Int->Prop} (h:zt3 k K):K (hiK k):=by cases k<;>exact h
def zwd (rem:Bool) (p q:Int) (K:Int->Prop):Prop :=
 match rem with
 | true=>K (p%q)
 | false=>K (p/q)
def ngK (ng b:Bool) (K:Bool->Prop):Prop :=
 match ng with
 | true=>K (!b)
 | false=>K b
theorem zih {ng b:Bool} {K:Bool->Prop} (h:ngK ng b K):K (ngB ng b):=by cases ng<;>exact h
def znv (i sz:Nat) (K:Nat->Prop):Prop :=
 match sz with
 | 1=>K i
 | _=>K (i*sz)
theorem zgi {i sz:Nat} {K:Nat->Prop} (h:znv i sz K):K (i*sz):=by
 unfold znv at h
 split at h
 ·rw [Nat.mul_one];exact h
 ·exact h
def znw (i j:Nat) (K:Nat->Prop):Prop :=
 match j with
 | 0=>K i
 | _=>K (i+j)
theorem zgj {i j:Nat} {K:Nat->Prop} (h:znw i j K):K (i+j):=by
 unfold znw at h
 split at h
 ·rw [Nat.add_zero];exact h
 ·exact h
def svK (s:SV) (K:Value->Prop):Prop :=
 match s with
 | .v x=>K x
 | .ptr _ b off=>K (.pointer (some ⟨b,off,none⟩))
 | .el a k=>K (.pointer (a.map (·.add k)))
 | .sl _ a n c=>K (.slice a n c)
 | .ek _ a k=>K (.pointer (a.map (·.add k)))
 | .mp _ b=>K (.map (some b))
 | .vie _ a n c=>K (.slice a n c)
theorem zco {s:SV} {K:Value->Prop} (h:svK s K):K s.val:=by cases s<;>exact h
def zq0:List Value->(List Value->Prop)->Prop
 | [],K=>K []
 | v::l,K=>zq0 l fun l=>K (v::l)
theorem zjC:∀ {l:List Value} {K:List Value->Prop},zq0 l K->K l
 | [],_,h=>h
 | v::l,K,h=>zjC (l:=l) (K:=fun l=>K (v::l)) h
def zgk (s:SV) (K:List Value->Prop):Prop :=
 match s with
 | .v (.agg cs)=>zq0 cs.toList K
 | s=>svK s fun v=>K [v]
theorem zdF {s:SV} {K:List Value->Prop} (h:zgk s K):K (yw s):=by
 unfold zgk at h
 split at h
 ·exact zjC h
 ·rename_i h1
  have h2:=zco (K:=fun v=>K [v]) h
  have e:yw s=[s.val]:=by
   unfold yw
   split
   ·exact absurd rfl (h1 _)
   ·rfl
  rw [e];exact h2
def zeS:Nat->List Value->(List Value->Prop)->Prop
 | 0,_,K=>K []
 | _+1,[],K=>K []
 | n+1,v::l,K=>zeS n l fun l=>K (v::l)
theorem zeT:∀ {n:Nat} {l:List Value} {K:List Value->Prop},zeS n l K->K (l.take n)
 | 0,_,_,h=>by simpa [zeS] using h
 | _+1,[],_,h=>by simpa [zeS] using h
 | n + 1,v :: l,K,h => by
   have:=zeT (K:=fun l=>K (v::l)) h
   simpa using this
def vp:Nat->List Value->List Value->(List Value->Prop)->Prop
 | off+1,c::cs,vs,K=>vp off cs vs fun l=>K (c::l)
 | 0,cs,[],K=>K cs
 | 0,_::cs,v::vs,K=>vp 0 cs vs fun l=>K (v::l)
 | _,[],_,_=>False
theorem j6:∀ {off:Nat} {cs vs:List Value} {K:List Value->Prop},vp off cs vs K->K (zv cs off vs)
 | off + 1,c :: cs,vs,K,h => by
   have:=j6 (K:=fun l=>K (c::l)) h
   simp only [zv,List.take_succ_cons,List.cons_append] at this ⊢
   rw [show off+1+vs.length=(off+vs.length)+1 from by omega,List.drop_succ_cons]
   exact this
 | 0,cs,[],K,h => by
   cases cs<;>simpa [zv,vp] using h
 | 0,c :: cs,v :: vs,K,h => by
   have:=j6 (K:=fun l=>K (v::l)) h
   simp only [zv,List.take_zero,List.nil_append,List.length_cons,Nat.zero_add,List.drop_succ_cons,List.cons_append] at this ⊢
   exact this
 | 0,[],v::vs,K,h=>h.elim
 | off+1,[],vs,K,h=>h.elim
def zjD:List Value->List (Nat × List Value)->(List Value->Prop)->Prop
 | z,[],K=>K z
 | z,(off,vs)::ps,K=>vp off z vs fun z'=>zjD z' ps K
theorem zeU:∀ {ps:List (Nat × List Value)} {z:List Value} {K:List Value->Prop},zjD z ps K->K (vh z ps)
 | [],_,_,h=>h
 | (off,vs) :: ps,z,K,h => by
   have h1:=j6 (K:=fun z'=>zjD z' ps K) h
   exact zeU (ps:=ps) (z:=zv z off vs) h1
def znx (e:Env):List (Nat × Nat × X)->(List (Nat × List Value)->Prop)->Prop
 | [],K=>K []
 | (off,sz,x)::xs,K=>gA (ev e x) fun s=>zgk s fun vs=>vs.length=sz/\znx e xs fun l=>K ((off,vs)::l)
theorem zgl {e:Env}:∀ {ps:List (Nat × Nat × X)} {K:List (Nat × List Value)->Prop},znx e ps K->gPs e ps K
 | [],_,h=>h
 | (off,sz,x)::xs,K,h=>zO (fun s h=>by
  have:=zdF (K:=fun vs=>vs.length=sz/\znx e xs fun l=>K ((off,vs)::l)) h
  exact ⟨this.1,zgl this.2⟩) h
theorem zii {e:Env}:∀ {ps:List (Nat × Nat × X)} {K K':List (Nat × List Value)->Prop},(∀ l,K l->K' l)->gPs e ps K->gPs e ps K'
 | [],_,_,hk,h=>hk _ h
 | (off,sz,x)::xs,K,K',hk,h=>zO (fun s h=>⟨h.1,zii (fun l hl=>hk _ hl) h.2⟩) h
def gVs (e:Env):List X->(List Value->Prop)->Prop
 | [],K=>K []
 | x::xs,K=>gA (ev e x) fun s=>svK s fun v=>gVs e xs fun l=>K (v::l)
theorem zij {e:Env}:∀ {xs:List X} {K:List Value->Prop},gVs e xs K->gAs e xs fun l=>K (l.map SV.val)
 | [],_,h=>h
 | x::xs,K,h=>zO (fun s h=>zij (zco (K:=fun v=>gVs e xs fun l=>K (v::l)) h)) h
def jM (key:Nat) (cs':List Value):List Ent->(List Ent->Prop)->Prop
 | .box k b cs T :: L,K => match Nat.decEq k key with
   | .isTrue _=>K (.box k b cs' T::L)
   | .isFalse _=>jM key cs' L fun L'=>K (.box k b cs T::L')
 | .own k a n c T sz xs::L,K=>jM key cs' L fun L'=>K (.own k a n c T sz xs::L')
 | .abs k fp ok::L,K=>jM key cs' L fun L'=>K (.abs k fp ok::L')
 | .mapE k b kk m::L,K=>jM key cs' L fun L'=>K (.mapE k b kk m::L')
 | [],K=>K []
theorem uC {key:Nat} {cs':List Value}:∀ {L:List Ent} {K:List Ent->Prop},jM key cs' L K->K (uA key cs' L)
 | .box k b cs T :: L,K,h => by
   simp only [jM] at h
   simp only [uA]
   split at h
   ·rename_i hk _;rw [if_pos hk];exact h
   ·rename_i hk _;rw [if_neg hk];exact uC (K:=fun L'=>K (.box k b cs T::L')) h
 | .own k a n c T sz xs::L,K,h=>uC (K:=fun L'=>K (.own k a n c T sz xs::L')) h
 | .abs k fp ok::L,K,h=>uC (K:=fun L'=>K (.abs k fp ok::L')) h
 | .mapE k b kk m::L,K,h=>uC (K:=fun L'=>K (.mapE k b kk m::L')) h
 | [],_,h=>h
def x5 (key:Nat) (a':Option Addr) (n' c':Nat) (xs':List Value):List Ent->(List Ent->Prop)->Prop
 | .own k a n c T sz xs :: L,K => match Nat.decEq k key with
   | .isTrue _=>K (.own k a' n' c' T sz xs'::L)
   | .isFalse _=>x5 key a' n' c' xs' L fun L'=>K (.own k a n c T sz xs::L')
 | .box k b cs T::L,K=>x5 key a' n' c' xs' L fun L'=>K (.box k b cs T::L')
 | .abs k fp ok::L,K=>x5 key a' n' c' xs' L fun L'=>K (.abs k fp ok::L')
 | .mapE k b kk m::L,K=>x5 key a' n' c' xs' L fun L'=>K (.mapE k b kk m::L')
 | [],K=>K []
theorem qK {key:Nat} {a':Option Addr} {n' c':Nat} {xs':List Value}:∀ {L:List Ent} {K:List Ent->Prop},x5 key a' n' c' xs' L K->K (qG key a' n' c' xs' L)
 | .own k a n c T sz xs :: L,K,h => by
   simp only [x5] at h
   simp only [qG]
   split at h
   ·rename_i hk _;rw [if_pos hk];exact h
   ·rename_i hk _;rw [if_neg hk];exact qK (K:=fun L'=>K (.own k a n c T sz xs::L')) h
 | .box k b cs T::L,K,h=>qK (K:=fun L'=>K (.box k b cs T::L')) h
 | .abs k fp ok::L,K,h=>qK (K:=fun L'=>K (.abs k fp ok::L')) h
 | .mapE k b kk m::L,K,h=>qK (K:=fun L'=>K (.mapE k b kk m::L')) h
 | [],_,h=>h
def jN (key:Nat) (m':List (Value × Value)):List Ent->(List Ent->Prop)->Prop
 | .mapE k b kk m :: L,K => match Nat.decEq k key with
   | .isTrue _=>K (.mapE k b kk m'::L)
   | .isFalse _=>jN key m' L fun L'=>K (.mapE k b kk m::L')
 | .own k a n c T sz xs::L,K=>jN key m' L fun L'=>K (.own k a n c T sz xs::L')
 | .box k b cs T::L,K=>jN key m' L fun L'=>K (.box k b cs T::L')
 | .abs k fp ok::L,K=>jN key m' L fun L'=>K (.abs k fp ok::L')
 | [],K=>K []
theorem vq {key:Nat} {m':List (Value × Value)}:∀ {L:List Ent} {K:List Ent->Prop},jN key m' L K->K (v8 key m' L)
 | .mapE k b kk m :: L,K,h => by
   simp only [jN] at h
   simp only [v8]
   split at h
   ·rename_i hk _;rw [if_pos hk];exact h
   ·rename_i hk _;rw [if_neg hk];exact vq (K:=fun L'=>K (.mapE k b kk m::L')) h
 | .own k a n c T sz xs::L,K,h=>vq (K:=fun L'=>K (.own k a n c T sz xs::L')) h
 | .box k b cs T::L,K,h=>vq (K:=fun L'=>K (.box k b cs T::L')) h
 | .abs k fp ok::L,K,h=>vq (K:=fun L'=>K (.abs k fp ok::L')) h
 | [],_,h=>h
def zkG (s:SV) (K:Value->Prop):Prop :=
 match s with
 | .v (.agg cs)=>K (.agg cs)
 | .v (.int k n)=>K (.int k n)
 | s=>K s.val
theorem zdl {s:SV} {K:Value->Prop} (h:zkG s K):K s.val:=by
 unfold zkG at h
 split at h<;>exact h
def kg:List Value->List Value->List LK->Bool
 | .int k _::xs,.int k' _::ys,.int k''::ks=>decide (k=k'')&&decide (k'=k'')&&kg xs ys ks
 | .bool _::xs,.bool _::ys,.bool::ks=>kg xs ys ks
 | [],[],[]=>true
 | _,_,_=>false
theorem ua:∀ {xs ys:List Value} {ks:List LK},kg xs ys ks=true->zB xs ys ks
 | .int k _ :: xs,.int k' _ :: ys,.int k'' :: ks,h => by
   simp only [kg,Bool.and_eq_true,decide_eq_true_eq] at h
   exact ⟨h.1,ua h.2⟩
 | .bool _::xs,.bool _::ys,.bool::ks,h=>ua (xs:=xs) (ys:=ys) (ks:=ks) h
 | [],[],[],_=>trivial
 | [],_::_,_,h=>by simp [kg] at h
 | [],[],_::_,h=>by simp [kg] at h
 | x::xs,[],_,h=>by cases x<;>simp [kg] at h
 | x::xs,y::ys,[],h=>by cases x<;>cases y<;>simp [kg] at h
 | x :: xs,y :: ys,k :: ks,h => by
   cases x<;>cases y<;>cases k<;>first
    | (simp [kg] at h;done)
    | (simp only [kg,Bool.and_eq_true,decide_eq_true_eq] at h;exact ⟨h.1,ua h.2⟩)
    | exact ua (xs:=xs) (ys:=ys) (ks:=ks) h
def eqK:List Value->List Value->(Bool->Prop)->Prop
 | .int _ a::xs,.int _ b::ys,K=>j5 (decide (a=b)) (eqK xs ys K) (K false)
 | .bool a::xs,.bool b::ys,K=>j5 (decide (a=b)) (eqK xs ys K) (K false)
 | [],[],K=>K true
 | _,_,K=>K false
theorem zcp:∀ {xs ys:List Value} {ks:List LK} {K:Bool->Prop},zB xs ys ks->eqK xs ys K->K (zK xs ys)
 | .int _ a :: xs,.int _ b :: ys,.int _ :: ks,K,ho,h => by
   simp only [zK]
   rcases xM h with ⟨h1,h2⟩
   by_cases hab:a=b
   ·simp only [hab,decide_true,Bool.true_and]
    exact zcp ho.2 (h1 (by simp [hab]))
   ·simp only [hab,decide_false,Bool.false_and]
    exact h2 (by simp [hab])
 | .bool a :: xs,.bool b :: ys,.bool :: ks,K,ho,h => by
   simp only [zK]
   rcases xM h with ⟨h1,h2⟩
   by_cases hab:a=b
   ·simp only [hab,decide_true,Bool.true_and]
    exact zcp (xs:=xs) (ys:=ys) (ks:=ks) ho (h1 (by simp [hab]))
   ·simp only [hab,decide_false,Bool.false_and]
    exact h2 (by simp [hab])
 | [],[],[],K,_,h=>h
 | [],_::_,_,_,ho,_=>by simp [zB] at ho
 | [],[],_::_,_,ho,_=>by simp [zB] at ho
 | x::xs,[],_,_,ho,_=>by cases x<;>simp [zB] at ho
 | x::xs,y::ys,[],_,ho,_=>by cases x<;>cases y<;>simp [zB] at ho
 | x :: xs,y :: ys,k :: ks,K,ho,h => by
   cases x<;>cases y<;>cases k<;>first
    | (simp [zB] at ho;done)
    | (simp only [zK]
       rcases xM h with ⟨h1,h2⟩
       rename_i a b
       by_cases hab:a=b
       ·simp only [hab,decide_true,Bool.true_and]
        exact zcp (xs:=xs) (ys:=ys) (ks:=ks) (by first|exact ho.2|exact ho) (h1 (by simp [hab]))
       ·simp only [hab,decide_false,Bool.false_and]
        exact h2 (by simp [hab]))
    | (simp only [zK]
       rcases xM h with ⟨h1,h2⟩
       rename_i a _ b _
       by_cases hab:a=b
       ·simp only [hab,decide_true,Bool.true_and]
        exact zcp (xs:=xs) (ys:=ys) (ks:=ks) (by first|exact ho.2|exact ho) (h1 (by simp [hab]))
       ·simp only [hab,decide_false,Bool.false_and]
        exact h2 (by simp [hab]))
def zeh (w0:World) (fp0:List Nat) (L:List Ent) (sz:Nat) (s:SV) (K:Nat->List Value->Prop):Prop :=
 match s with
 | .sl key a n c => match zL key L with
   | some ⟨oa,on,oc,_,osz,oxs⟩=>(oa=a/\on=n/\oc=c/\osz=sz)/\K n oxs
   | none=>False
 | .v (.slice a n _)=>∃ xs,RdS w0 fp0 L a (n*sz) xs/\K n xs
 | _=>False
theorem zcq {w0:World} {fp0:List Nat} {L:List Ent} {sz:Nat} {s:SV} {K K':Nat->List Value->Prop} (hk:∀ m ys,K m ys->K' m ys) (h:zeh w0 fp0 L sz s K):jd w0 fp0 L sz s K':=by
 unfold zeh at h
 unfold jd
 split at h
 ·split at h
  ·rename_i ho
   simp only [ho]
   exact ⟨h.1,hk _ _ h.2⟩
  ·exact h.elim
 ·obtain ⟨xs,h1,h2⟩:=h
  exact ⟨xs,h1,hk _ _ h2⟩
 ·exact h.elim
section
variable (P:Program) (w0:World) (fp0:List Nat)
def WI (i:I) (e:Env) (L:List Ent) (k:SV->List Ent->Prop):Prop :=
 match i with
 | .mv x=>gA (ev e x) fun s=>k s L
 | .pick c a b=>uv (ev e c) fun t=>gA (ev e a) fun s=>gA (ev e b) fun u=>j5 t (k s L) (k u L)
 | .ar o kd x y=>qT kd (ev e x) fun p=>qT kd (ev e y) fun q=>arK o p q fun n=>jW kd n fun r=>k (.v (.int kd r)) L
 | .arf o kd x y=>qT kd (ev e x) fun p=>qT kd (ev e y) fun q=>arK o p q fun n=>zdf kd n fun r=>k (.v (.int kd r)) L
 | .dv rem kd x y=>qT kd (ev e x) fun p=>qT kd (ev e y) fun q=>zt3 kd fun hi=>(0<=p/\p<=hi/\0<q)/\zwd rem p q fun r=>k (.v (.int kd r)) L
 | .cmp o kd x y=>qT kd (ev e x) fun p=>qT kd (ev e y) fun q=>zt1 o p q fun b=>k (.v (.bool b)) L
 | .bit o kd x y=>qT kd (ev e x) fun p=>qT kd (ev e y) fun q=>zt3 kd fun hi=>(0<=p/\p<=hi/\0<=q/\q<=hi)/\zt2 o p q fun r=>k (.v (.int kd r)) L
 | .eqb ng x y=>uv (ev e x) fun p=>uv (ev e y) fun q=>ngK ng (p == q) fun b=>k (.v (.bool b)) L
 | .eqn nk ng x=>gA (ev e x) fun s=>zcf nk s fun b=>ngK ng b fun b=>k (.v (.bool b)) L
 | .eqa ng ks x y => gA (ev e x) fun s => gA (ev e y) fun u => match s,u with
   | .v (.agg p),.v (.agg q) => match kg p.toList q.toList ks with
     | true=>eqK p.toList q.toList fun b=>ngK ng b fun b=>k (.v (.bool b)) L
     | false=>False
   | _,_=>False
 | .sh left kd x y => qT kd (ev e x) fun p => va (ev e y) fun q => (0 <= q /\ q <= biK kd) /\ match left with
   | true=>jW kd (p*((2 ^ q.toNat:Nat):Int)) fun r=>k (.v (.int kd r)) L
   | false=>k (.v (.int kd (p/((2 ^ q.toNat:Nat):Int)))) L
 | .mm mx kd x y => qT kd (ev e x) fun p => qT kd (ev e y) fun q => match mx with
   | true=>k (.v (.int kd (max p q))) L
   | false=>k (.v (.int kd (min p q))) L
 | .ld lk x => gA (ev e x) fun s => match s with
   | .ptr key b off => match yh key L with
     | some (b',cs,_)=>b'=b/\gV (nth cs off) fun v=>k (.v v) L
     | none=>vK lk fun v=>Rd w0 fp0 L s [v]/\k (.v v) L
   | .ek key a i => match zL key L with
     | some ⟨oa,_,_,_,_,oxs⟩=>oa=a/\isK lk oxs i/\zjz lk (atL oxs i) fun v=>k (.v v) L
     | none=>False
   | s=>vK lk fun v=>Rd w0 fp0 L s [v]/\k (.v v) L
 | .lda n ks x => gA (ev e x) fun s => match s with
   | .ptr key b off => match yh key L with
     | some (b',cs,_)=>(b'=b/\off+n<=cs.length)/\zeS n (cs.drop off) fun vs=>k (.v (.agg vs.toArray)) L
     | none=>∃ vs:List Value,vs.length=n/\Rd w0 fp0 L s vs/\k (.v (.agg vs.toArray)) L
   | .ek key a i => match zL key L with
     | some ⟨oa,_,_,_,_,oxs⟩=>oa=a/\ks.length=n/\zhb ks oxs i/\zeR ks oxs i fun vs=>k (.v (.agg vs.toArray)) L
     | none=>False
   | s=>∃ vs:List Value,vs.length=n/\Rd w0 fp0 L s vs/\k (.v (.agg vs.toArray)) L
 | .fa off x => gA (ev e x) fun s => match s with
   | .ptr key b o=>znw o off fun o=>k (.ptr key b o) L
   | .el a o=>a≠none/\znw o off fun o=>k (.el a o) L
   | .ek key a o=>okA key a L/\znw o off fun o=>k (.ek key a o) L
   | .v (.pointer (some ad))=>k (.v (.pointer (some (ad.add off)))) L
   | _=>False
 | .ia sz x y => gA (ev e x) fun s => va (ev e y) fun i => match s with
   | .v (.slice a n _)=>(0<=i/\i<n)/\a≠none/\znv i.toNat sz fun j=>k (.el a j) L
   | .sl key a n _=>(0<=i/\i<n)/\okA key a L/\znv i.toNat sz fun j=>k (.ek key a j) L
   | _=>False
 | .iaa sz len x y => gA (ev e x) fun s => va (ev e y) fun i => match s with
   | .v (.pointer (some ad))=>(0<=i/\i<len)/\znv i.toNat sz fun j=>k (.v (.pointer (some (ad.add j)))) L
   | .ptr key b o=>(0<=i/\i<len)/\k (.ptr key b (o+i.toNat*sz)) L
   | _=>False
 | .app key T sz bytes x y => gA (ev e x) fun s => gA (ev e y) fun u => zeh w0 fp0 L sz u fun m ys => yL ys /\ match s with
   | .sl key' a n c => match zL key' L with
     | some ⟨oa,on,oc,oT,osz,oxs⟩=>(oa=a/\on=n/\oc=c/\oT=T/\osz=sz)/\(n+m<=maxLen/\(n+m)*bytes<=140737488355328)/\∀ a' c',x5 key' a' (n+m) c' (oxs++ys) L fun L'=>k (.sl key' a' (n+m) c') L'
     | none=>False
   | .v (.slice none 0 0)=>(m<=maxLen/\m*bytes<=140737488355328)/\∀ a' c',k (.sl key a' m c') (.own key a' m c' T sz ys::L)
   | .vie key' a n c => match zL key' L with
     | some ⟨oa,on,oc,oT,osz,oxs⟩=>(oa=a/\oc=c/\oT=T/\osz=sz/\n+m<=on/\0<on)/\x5 key' a on c (zv oxs (n*sz) ys) L fun L'=>k (.vie key' a (n+m) c) L'
     | none=>False
   | _=>False
 | .cpy x y => gA (ev e x) fun s => gA (ev e y) fun u => zeh w0 fp0 L 1 u fun m ys => yL ys /\ match s with
   | .sl key' a n c => match zL key' L with
     | some ⟨oa,on,oc,oT,osz,oxs⟩=>(oa=a/\on=n/\oc=c/\osz=1/\m<=n/\0<m)/\x5 key' a n c (zv oxs 0 ys) L fun L'=>k (.v (.int .i64 (m:Int))) L'
     | none=>False
   | _=>False
 | .lku kk ok z x y => gA (ev e x) fun s => gA (ev e y) fun u => zkG u fun u => match s with
   | .mp key b => match kF key L with
     | some (b',kk',m)=>(b'=b/\kk'=kk/\zS kk u)/\keysK w0 fp0 L kk m u (Stop ((∀ v,qI m u=some v->k (.v (lkV ok v true)) L)/\(qI m u=none->k (.v (lkV ok z false)) L)))
     | none=>False
   | .v (.map none)=>zS kk u/\k (.v (lkV ok z false)) L
   | _=>False
 | .mup kk x y z => gA (ev e x) fun s => gA (ev e y) fun u => gA (ev e z) fun t => zkG u fun u => svK t fun t => match s with
   | .mp key b => match kF key L with
     | some (b',kk',m)=>(b'=b/\kk'=kk/\zS kk u)/\keysK w0 fp0 L kk m u (jN key (yd m u t) L fun L'=>k (.v undef) L')
     | none=>False
   | _=>False
 | .lks ok z x y => gA (ev e x) fun s => gA (ev e y) fun u => zkG u fun u => match s with
   | .mp key b => match kF key L with
     | some (b',kk',m)=>(b'=b/\kk'=.ptr/\zS .ptr u)/\zjn w0 fp0 L m u/\Stop ((∀ p∈m,k (.v (lkV ok p.2 true)) L)/\k (.v (lkV ok z false)) L)
     | none=>False
   | _=>False
 | .mus x y z => gA (ev e x) fun s => gA (ev e y) fun u => gA (ev e z) fun t => zkG u fun u => svK t fun t => match s with
   | .mp key b => match kF key L with
     | some (b',kk',m)=>(b'=b/\kk'=.ptr/\zS .ptr u)/\zjn w0 fp0 L m u/\∀ m',zqV m u t m'->jN key m' L fun L'=>k (.v undef) L'
     | none=>False
   | _=>False
 | .tas T ok z x => gA (ev e x) fun s => match s with
   | .v (.iface T' v) => match Nat.decEq T' T with
     | .isTrue _=>k (.v (lkV ok v true)) L
     | .isFalse _=>ok=true/\k (.v (lkV ok z false)) L
   | .v .nilIface=>ok=true/\k (.v (lkV ok z false)) L
   | _=>False
 | .apz key T sz bytes z x y => gA (ev e x) fun s => va (ev e y) fun q => (0 <= q /\ yL z) /\ match s with
   | .sl key' a n c => match zL key' L with
     | some ⟨oa,on,oc,oT,osz,oxs⟩=>(oa=a/\on=n/\oc=c/\oT=T/\osz=sz)/\(n+q.toNat<=maxLen/\(n+q.toNat)*bytes<=140737488355328)/\∀ a' c',x5 key' a' (n+q.toNat) c' (oxs++(List.replicate q.toNat z).flatten) L fun L'=>k (.sl key' a' (n+q.toNat) c') L'
     | none=>False
   | .v (.slice none 0 0)=>(q.toNat<=maxLen/\q.toNat*bytes<=140737488355328)/\∀ a' c',k (.sl key a' q.toNat c') (.own key a' q.toNat c' T sz (List.replicate q.toNat z).flatten::L)
   | _=>False
 | .slo sz x hi => gA (ev e x) fun s => match s with
   | .sl key a n c => match zL key L with
     | some ⟨oa,on,oc,_,osz,oxs⟩=>zan e hi n fun h=>(oa=a/\oc=c/\osz=sz/\0<=h/\h<=on)/\x5 key a h.toNat c (oxs.take (h.toNat*sz)) L fun L'=>k (.sl key a h.toNat c) L'
     | none=>False
   | _=>False
 | .call f args=>gVs e args fun l=>zT P w0 fp0 f l L k
 | .bld z ps=>znx e ps fun l=>zjD z l fun cs=>k (.v (.agg cs.toArray)) L
 | .bsl key T sz n z ps=>znx e ps fun l=>zjD z l fun cs=>yL cs/\∀ b:Nat,k (.sl key (some ⟨b,0,none⟩) n n) (.own key (some ⟨b,0,none⟩) n n T sz cs::L)
 | .box key T x=>gA (ev e x) fun s=>zgk s fun cs=>∀ b:Nat,k (.ptr key b 0) (.box key b cs T::L)
 | .st n x y => gA (ev e x) fun s => gA (ev e y) fun u => zgk u fun vs => (vs.length = n /\ yL vs) /\ match s with
   | .ptr key b off => match yh key L with
     | some (b',cs,_)=>(b'=b/\off+n<=cs.length)/\vp off cs vs fun cs'=>jM key cs' L fun L'=>k (.v undef) L'
     | none=>∃ L',St w0 fp0 L s vs L'/\k (.v undef) L'
   | .ek key a i => match zL key L with
     | some ⟨oa,on,oc,_,_,oxs⟩=>(oa=a/\i+n<=oxs.length)/\x5 key oa on oc (zv oxs i vs) L fun L'=>k (.v undef) L'
     | none=>False
   | s=>∃ L',St w0 fp0 L s vs L'/\k (.v undef) L'
 | .fls off n x => gA (ev e x) fun s => match s with
   | .v (.agg cs)=>off+n<=cs.toList.length/\zeS n (cs.toList.drop off) fun vs=>k (.v (.agg vs.toArray)) L
   | _=>False
 | .apc T sz x y => gA (ev e x) fun s => gA (ev e y) fun u => zeh w0 fp0 L sz u fun m ys => yL ys /\ match s with
   | .sl key' a n c => match zL key' L with
     | some ⟨oa,on,oc,oT,osz,oxs⟩=>(oa=a/\on=n/\oc=c/\oT=T/\osz=sz/\0<m/\n+m<=c)/\x5 key' a (n+m) c (oxs++ys) L fun L'=>k (.sl key' a (n+m) c) L'
     | none=>False
   | _=>False
 | i=>VI P w0 fp0 i e L k
end
section
variable {P:Program} {w0:World} {fp0:List Nat} {e:Env} {L:List Ent} {k:SV->List Ent->Prop} {i:I}
theorem zjE (h:WI P w0 fp0 i e L k):VI P w0 fp0 i e L k:=by
 cases i with
 | mv x=>exact h
 | pick c x y=>exact zeK (fun t h=>zO (fun s h=>zO (fun u h=>xM h) h) h) h
 | ar o kd x y=>exact xg (fun p h=>xg (fun q h=>znu h) h) h
 | arf o kd x y=>exact xg (fun p h=>xg (fun q h=>znu h) h) h
 | dv rem kd x y =>
   refine xg (fun p h=>xg (fun q h=>?_) h) h
   have h:=zlK (K:=fun hi=>(0<=p/\p<=hi/\0<q)/\zwd rem p q fun r=>k (.v (.int kd r)) L) h
   refine ⟨h.1,?_⟩
   cases rem<;>exact h.2
 | cmp o kd x y=>exact xg (fun p h=>xg (fun q h=>zr1 (K:=fun b=>k (.v (.bool b)) L) h) h) h
 | bit o kd x y =>
   refine xg (fun p h=>xg (fun q h=>?_) h) h
   have h:=zlK (K:=fun hi=>(0<=p/\p<=hi/\0<=q/\q<=hi)/\zt2 o p q fun r=>k (.v (.int kd r)) L) h
   exact ⟨h.1,zr2 (K:=fun r=>k (.v (.int kd r)) L) h.2⟩
 | eqb ng x y=>exact zeK (fun p h=>zeK (fun q h=>zih (K:=fun b=>k (.v (.bool b)) L) h) h) h
 | eqn nk ng x =>
   refine zO (fun s h=>?_) h
   unfold zcf at h ⊢
   split at h<;>first|exact h.elim|exact zih (K:=fun b=>k (.v (.bool b)) L) h
 | eqa ng ks x y =>
   refine zO (fun s h=>zO (fun u h=>?_) h) h
   split at h
   ·split at h
    ·rename_i hb
     have ho:=ua hb
     exact ⟨ho,zih (K:=fun b=>k (.v (.bool b)) L) (zcp (K:=fun b=>ngK ng b fun b=>k (.v (.bool b)) L) ho h)⟩
    ·exact h.elim
   ·exact h.elim
 | sh left kd x y=>exact h
 | mm mx kd x y =>
   refine xg (fun p h=>xg (fun q h=>?_) h) h
   cases mx
   ·have e1:min p q=if q<p then q else p:=by split<;>omega
    simp only at h ⊢
    rw [←e1];exact h
   ·have e1:max p q=if q>p then q else p:=by split<;>omega
    simp only at h ⊢
    rw [←e1];exact h
 | ld lk x =>
   refine zO (fun s h=>?_) h
   split at h
   ·exact h
   ·split at h
    ·rename_i ho
     simp only [ho]
     exact ⟨h.1,zr0 _ ⟨h.2.1,zjA (K:=fun v=>k (.v v) L) h.2.2⟩⟩
    ·exact h.elim
   ·rename_i h1 h2
    split
    ·exact absurd rfl (h1 _ _ _)
    ·exact absurd rfl (h2 _ _ _)
    ·exact h
 | lda n ks x =>
   refine zO (fun s h=>?_) h
   split at h
   ·split at h
    ·rename_i hb
     simp only [hb]
     exact ⟨h.1,zeT (K:=fun vs=>k (.v (.agg vs.toArray)) L) h.2⟩
    ·rename_i hb
     simp only [hb]
     exact h
   ·split at h
    ·rename_i ho
     simp only [ho]
     obtain ⟨h1,rfl,h3,h4⟩:=h
     exact ⟨h1,_,zhP _ _ _,znt _ _ _ h3,zjB (K:=fun vs=>k (.v (.agg vs.toArray)) L) h4⟩
    ·exact h.elim
   ·rename_i h1 h2
    split
    ·exact absurd rfl (h1 _ _ _)
    ·exact absurd rfl (h2 _ _ _)
    ·exact h
 | fa off x =>
   refine zO (fun s h=>?_) h
   split at h
   ·exact zgj (K:=fun o=>k (.ptr _ _ o) L) h
   ·exact ⟨h.1,zgj (K:=fun o=>k (.el _ o) L) h.2⟩
   ·exact ⟨h.1,zgj (K:=fun o=>k (.ek _ _ o) L) h.2⟩
   ·exact h
   ·exact h.elim
 | ia sz x y =>
   refine zO (fun s h=>zde (fun q h=>?_) h) h
   split at h
   ·exact ⟨h.1,h.2.1,zgi (K:=fun j=>k (.el _ j) L) h.2.2⟩
   ·exact ⟨h.1,h.2.1,zgi (K:=fun j=>k (.ek _ _ j) L) h.2.2⟩
   ·exact h.elim
 | iaa sz len x y =>
   refine zO (fun s h=>zde (fun q h=>?_) h) h
   split at h
   ·exact ⟨h.1,zgi (K:=fun j=>k (.v (.pointer (some (Addr.add _ j)))) L) h.2⟩
   ·exact h
   ·exact h.elim
 | app key T sz bytes x y =>
   refine zO (fun s h=>zO (fun u h=>zcq (fun m ys h=>⟨h.1,?_⟩) h) h) h
   have h:=h.2
   split at h
   ·split at h
    ·rename_i ho
     simp only [ho]
     exact ⟨h.1,h.2.1,fun a' c'=>qK (K:=fun L'=>k (.sl _ a' _ c') L') (h.2.2 a' c')⟩
    ·exact h.elim
   ·exact h
   ·split at h
    ·rename_i ho
     simp only [ho]
     exact ⟨h.1,qK (K:=fun L'=>k (.vie _ _ _ _) L') h.2⟩
    ·exact h.elim
   ·exact h.elim
 | cpy x y =>
   refine zO (fun s h=>zO (fun u h=>zcq (fun m ys h=>⟨h.1,?_⟩) h) h) h
   have h:=h.2
   split at h
   ·split at h
    ·rename_i ho
     simp only [ho]
     exact ⟨h.1,qK (K:=fun L'=>k (.v (.int .i64 _)) L') h.2⟩
    ·exact h.elim
   ·exact h.elim
 | lku kk ok z x y =>
   refine zO (fun s h=>zO (fun u h=>?_) h) h
   have h:=zdl h
   split at h
   ·split at h
    ·rename_i hm
     simp only [hm]
     exact ⟨h.1,zby (fun h=>h.h) h.2⟩
    ·exact h.elim
   ·exact h
   ·exact h.elim
 | mup kk x y z =>
   refine zO (fun s h=>zO (fun u h=>zO (fun t h=>?_) h) h) h
   have h:=zco (zdl h)
   split at h
   ·split at h
    ·rename_i hm
     simp only [hm]
     exact ⟨h.1,zby (fun h=>vq (K:=fun L'=>k (.v undef) L') h) h.2⟩
    ·exact h.elim
   ·exact h.elim
 | lks ok z x y =>
   refine zO (fun s h=>zO (fun u h=>?_) h) h
   have h:=zdl h
   split at h
   ·split at h
    ·rename_i hm
     simp only [hm]
     exact ⟨h.1,h.2.1,h.2.2.h⟩
    ·exact h.elim
   ·exact h.elim
 | mus x y z =>
   refine zO (fun s h=>zO (fun u h=>zO (fun t h=>?_) h) h) h
   have h:=zco (zdl h)
   split at h
   ·split at h
    ·rename_i hm
     simp only [hm]
     exact ⟨h.1,h.2.1,fun m' hm'=>vq (K:=fun L'=>k (.v undef) L') (h.2.2 m' hm')⟩
    ·exact h.elim
   ·exact h.elim
 | tas T ok z x =>
   refine zO (fun s h=>?_) h
   split at h
   ·split at h
    ·rename_i hT _
     exact ⟨fun _=>h,fun hn=>absurd hT hn⟩
    ·rename_i hT _
     exact ⟨fun hn=>absurd hn hT,fun _=>h⟩
   ·exact h
   ·exact h.elim
 | apz key T sz bytes z x y =>
   refine zO (fun s h=>zde (fun q h=>⟨h.1,?_⟩) h) h
   have h:=h.2
   split at h
   ·split at h
    ·rename_i ho
     simp only [ho]
     exact ⟨h.1,h.2.1,fun a' c'=>qK (K:=fun L'=>k (.sl _ a' _ c') L') (h.2.2 a' c')⟩
    ·exact h.elim
   ·exact h
   ·exact h.elim
 | fls off n x =>
   refine zO (fun s h=>?_) h
   split at h
   ·exact ⟨h.1,zeT (K:=fun vs=>k (.v (.agg vs.toArray)) L) h.2⟩
   ·exact h.elim
 | apc T sz x y =>
   refine zO (fun s h=>zO (fun u h=>zcq (fun m ys h=>⟨h.1,?_⟩) h) h) h
   have h:=h.2
   split at h
   ·split at h
    ·rename_i ho
     simp only [ho]
     exact ⟨h.1,qK (K:=fun L'=>k (.sl _ _ _ _) L') h.2⟩
    ·exact h.elim
   ·exact h.elim
 | slo sz x hi =>
   refine zO (fun s h=>?_) h
   split at h
   ·split at h
    ·rename_i ho
     simp only [ho]
     revert h
     cases hi with
     | none=>intro h;exact ⟨h.1,qK (K:=fun L'=>k (.sl _ _ _ _) L') h.2⟩
     | some y=>intro h;exact zde (fun q h=>⟨h.1,qK (K:=fun L'=>k (.sl _ _ _ _) L') h.2⟩) h
    ·exact h.elim
   ·exact h.elim
 | call f args=>exact zij (K:=fun l=>zT P w0 fp0 f l L k) h
 | bld z ps=>exact zii (fun l h=>zeU (K:=fun cs=>k (.v (.agg cs.toArray)) L) h) (zgl h)
 | bsl key T sz n z ps=>exact zii (fun l h=>zeU (K:=fun cs=>yL cs/\∀ b:Nat,k (.sl key (some ⟨b,0,none⟩) n n) (.own key (some ⟨b,0,none⟩) n n T sz cs::L)) h) (zgl h)
 | box key T x=>exact zO (fun s h=>zdF (K:=fun cs=>∀ b:Nat,k (.ptr key b 0) (.box key b cs T::L)) h) h
 | st n x y =>
   refine zO (fun s h=>zO (fun u h=>?_) h) h
   have h:=zdF h
   refine ⟨h.1,?_⟩
   have h:=h.2
   split at h
   ·split at h
    ·rename_i hb
     simp only [hb]
     exact ⟨h.1,uC (K:=fun L'=>k (.v undef) L') (j6 (K:=fun cs'=>jM _ cs' L fun L'=>k (.v undef) L') h.2)⟩
    ·rename_i hb
     simp only [hb]
     exact h
   ·split at h
    ·rename_i ho
     simp only [ho]
     exact ⟨h.1,qK (K:=fun L'=>k (.v undef) L') h.2⟩
    ·exact h.elim
   ·rename_i h1 h2
    split
    ·exact absurd rfl (h1 _ _ _)
    ·exact absurd rfl (h2 _ _ _)
    ·exact h
 | _=>exact h
end
structure Gop where
 d:Option Nat
 g:Option (Nat × Bool)
 i:I
def zeV (d:Option Nat) (s:SV) (e:Env):Env :=
 match d with
 | some d=>(d,s)::e
 | none=>e
inductive Tr where
 | done
 | take (i:Nat) (t:Tr)
 | alt (i:Nat) (lt:Bool) (t r:Tr)
 | bar (i:Nat) (t:Tr)
 | mov (i:Nat) (t:Tr)
 | can (t:Tr)
 | nil
inductive C where
 | skip
 | reg (l:List Gop)
 | drw (l:List Gop) (t:Tr)
 | drb (l:List Gop) (t:Tr)
 | seq (a b:C)
 | cut (a b:C)
 | cond (x:X) (a b:C)
 | blk (id:Nat) (c:C)
 | loop (c:C)
 | exit (id:Nat)
 | ret
abbrev Gop.o (d:Nat) (i:I):Gop:=⟨some d,none,i⟩
abbrev Gop.v (d n:Nat):Gop:=⟨some d,none,.mv (.t n)⟩
abbrev Gop.u (i:I):Gop:=⟨none,none,i⟩
abbrev Gop.w (d g:Nat) (b:Bool) (i:I):Gop:=⟨some d,some (g,b),i⟩
abbrev X.k (n:Int):X:=.c (.int .i64 n)
abbrev C.s (l:List Gop) (c:C):C:=.seq (.reg l) c
instance (n:Nat):OfNat X n:=⟨.t n⟩
section
variable (P:Program) (w0:World) (fp0:List Nat)
def zu1 (b want:Bool) (A B:Prop):Prop :=
 match want with
 | true=>j5 b A B
 | false=>j5 b B A
def za6 (e:Env) (g:Nat) (want:Bool) (A B skip:Prop):Prop :=
 match vn e g with
 | some (.v (.bool b))=>zu1 b want A B
 | some (.v (.tuple _))=>skip
 | _=>False
def zny (L:List Ent):SV->Prop
 | .sl key a n c => match zL key L with
   | some o=>o.a=a/\o.n=n/\o.c=c
   | none=>False
 | .mp key b => match kF key L with
   | some (b',_,_)=>b'=b
   | none=>False
 | .ptr key b _ => match yh key L with
   | some (b',_,_)=>b'=b
   | none=>True
 | _=>True
def zhc (s:SV) (L:List Ent) (K:SV->Prop):Prop:=∃ s':SV,(s'.val=s.val/\zny L s')/\K s'
theorem zh {L:List Ent} {s:SV} {K:SV->Prop} (h:K s) (t:zny L s:=by exact trivial):∃ s':SV,(s'.val=s.val/\zny L s')/\K s':=⟨s,⟨rfl,t⟩,h⟩
def zeW (i:I) (s:SV) (L:List Ent) (K:SV->Prop):Prop :=
 match i with
 | .ld .ptr _=>zhc s L K
 | .ld .slc _=>zhc s L K
 | .ld .map _=>zhc s L K
 | .fld _ .ptr _=>zhc s L K
 | .fld _ .slc _=>zhc s L K
 | .fld _ .map _=>zhc s L K
 | _=>K s
theorem zq1 {i:I} {s:SV} {L:List Ent} {K:SV->Prop} (h:zeW i s L K):∃ s',s'.val=s.val/\K s':=by
 unfold zeW at h
 split at h<;>first|exact ⟨s,rfl,h⟩|(obtain ⟨s',h1,h2⟩:=h;exact ⟨s',h1.1,h2⟩)
def zjF (d:Option Nat) (i:I) (s:SV) (L:List Ent) (K:SV->Prop):Prop :=
 match d with
 | some _=>zeW i s L K
 | none=>K s
theorem uR {d:Option Nat} {i:I} {s:SV} {L:List Ent} {K:SV->Prop} (h:zjF d i s L K):∃ s',s'.val=s.val/\K s':=by
 cases d with
 | none=>exact ⟨s,rfl,h⟩
 | some _=>exact zq1 h
def VO (io:Gop) (e:Env) (L:List Ent) (K:Env->List Ent->Prop):Prop :=
 match io with
 | ⟨some d,none,i⟩=>WI P w0 fp0 i e L fun s L'=>zeW i s L' fun s=>K ((d,s)::e) L'
 | ⟨none,none,i⟩=>WI P w0 fp0 i e L fun _ L'=>K e L'
 | ⟨some d,some (g,want),i⟩=>za6 e g want (WI P w0 fp0 i ((g,.v (.bool want))::e) L fun s L'=>zeW i s L' fun s=>K ((d,s)::(g,.v (.bool want))::e) L')
  (K ((d,.v undef)::(g,.v (.bool (!want)))::e) L) (K ((d,.v undef)::e) L)
 | ⟨none,some (g,want),i⟩=>za6 e g want (WI P w0 fp0 i ((g,.v (.bool want))::e) L fun _ L'=>K ((g,.v (.bool want))::e) L')
  (K ((g,.v (.bool (!want)))::e) L) (K e L)
def VL:List Gop->Env->List Ent->(Env->List Ent->Prop)->Prop
 | [],e,L,K=>K e L
 | io::l,e,L,K=>VO P w0 fp0 io e L fun e' L'=>VL l e' L' K
def yE (f:Nat) (args:List Value) (L:List Ent) (K:SV->Prop):Prop :=
 ∃ s,(∀ w,R w0 fp0 L w->Calls P f args.toArray w fun x w'=>x=.returned s.val/\Ext w w')/\K s
def VQ (i:I) (e:Env) (L:List Ent) (K:SV->Prop):Prop :=
 match i with
 | .call f args=>gVs e args fun l=>yE P w0 fp0 f l L K
 | i => match isQ i with
   | true=>WI P w0 fp0 i e L fun s _=>K s
   | false=>False
def VS (io:Gop) (e:Env) (L:List Ent) (K:Env->Prop):Prop :=
 match io with
 | ⟨some d,none,i⟩=>VQ P w0 fp0 i e L fun s=>zeW i s L fun s=>K ((d,s)::e)
 | ⟨none,none,i⟩=>VQ P w0 fp0 i e L fun _=>K e
 | ⟨some d,some (g,want),i⟩=>za6 e g want (VQ P w0 fp0 i ((g,.v (.bool want))::e) L fun s=>zeW i s L fun s=>K ((d,s)::(g,.v (.bool want))::e))
  (K ((d,.v undef)::(g,.v (.bool (!want)))::e)) (K ((d,.v undef)::e))
 | ⟨none,some (g,want),i⟩=>za6 e g want (VQ P w0 fp0 i ((g,.v (.bool want))::e) L fun _=>K ((g,.v (.bool want))::e))
  (K ((g,.v (.bool (!want)))::e)) (K e)
def Ref (L' L:List Ent):Prop:=∀ w,R w0 fp0 L' w->R w0 fp0 L w
def zbA (l:List Gop) (i:Nat) (K:Gop->Prop):Prop :=
 match l,i with
 | io::_,0=>K io
 | _::l,n+1=>zbA l n K
 | [],_=>False
def xk:Env->Env->Prop
 | [],_=>True
 | (t,s)::e',e=>gA (vn e t) (fun s'=>s'.val=s.val)/\xk e' e
def VT (l:List Gop) (K:Env->List Ent->Prop):Tr->List Ent->Env->List Ent->Prop
 | .done,_,e,L=>K e L
 | .take i t,Lb,e,L=>zbA l i fun io=>VS P w0 fp0 io e Lb fun e'=>VT l K t Lb e' L
 | .alt i false t .nil,Lb,e,L=>zbA l i fun io=>VO P w0 fp0 io e L fun e' L'=>VT l K t Lb e' L'
 | .alt i true t .nil,Lb,e,L=>zbA l i fun io=>VO P w0 fp0 io e L fun e' L'=>Ref w0 fp0 L' Lb/\VT l K t Lb e' L'
 | .alt i lt t r,Lb,e,L=>Stop ((zbA l i fun io=>VO P w0 fp0 io e L fun e' L'=>(lt=true->Ref w0 fp0 L' Lb)/\VT l K t Lb e' L')/\VT l K r Lb e L)
 | .mov i t,Lb,e,L=>zbA l i fun io=>VS P w0 fp0 io e Lb fun e'=>VT l K t Lb e' L
 | .can t,Lb,e,L=>Stop (∃ e' L',xk e' e/\Ref w0 fp0 L L'/\VT l K t Lb e' L')
 | .bar i t,_,e,L=>zbA l i fun io=>VO P w0 fp0 io e L fun e' L'=>VT l K t L' e' L'
 | .nil,_,_,_=>True
def zxW (f:Env->List Ent->Prop) (K:Exit->Env->List Ent->Prop):Exit->Env->List Ent->Prop
 | .normal,e,L=>f e L
 | x,e,L=>K x e L
def zwe (id:Nat) (K:Exit->Env->List Ent->Prop):Exit->Env->List Ent->Prop
 | .exit id',e,L=>if id'=id then K .normal e L else K (.exit id') e L
 | x,e,L=>K x e L
def zq2 {α:Type} (E:α->Env) (H:α->List Ent) (I:α->Prop) (μ:α->Nat) (m:Nat) (K:Exit->Env->List Ent->Prop):Exit->Env->List Ent->Prop
 | .normal,e,L=>Stop (∃ x,(I x/\μ x<m)/\xk (E x) e/\Ref w0 fp0 L (H x))
 | x,e,L=>K x e L
def zt4 {α:Type} (E:α->Env) (H:α->List Ent) (I:α->Prop) (K:Exit->Env->List Ent->Prop):Exit->Env->List Ent->Prop
 | .normal,e,L=>Stop (∃ x,I x/\xk (E x) e/\Ref w0 fp0 L (H x))
 | x,e,L=>K x e L
def VC:C->(Exit->Env->List Ent->Prop)->Env->List Ent->Prop
 | .skip,K,e,L=>K .normal e L
 | .reg l,K,e,L=>VL P w0 fp0 l e L (K .normal)
 | .drw l t,K,e,L=>VT P w0 fp0 l (K .normal) t L e L
 | .drb l t,K,e,L=>Stop (∃ Lb,Ref w0 fp0 L Lb/\VT P w0 fp0 l (K .normal) t Lb e L)
 | .seq a b,K,e,L=>VC a (zxW (VC b K) K) e L
 | .cut a b,K,e,L=>Stop (∃ (α:Type) (E:α->Env) (H:α->List Ent) (I:α->Prop),VC a (zt4 w0 fp0 E H I K) e L/\∀ x,I x->VC b K (E x) (H x))
 | .cond x a b,K,e,L=>uv (ev e x) fun t=>j5 t (VC a K e L) (VC b K e L)
 | .blk id c,K,e,L=>VC c (zwe id K) e L
 | .loop c,K,e,L=>Stop (∃ (α:Type) (E:α->Env) (H:α->List Ent) (I:α->Prop) (μ:α->Nat),(∃ x,I x/\xk (E x) e/\Ref w0 fp0 L (H x))/\∀ x,I x->VC c (zq2 w0 fp0 E H I μ (μ x) K) (E x) (H x))
 | .exit id,K,e,L=>K (.exit id) e L
 | .ret,K,e,L=>K .ret e L
end
def wQ (w0:World) (fp0:List Nat) (n:Nat) (ds:List Deferred) (K:Exit->Env->List Ent->Prop):Exit->Act->World->Prop
 | .panic _,_,_=>False
 | .goto _,_,_=>False
 | .outgrown,_,_=>False
 | x,a,w=>∃ e L,Agree n ds e a/\R w0 fp0 L w/\K x e L
section
variable {P:Program} {w0:World} {fp0:List Nat} {n:Nat} {ds:List Deferred} {e:Env} {a:Act} {L:List Ent} {w:World} {o:Oper} {i:I} {fl:Bool}
def zq3 (n:Nat) (d:Option Nat):Prop:=∀ x,d=some x->x<n
theorem xi {d:Option Nat} {s:SV} {v:Value} (hA:Agree n ds e a) (hd:zq3 n d) (hv:s.val=v):Agree n ds (zeV d s e) (a.put d v):=by
 cases d with
 | none=>exact hA
 | some x=>exact hA.put (hd x rfl) hv
theorem zp4 {k:SV->List Ent->Prop} {K:Act->World->Prop} {Q:Exit->Act->World->Prop} (h:zkB P w0 fp0 o a w i k) (hK:∀ s L' w',R w0 fp0 L' w'->k s L'->K (a.put o.dst s.val) w'):o.wp P a w K Q:=by
 unfold Oper.wp
 rcases h with ⟨v,h1,s,L',rfl,hR,hk⟩|⟨_,v,w',h1,s,L',rfl,hR,hk⟩|⟨_,w',h1,s,L',hs,hR,hk⟩|⟨_,f,args,h1,h2⟩
 ·rw [h1];exact hK s L' _ hR hk
 ·rw [h1];exact hK s L' _ hR hk
 ·rw [h1];show K (a.put o.dst undef) w';rw [←hs];exact hK s L' _ hR hk
 ·rw [h1]
  refine h2.mono fun e w' ⟨v,he,s,L',hs,hR,hk⟩=>?_
  subst he
  show K (a.put o.dst v) w'
  rw [←hs]
  exact hK s L' _ hR hk
theorem jf {ops:Array Oper} {j:Nat} {g:Nat} {want b:Bool} (hA:Agree n ds e a) (hg:o.guard=some (j,want)) (hj:(ops[j]?).bind (·.dst)=some g) (hb:vn e g=some (.v (.bool b))):Region.wanted o (yielded ops a.tmps)=(b == want):=by
 have h1:a.tmps[g]?=some (.bool b):=hA.at_ g _ hb
 simp [Region.wanted,hg,yielded,hj,h1]
theorem zcr {ops:Array Oper} {j:Nat} {g:Nat} {want:Bool} {vs:Array Value} (hA:Agree n ds e a) (hg:o.guard=some (j,want)) (hj:(ops[j]?).bind (·.dst)=some g) (hb:vn e g=some (.v (.tuple vs))):Region.wanted o (yielded ops a.tmps)=false:=by
 have h1:a.tmps[g]?=some (.tuple vs):=hA.at_ g _ hb
 simp [Region.wanted,hg,yielded,hj,h1]
theorem uS {g:Nat} {s:SV} (hA:Agree n ds e a) (hb:vn e g=some s):Agree n ds ((g,s)::e) a :=
 hA.congr fun t=>by
  simp only [vn]
  split
  ·rename_i h;subst h;exact hb
  ·rfl
def zdm (P:Program) (n:Nat) (ops:Array Oper) (fl:List Nat) (o:Oper) (io:Gop):Prop :=
 (∃ f,cI P f o.dst o.op=some io.i)/\io.d=o.dst/\zq3 n o.dst /\
  match o.guard with
  | none=>io.g=none
  | some (j,want)=>∃ g,(ops[j]?).bind (·.dst)=some g/\io.g=some (g,want)
theorem zq4 {b want:Bool} {A B:Prop} (h:zu1 b want A B):(b=want->A)/\(b=!want->B):=by
 cases want
 ·exact ⟨(xM h).2,(xM h).1⟩
 ·exact xM h
theorem zdG {g:Nat} {want:Bool} {A B sk:Prop} (h:za6 e g want A B sk):(∃ b,vn e g=some (.v (.bool b))/\(b=want->A)/\(b=!want->B))∨(∃ vs,vn e g=some (.v (.tuple vs))/\sk):=by
 unfold za6 at h
 split at h
 ·rename_i hb;exact .inl ⟨_,hb,zq4 h⟩
 ·rename_i hb;exact .inr ⟨_,hb,h⟩
 ·exact h.elim
theorem zmW {io:Gop} {K:Env->List Ent->Prop} (h:VO P w0 fp0 io e L K) :
 (io.g=none/\WI P w0 fp0 io.i e L fun s L'=>zjF io.d io.i s L' fun s=>K (zeV io.d s e) L') ∨
 ∃ g want,io.g = some (g,want) /\ za6 e g want (WI P w0 fp0 io.i ((g,.v (.bool want)) :: e) L fun s L' => zjF io.d io.i s L' fun s => K (zeV io.d s ((g,.v (.bool want)) :: e)) L')
   (K (zeV io.d (.v undef) ((g,.v (.bool (!want)))::e)) L) (K (zeV io.d (.v undef) e) L):=by
 obtain ⟨d,g,i⟩:=io
 cases d<;>rcases g with _|⟨g,want⟩
 ·exact .inl ⟨rfl,h⟩
 ·exact .inr ⟨_,_,rfl,h⟩
 ·exact .inl ⟨rfl,h⟩
 ·exact .inr ⟨_,_,rfl,h⟩
theorem zu2 {io:Gop} {K:Env->Prop} (h:VS P w0 fp0 io e L K) :
 (io.g=none/\VQ P w0 fp0 io.i e L fun s=>zjF io.d io.i s L fun s=>K (zeV io.d s e)) ∨
 ∃ g want,io.g = some (g,want) /\ za6 e g want (VQ P w0 fp0 io.i ((g,.v (.bool want)) :: e) L fun s => zjF io.d io.i s L fun s => K (zeV io.d s ((g,.v (.bool want)) :: e)))
   (K (zeV io.d (.v undef) ((g,.v (.bool (!want)))::e))) (K (zeV io.d (.v undef) e)):=by
 obtain ⟨d,g,i⟩:=io
 cases d<;>rcases g with _|⟨g,want⟩
 ·exact .inl ⟨rfl,h⟩
 ·exact .inr ⟨_,_,rfl,h⟩
 ·exact .inl ⟨rfl,h⟩
 ·exact .inr ⟨_,_,rfl,h⟩
theorem zwf {l:List Gop} {Lb:List Ent} {K:Env->List Ent->Prop} {i:Nat} {lt:Bool} {t r:Tr} (h:VT P w0 fp0 l K (.alt i lt t r) Lb e L) :
 ∃ X:Env->List Ent->Prop,(zbA l i fun io=>VO P w0 fp0 io e L X)/\(∀ e' L',X e' L'->(lt=true->Ref w0 fp0 L' Lb)/\VT P w0 fp0 l K t Lb e' L')/\VT P w0 fp0 l K r Lb e L:=by
 cases r with
 | nil =>
   cases lt
   ·exact ⟨_,h,fun e' L' h=>⟨fun h=>(by cases h),h⟩,trivial⟩
   ·exact ⟨_,h,fun e' L' h=>⟨fun _=>h.1,h.2⟩,trivial⟩
 | done=>cases lt<;>exact ⟨_,h.h.1,fun e' L' h=>h,h.h.2⟩
 | take j t'=>cases lt<;>exact ⟨_,h.h.1,fun e' L' h=>h,h.h.2⟩
 | mov j t'=>cases lt<;>exact ⟨_,h.h.1,fun e' L' h=>h,h.h.2⟩
 | can t'=>cases lt<;>exact ⟨_,h.h.1,fun e' L' h=>h,h.h.2⟩
 | bar j t'=>cases lt<;>exact ⟨_,h.h.1,fun e' L' h=>h,h.h.2⟩
 | alt j lt' t' r'=>cases lt<;>exact ⟨_,h.h.1,fun e' L' h=>h,h.h.2⟩
theorem zkH {ops:Array Oper} {fl:List Nat} {io:Gop} {K:Env->List Ent->Prop} {K':Act->World->Prop} {Q:Exit->Act->World->Prop} (hc:zdm P n ops fl o io) (hA:Agree n ds e a) (hR:R w0 fp0 L w) (h:VO P w0 fp0 io e L K)
 (hK:∀ e' a' L' w',Agree n ds e' a'->R w0 fp0 L' w'->K e' L'->K' a' w'):if Region.wanted o (yielded ops a.tmps) then o.wp P a w K' Q else K' (a.put o.dst undef) w:=by
 obtain ⟨⟨f,hci⟩,hd,hok,hg⟩:=hc
 cases hgo:o.guard with
 | none =>
   rw [hgo] at hg
   simp only at hg
   have hw:Region.wanted o (yielded ops a.tmps)=true:=by simp [Region.wanted,hgo]
   rw [if_pos hw]
   rcases zmW h with ⟨_,h⟩|⟨g,want,hg',_⟩
   ·exact zp4 (zef hci hA hR (zjE h)) fun s L' w' hR' hk=>by
     obtain ⟨s',hs',hk⟩:=uR hk
     exact hK _ _ _ _ (xi hA hok hs') hR' (by rw [←hd];exact hk)
   ·rw [hg] at hg';cases hg'
 | some p =>
   obtain ⟨j,want⟩:=p
   rw [hgo] at hg
   obtain ⟨g,hj,hg⟩:=hg
   rcases zmW h with ⟨hg',_⟩|⟨g',want',hg',h⟩
   ·rw [hg] at hg';cases hg'
   rw [hg] at hg'
   simp only [g3q,Prod.mk.injEq] at hg'
   obtain ⟨rfl,rfl⟩:=hg'
   rcases zdG h with ⟨b,hb,h1,h2⟩|⟨vs,hb,h⟩
   ·rw [jf hA hgo hj hb]
    by_cases hbw:b=want
    ·rw [if_pos (by simp [hbw])]
     have hA':=uS hA (by rw [hbw] at hb;exact hb)
     exact zp4 (zef hci hA' hR (zjE (h1 hbw))) fun s L' w' hR' hk=>by
      obtain ⟨s',hs',hk⟩:=uR hk
      exact hK _ _ _ _ (xi hA' hok hs') hR' (by rw [←hd];exact hk)
    ·have hbn:b=!want:=by cases b<;>cases want<;>simp_all
     rw [if_neg (by simp [hbw])]
     have hA':=uS hA (by rw [hbn] at hb;exact hb)
     exact hK _ _ _ _ (xi hA' hok rfl) hR (by rw [←hd];exact h2 hbn)
   ·rw [zcr hA hgo hj hb,if_neg (by simp)]
    exact hK _ _ _ _ (xi hA hok rfl) hR (by rw [←hd];exact h)
inductive CompL (P:Program) (n:Nat) (ops:Array Oper) (fl:List Nat):List Oper->List Gop->Prop
 | nil:CompL P n ops fl [] []
 | cons {o io l l'}:zdm P n ops fl o io->CompL P n ops fl l l'->CompL P n ops fl (o::l) (io::l')
theorem zu3 {ops:Array Oper} {fl:List Nat} {K:Exit->Env->List Ent->Prop}:∀ {l:List Oper} {l':List Gop} {e:Env} {a:Act} {L:List Ent} {w:World},CompL P n ops fl l l'->Agree n ds e a->R w0 fp0 L w->VL P w0 fp0 l' e L (K .normal)->wpList P ops (wQ w0 fp0 n ds K) l a w
 | [],_,e,a,L,w,hc,hA,hR,h => by
   cases hc
   exact ⟨e,L,hA,hR,h⟩
 | o :: l,_,e,a,L,w,hc,hA,hR,h => by
   cases hc with
   | cons h1 h2 =>
     refine wpList_step fun K' hK'=>?_
     exact zkH h1 hA hR h fun e' a' L' w' hA' hR' hk=>hK' _ _ (zu3 h2 hA' hR' hk)
end
theorem zvs {P:Program} {fl:Bool} {dst:Option Nat} {op:Op} {f:Nat} {xs:List X} (h:cI P fl dst op=some (.call f xs)) :
 ∃ c:Call,op=.call c/\c.callee=.value (.func f)/\zid P f=true/\xs=c.args.toList.map cX:=by
 cases op with
 | call c =>
   obtain ⟨callee,args,ts⟩:=c
   simp only [cI] at h
   refine ⟨_,rfl,?_⟩
   repeat' split at h
   all_goals first
    | (cases h;done)
    | (simp only [g3q,I.call.injEq] at h;obtain ⟨rfl,rfl⟩:=h;rename_i h1 h2;exact ⟨rfl,h2,rfl⟩)
    | (simp only [g3q,I.call.injEq] at h;obtain ⟨rfl,rfl⟩:=h;rename_i h2;exact ⟨rfl,h2,rfl⟩)
    | (simp at h;done)
 | _ =>
   exfalso
   simp only [cI] at h
   repeat' split at h
   all_goals first
    | (cases h;done)
    | (rename_i hx _ _ _ _;cases hx;done)
    | (rename_i hx _ _ _ _ _;cases hx;done)
    | (obtain ⟨_,_,hm⟩:=Option.map_eq_some_iff.1 h;split at hm<;>cases hm;done)
    | (simp_all;done)
section
variable {P:Program} {w0:World} {fp0:List Nat} {n:Nat} {ds:List Deferred} {e:Env} {a:Act} {L Lb:List Ent} {w:World} {o:Oper} {i:I} {ops:Array Oper} {fl:List Nat}
theorem zt5 {f:Bool} {K:SV->Prop} (hc:cI P f o.dst o.op=some i) (hA:Agree n ds e a) (h:VQ P w0 fp0 i e Lb K) :
 ∃ s,K s/\∀ w,R w0 fp0 Lb w->zeg P w s.val ((execOp a.eval o).run P w):=by
 have hq:(isQ i=true/\VI P w0 fp0 i e Lb fun s _=>K s)∨∃ g xs,i=.call g xs:=by
  cases i<;>first|exact .inr ⟨_,_,rfl⟩|exact .inl ⟨rfl,zjE h⟩|exact h.elim
 rcases hq with ⟨hq,hv⟩|⟨g,xs,rfl⟩
 ·obtain ⟨s,hk,hall⟩:=zxA hq hv
  refine ⟨s,hk,fun w hR=>?_⟩
  rcases zef hc hA hR (hall (fun s' L'=>s'=s/\L'=Lb) ⟨rfl,rfl⟩) with ⟨v,h1,s',L',hs,hR',hk1,hk2⟩|⟨h0,_⟩|⟨h0,_⟩|⟨h0,_⟩
  ·rw [h1]
   subst hk1
   exact ⟨rfl,hs.symm⟩
  ·rw [hq] at h0;cases h0
  ·rw [hq] at h0;cases h0
  ·rw [hq] at h0;cases h0
 ·obtain ⟨c,ho,hcal,hok,rfl⟩:=zvs hc
  simp only [VQ] at h
  have h:=zij h
  simp only [yE] at h
  obtain ⟨l,hl,s,h1,hk⟩:=zap hA h
  refine ⟨s,hk,fun w hR=>?_⟩
  have e1:c.args.map a.eval=(l.map SV.val).toArray:=zee hl
  have:(execOp a.eval o).run P w=.ok (.enter g (l.map SV.val).toArray) w:=by
   simp [execOp,ho,resolve,hcal,Act.eval,Deferred.ofValue,invoke,e1,zdh hok]
  rw [this]
  exact ⟨rfl,h1 w hR⟩
def znz (o:Oper):Bool :=
 match o.op with
 | .move _=>true
 | .assign _=>true
 | .extract _ _=>true
 | _=>false
theorem zwg {f:Bool} {K:SV->Prop} (hm:znz o=true) (hc:cI P f o.dst o.op=some i) (hA:Agree n ds e a) (h:VQ P w0 fp0 i e Lb K) :
 ∃ s,K s/\∀ w,True->zeg P w s.val ((execOp a.eval o).run P w):=by
 unfold znz at hm
 split at hm
 ·rename_i x ho
  rw [ho] at hc
  simp only [cI,g3q] at hc
  subst hc
  obtain ⟨s,hs,hk⟩:=zy (show gA (ev e (cX x)) K from h)
  refine ⟨s,hk,fun w _=>?_⟩
  have hx:=zl hA hs
  have:(execOp a.eval o).run P w=.ok (.value (a.eval x)) w:=by simp [execOp,ho]
  rw [this]
  exact ⟨rfl,hx⟩
 ·rename_i x ho
  rw [ho] at hc
  simp only [cI,g3q] at hc
  subst hc
  obtain ⟨s,hs,hk⟩:=zy (show gA (ev e (cX x)) K from h)
  refine ⟨s,hk,fun w _=>?_⟩
  have hx:=zl hA hs
  have:(execOp a.eval o).run P w=.ok (.value (a.eval x)) w:=by simp [execOp,ho]
  rw [this]
  exact ⟨rfl,hx⟩
 ·rename_i x j ho
  rw [ho] at hc
  simp only [cI,g3q] at hc
  subst hc
  have h:gA (ev e (cX x)) (fun s=>match s with
   | .v (.tuple vs)=>gV (nth vs.toList j) fun v=>K (.v v)
   | _=>False):=h
  obtain ⟨s,hs,h⟩:=zy h
  have hx:=zl hA hs
  split at h
  ·rename_i vs
   obtain ⟨v,hv,hk⟩:=zec h
   rw [zcg,Array.getElem?_toList] at hv
   simp only [SV.val] at hx
   refine ⟨.v v,hk,fun w _=>?_⟩
   have:(execOp a.eval o).run P w=.ok (.value v) w:=by simp [execOp,ho,hx,Instr.extract,hv]
   rw [this]
   exact ⟨rfl,rfl⟩
  ·exact h.elim
 ·cases hm
theorem zlL {C:World->Prop} {io:Gop} {K:Env->Prop} (hVQ:∀ {f:Bool} {e:Env} {K:SV->Prop},cI P f o.dst o.op=some io.i->Agree n ds e a->VQ P w0 fp0 io.i e Lb K->∃ s,K s/\∀ w,C w->zeg P w s.val ((execOp a.eval o).run P w)) (hc:zdm P n ops fl o io) (hA:Agree n ds e a) (h:VS P w0 fp0 io e Lb K) :
 ∃ v e',QY P ops C o v a/\Agree n ds e' (a.put o.dst v)/\K e':=by
 obtain ⟨⟨f,hci⟩,hd,hok,hg⟩:=hc
 cases hgo:o.guard with
 | none =>
   rw [hgo] at hg
   simp only at hg
   rcases zu2 h with ⟨_,h⟩|⟨g,want,hg',_⟩
   ·have hw:Region.wanted o (yielded ops a.tmps)=true:=by simp [Region.wanted,hgo]
    obtain ⟨s,hk,hall⟩:=hVQ hci hA h
    obtain ⟨s',hs',hk⟩:=uR hk
    exact ⟨s.val,_,.inl ⟨hw,hall⟩,xi hA hok hs',by rw [←hd];exact hk⟩
   ·rw [hg] at hg';cases hg'
 | some p =>
   obtain ⟨j,want⟩:=p
   rw [hgo] at hg
   obtain ⟨g,hj,hg⟩:=hg
   rcases zu2 h with ⟨hg',_⟩|⟨g',want',hg',h⟩
   ·rw [hg] at hg';cases hg'
   rw [hg] at hg'
   simp only [g3q,Prod.mk.injEq] at hg'
   obtain ⟨rfl,rfl⟩:=hg'
   rcases zdG h with ⟨b,hb,h1,h2⟩|⟨vs,hb,h⟩
   ·have hw:=jf hA hgo hj hb
    by_cases hbw:b=want
    ·have hA':=uS hA (by rw [hbw] at hb;exact hb)
     obtain ⟨s,hk,hall⟩:=hVQ hci hA' (h1 hbw)
     obtain ⟨s',hs',hk⟩:=uR hk
     exact ⟨s.val,_,.inl ⟨by rw [hw];simp [hbw],hall⟩,xi hA' hok hs',by rw [←hd];exact hk⟩
    ·have hbn:b=!want:=by cases b<;>cases want<;>simp_all
     have hA':=uS hA (by rw [hbn] at hb;exact hb)
     exact ⟨undef,_,.inr ⟨by rw [hw];simp [hbw],rfl⟩,xi hA' hok rfl,by rw [←hd];exact h2 hbn⟩
   ·exact ⟨undef,_,.inr ⟨zcr hA hgo hj hb,rfl⟩,xi hA hok rfl,by rw [←hd];exact h⟩
theorem zt6 {io:Gop} {K:Env->Prop} (hc:zdm P n ops fl o io) (hA:Agree n ds e a) (h:VS P w0 fp0 io e Lb K) :
 ∃ v e',QY P ops (R w0 fp0 Lb) o v a/\Agree n ds e' (a.put o.dst v)/\K e':=zlL (fun hci hA h=>zt5 hci hA h) hc hA h
theorem zwh {io:Gop} {K:Env->Prop} (hm:znz o=true) (hc:zdm P n ops fl o io) (hA:Agree n ds e a) (h:VS P w0 fp0 io e Lb K) :
 ∃ v e',QY P ops (fun _=>True) o v a/\Agree n ds e' (a.put o.dst v)/\K e':=zlL (fun hci hA h=>zwg hm hci hA h) hc hA h
def vM:Tr->List Nat
 | .alt i _ _ r=>i::vM r
 | _=>[]
def zat:Tr->List Nat
 | .done=>[]
 | .take i t=>i::zat t
 | .alt _ _ t r=>zat t++zat r
 | .bar _ _=>[]
 | .mov _ t=>zat t
 | .can t=>zat t
 | .nil=>[]
def xm (ops:Array Oper):List Nat->Bool->Tr->Nat->Array Bool->Bool
 | qs,true,.done,_,listed=>(Region.ready .any ops listed).isEmpty
 | qs,true,.take i t,f+1,listed=>qs.contains i&&Region.free .any ops listed i&&(Region.ready .any ops listed).contains i&&xm ops qs true t f (listed.setIfInBounds i true)
 | qs,true,.mov i t,f+1,listed=>(match ops[i]? with|some o=>znz o|none=>false)&&Region.free .any ops listed i&&(Region.ready .any ops listed).contains i&&xm ops qs true t f (listed.setIfInBounds i true)
 | qs,true,.can t,f,listed=>xm ops qs true t f listed
 | qs,true,.bar i t,f+1,listed=>(Region.ready .any ops listed == [i])&&((List.range ops.size).all fun j=>listed.getD j true||!late .any ops qs j)&&xm ops (zat t) true t f (listed.setIfInBounds i true)
 | qs,b,.alt i lt t r,f+1,listed=>(!late .any ops qs i||lt)&&(!b||(!(Region.ready .any ops listed).isEmpty&&(Region.ready .any ops listed).all fun j=>(i::vM r).contains j)) &&
  xm ops qs true t f (listed.setIfInBounds i true)&&xm ops qs false r (f+1) listed
 | _,false,.nil,_,_=>true
 | _,_,_,_,_=>false
theorem zU {a:Act}:∀ {e' e:Env},Agree n ds e a->xk e' e->Agree n ds e' a
 | [],e,hA,_=>⟨hA.size,hA.defers,fun t s h=>by cases h⟩
 | (t,s) :: e',e,hA,h => by
   obtain ⟨h1,h2⟩:=h
   have ih:=zU hA h2
   obtain ⟨u,hu,hv⟩:=zy h1
   refine ⟨hA.size,hA.defers,fun t' s' hl=>?_⟩
   simp only [vn] at hl
   split at hl
   ·rename_i heq
    subst heq
    simp only [g3q] at hl
    subst hl
    rw [←hv]
    exact hA.at_ _ _ hu
   ·exact ih.at_ _ _ hl
theorem CompL.get:∀ {l:List Oper} {l':List Gop} {i:Nat} {K:Gop->Prop},CompL P n ops fl l l'->zbA l' i K->∃ o io,l[i]?=some o/\zdm P n ops fl o io/\K io
 | _,_,i,K,.nil,h=>by cases i<;>exact h.elim
 | _,_,0,K,.cons h1 h2,h=>⟨_,_,rfl,h1,h⟩
 | _,_,i + 1,K,.cons h1 h2,h => by
   obtain ⟨o,io,h3,h4⟩:=CompL.get h2 h
   exact ⟨o,io,by simpa using h3,h4⟩
variable {l:List Gop} {K:Env->List Ent->Prop} {Q:Exit->Act->World->Prop}
theorem zcs (hc:CompL P n ops fl ops.toList l) (hs:Region.noSelect ops=true) (hQp:∀ c a w,¬Q (.panic c) a w) (hK:∀ e a L w,Agree n ds e a->R w0 fp0 L w->K e L->Q .normal a w) :
 ∀ (t : Tr) (qs : List Nat) (Lb : List Ent) (b : Bool) (fuel : Nat) (listed : Array Bool) (e : Env) (a : Act) (L : List Ent) (w : World),xm ops qs b t fuel listed = true -> Closed .any ops listed -> Agree n ds e a -> R w0 fp0 L w ->
   ((∃ i∈qs,listed.getD i false=false)->R w0 fp0 Lb w)->VT P w0 fp0 l K t Lb e L ->
   (b=true->AnyG P .any ops Q (R w0 fp0 Lb) qs fuel listed a w) /\
   (∀ i∈vM t,i∈Region.ready .any ops listed->∃ f,fuel=f+1/\∀ w1,Ext w w1->wpOp P ops Q i (fun a' w'=>(late .any ops qs i=true->R w0 fp0 Lb w1->R w0 fp0 Lb w')/\AnyG P .any ops Q (R w0 fp0 Lb) qs f (listed.setIfInBounds i true) a' w') a w1)
 | .done,qs,Lb,b,fuel,listed,e,a,L,w,ht,hcl,hA,hR,hC,h => by
   refine ⟨fun hb=>?_,fun i hi=>by cases hi⟩
   subst hb
   simp only [xm,List.isEmpty_iff] at ht
   have h0:∀ w1,Ext w w1->Q .normal a w1:=fun w1 hx=>hK e a L w1 hA (hR.below hx) h
   cases fuel with
   | zero=>exact ⟨ht,h0⟩
   | succ f=>exact ⟨fun _=>h0,fun i hi=>by rw [ht] at hi;cases hi⟩
 | .nil,qs,Lb,b,fuel,listed,e,a,L,w,ht,hcl,hA,hR,hC,h => by
   refine ⟨fun hb=>?_,fun i hi=>by cases hi⟩
   subst hb
   cases fuel<;>simp [xm] at ht
 | .take i t,qs,Lb,b,fuel,listed,e,a,L,w,ht,hcl,hA,hR,hC,h => by
   refine ⟨fun hb=>?_,fun i hi=>by cases hi⟩
   subst hb
   cases fuel with
   | zero=>simp [xm] at ht
   | succ f =>
     simp only [xm,Bool.and_eq_true] at ht
     obtain ⟨⟨⟨h1,h2⟩,h3⟩,h4⟩:=ht
     simp only [VT] at h
     obtain ⟨o,io,ho,hcp,h⟩:=hc.get h
     obtain ⟨v,e',hy,hA',hk⟩:=zt6 hcp hA h
     have hq:i∈qs:=by simpa using h1
     have hr:i∈Region.ready .any ops listed:=by simpa using h3
     have hCw:R w0 fp0 Lb w:=hC ⟨i,hq,jZ (mem_ready.1 hr).1⟩
     refine AnyG.take (by simpa using ho) hs hQp hq (fun w w' h1 h2=>h1.below h2) hcl h2 h3 hy hCw ?_
     refine (zcs hc hs hQp hK t qs Lb true f _ e' _ L w h4 (hcl.set hr) hA' hR (fun _=>hCw) hk).1 rfl
 | .bar i t,qs,Lb,b,fuel,listed,e,a,L,w,ht,hcl,hA,hR,hC,h => by
   refine ⟨fun hb=>?_,fun i hi=>by cases hi⟩
   subst hb
   cases fuel with
   | zero=>simp [xm] at ht
   | succ f =>
     simp only [xm,Bool.and_eq_true,beq_iff_eq,List.all_eq_true,Bool.or_eq_true,Bool.not_eq_true'] at ht
     obtain ⟨⟨h1,h2⟩,h3⟩:=ht
     have hlate:∀ j oj,ops[j]?=some oj->listed.getD j true=false->late .any ops qs j=false:=fun j oj hj hun=>by
      have hlt:j<ops.size:=by
       rcases Nat.lt_or_ge j ops.size with h'|h'
       ·exact h'
       ·rw [Array.getElem?_eq_none h'] at hj;cases hj
      rcases h2 j (List.mem_range.2 hlt) with h'|h'
      ·rw [hun] at h';cases h'
      ·exact h'
     refine ⟨fun h0=>(by rw [h1] at h0;cases h0),fun j hj w1 hx=>?_⟩
     have hji:j=i:=by rw [h1] at hj;simpa using hj
     subst hji
     obtain ⟨hun,oi,hoi,_⟩:=mem_ready.1 hj
     simp only [VT] at h
     obtain ⟨o,io,ho,hcp,hv⟩:=hc.get h
     have ho':ops[j]?=some o:=by simpa using ho
     have hstep:=zkH (Q:=Q) (K':=fun a' w'=>(late .any ops qs j=true->R w0 fp0 Lb w1->R w0 fp0 Lb w')/\AnyG P .any ops Q (R w0 fp0 Lb) qs f (listed.setIfInBounds j true) a' w') hcp hA (hR.below hx) hv
      (fun e' a' L' w' hA' hR' hk=>by
       refine ⟨fun hlt=>(by rw [hlate j o ho' hun] at hlt;cases hlt),?_⟩
       have ih:=(zcs hc hs hQp hK t (zat t) L' true f _ e' a' L' w' h3 (hcl.set hj) hA' hR' (fun _=>hR') hk).1 rfl
       refine AnyG.rebase _ _ _ _ (fun j' oj' hj' hun'=>hlate j' oj' hj' ?_) ih
       by_cases hij:j=j'
       ·subst hij;exact hun
       ·rw [getD_set_ne true hij] at hun';exact hun')
     unfold wpOp
     simp only [ho']
     split
     ·rename_i hw;rw [if_pos hw] at hstep;exact .inl hstep
     ·rename_i hw;rw [if_neg hw] at hstep;exact hstep
 | .mov i t,qs,Lb,b,fuel,listed,e,a,L,w,ht,hcl,hA,hR,hC,h => by
   refine ⟨fun hb=>?_,fun i hi=>by cases hi⟩
   subst hb
   cases fuel with
   | zero=>simp [xm] at ht
   | succ f =>
     simp only [xm,Bool.and_eq_true] at ht
     obtain ⟨⟨⟨h1,h2⟩,h3⟩,h4⟩:=ht
     simp only [VT] at h
     obtain ⟨o,io,ho,hcp,h⟩:=hc.get h
     have ho':ops[i]?=some o:=by simpa using ho
     simp only [ho'] at h1
     obtain ⟨v,e',hy,hA',hk⟩:=zwh h1 hcp hA h
     have hr:i∈Region.ready .any ops listed:=by simpa using h3
     refine AnyG.mov ho' hs hQp (fun w w' h1 h2=>h1.below h2) hcl h2 h3 hy ?_
     refine (zcs hc hs hQp hK t qs Lb true f _ e' _ L w h4 (hcl.set hr) hA' hR (fun ⟨q,hq,hu⟩=>hC ⟨q,hq,?_⟩) hk).1 rfl
     by_cases hqi:i=q
     ·subst hqi;exact jZ (mem_ready.1 hr).1
     ·rw [getD_set_ne false hqi] at hu;exact hu
 | .can t,qs,Lb,b,fuel,listed,e,a,L,w,ht,hcl,hA,hR,hC,h => by
   refine ⟨fun hb=>?_,fun i hi=>by cases hi⟩
   subst hb
   simp only [xm] at ht
   simp only [VT] at h
   obtain ⟨e',L',hs',hr,h⟩:=h.h
   exact (zcs hc hs hQp hK t qs Lb true fuel listed e' a L' w ht hcl (zU hA hs') (hr w hR) hC h).1 rfl
 | .alt i lt t r,qs,Lb,b,fuel,listed,e,a,L,w,ht,hcl,hA,hR,hC,h => by
   cases fuel with
   | zero=>cases b<;>simp [xm] at ht
   | succ f =>
     have ht':((!late .any ops qs i||lt)=true/\(!b||(!(Region.ready .any ops listed).isEmpty&&(Region.ready .any ops listed).all fun j=>(i::vM r).contains j))=true) /\
      xm ops qs true t f (listed.setIfInBounds i true)=true/\xm ops qs false r (f+1) listed=true:=by
      cases b<;>simp only [xm,Bool.and_eq_true,and_assoc] at ht ⊢<;>exact ht
     obtain ⟨⟨h1,h2⟩,h3,h4⟩:=ht'
     obtain ⟨X,hi,hX,hrr⟩:=zwf h
     have ih2:=(zcs hc hs hQp hK r qs Lb false (f+1) listed e a L w h4 hcl hA hR hC hrr).2
     have key:∀ j∈vM (.alt i lt t r),j∈Region.ready .any ops listed->∃ f',f+1=f'+1/\∀ w1,Ext w w1->wpOp P ops Q j (fun a' w'=>(late .any ops qs j=true->R w0 fp0 Lb w1->R w0 fp0 Lb w')/\AnyG P .any ops Q (R w0 fp0 Lb) qs f' (listed.setIfInBounds j true) a' w') a w1:=by
      intro j hj hjr
      rcases List.mem_cons.1 hj with rfl|hj
      ·refine ⟨f,rfl,fun w1 hx=>?_⟩
       obtain ⟨o,io,ho,hcp,hv⟩:=hc.get hi
       have ho':ops[j]?=some o:=by simpa using ho
       have hstep:=zkH (Q:=Q) (K':=fun a' w'=>(late .any ops qs j=true->R w0 fp0 Lb w1->R w0 fp0 Lb w')/\AnyG P .any ops Q (R w0 fp0 Lb) qs f (listed.setIfInBounds j true) a' w') hcp hA (hR.below hx) hv
        (fun e' a' L' w' hA' hR' hk=>by
         obtain ⟨hk1,hk2⟩:=hX _ _ hk
         have hl:late .any ops qs j=true->R w0 fp0 Lb w':=fun hlt=>hk1 (by rw [hlt] at h1;simpa using h1) w' hR'
         refine ⟨fun hlt _=>hl hlt,(zcs hc hs hQp hK t qs Lb true f _ e' a' L' w' h3 (hcl.set hjr) hA' hR' (fun hex=>?_) hk2).1 rfl⟩
         cases hlate:late .any ops qs j with
         | true=>exact hl hlate
         | false =>
           exfalso
           obtain ⟨x,hx,hun⟩:=hex
           have hlx:=List.any_eq_false.1 hlate x hx
           simp only [Bool.and_eq_true,bne_iff_ne,ne_eq,Bool.not_eq_true',not_and,Bool.not_eq_false] at hlx
           by_cases hxj:x=j
           ·subst hxj
            have h0:=(mem_ready.1 hjr).1
            rcases Nat.lt_or_ge x listed.size with h'|h'
            ·simp [h'] at hun
            ·simp [Array.getElem?_eq_none h'] at h0
           ·have:=getD_set_true (i:=j) (zlJ hcl hjr (hlx hxj))
            rw [this] at hun
            cases hun)
       unfold wpOp
       simp only [ho']
       split
       ·rename_i hw;rw [if_pos hw] at hstep;exact .inl hstep
       ·rename_i hw;rw [if_neg hw] at hstep;exact hstep
      ·exact ih2 j hj hjr
     refine ⟨fun hb=>?_,key⟩
     subst hb
     simp only [Bool.not_true,Bool.false_or,Bool.and_eq_true,List.all_eq_true] at h2
     obtain ⟨h20,h2⟩:=h2
     refine ⟨fun h0 w1 hx=>?_,fun j hj w1 hx=>?_⟩
     ·rw [h0] at h20;cases h20
     ·obtain ⟨f',hf,hall⟩:=key j (by simpa [vM] using h2 j hj) hj
      cases hf
      exact hall w1 hx
end
def ub:List Bool->(List Bool->Bool)->Bool
 | [],k=>k []
 | true::t,k=>ub t fun l=>k (true::l)
 | false::t,k=>ub t fun l=>k (false::l)
theorem kT:∀ (l:List Bool) (k:List Bool->Bool),ub l k=k l
 | [],_=>rfl
 | true::t,k=>by rw [ub,kT t]
 | false::t,k=>by rw [ub,kT t]
def zei:List (List Bool)->(List (List Bool)->Bool)->Bool
 | [],k=>k []
 | l::ls,k=>ub l fun l'=>zei ls fun ls'=>k (l'::ls')
theorem zeX:∀ (l:List (List Bool)) (k:List (List Bool)->Bool),zei l k=k l
 | [],_=>rfl
 | l::ls,k=>by rw [zei,kT,zeX ls]
def u6:List Bool->Nat->Bool->Bool
 | [],_,d=>d
 | b::_,0,_=>b
 | _::l,i+1,d=>u6 l i d
theorem zej:∀ (l:List Bool) (i:Nat) (d:Bool),u6 l i d=l.getD i d
 | [],_,_=>by simp [u6]
 | b::l,0,d=>by simp [u6]
 | b::l,i+1,d=>by rw [u6,zej l i d];simp
def ur:List (List Bool)->Nat->List Bool
 | [],_=>[]
 | l::_,0=>l
 | _::ls,i+1=>ur ls i
theorem vt:∀ (l:List (List Bool)) (i:Nat),ur l i=l.getD i []
 | [],_=>by simp [ur]
 | b::l,0=>by simp [ur]
 | b::l,i+1=>by rw [ur,vt l i];simp
def zaX:List Bool->List Bool->Bool
 | a::as,b::bs=>(a||b)&&zaX as bs
 | _,_=>true
theorem zeY:∀ {as bs:List Bool},zaX as bs=true->∀ j,j<as.length->j<bs.length->as.getD j false=true∨bs.getD j false=true
 | [],_,_,j,h,_=>by simp at h
 | _::_,[],_,j,_,h=>by simp at h
 | a :: as,b :: bs,h,0,_,_ => by
   simp only [zaX,Bool.and_eq_true,Bool.or_eq_true] at h
   simpa using h.1
 | a :: as,b :: bs,h,j + 1,h1,h2 => by
   simp only [zaX,Bool.and_eq_true] at h
   have:=zeY h.2 j (by simpa using h1) (by simpa using h2)
   simpa using this
theorem zhQ:∀ {as bs:List Bool},(∀ j,j<as.length->j<bs.length->as.getD j false=true∨bs.getD j false=true)->zaX as bs=true
 | [],_,_=>by simp [zaX]
 | _::_,[],_=>by simp [zaX]
 | a :: as,b :: bs,h => by
   simp only [zaX,Bool.and_eq_true,Bool.or_eq_true]
   refine ⟨by simpa using h 0 (by simp) (by simp),zhQ fun j h1 h2=>?_⟩
   simpa using h (j+1) (by simpa using h1) (by simpa using h2)
def zbB (n:Nat) (f:Nat->Nat->Bool):List (List Bool):=(List.range n).map fun i=>(List.range n).map (f i)
theorem zik {n:Nat} {f:Nat->Nat->Bool} {i j:Nat} (hi:i<n) (hj:j<n) (d:Bool):((zbB n f).getD i []).getD j d=f i j:=by
 simp [zbB,g1q,hi,hj]
theorem zlM {n:Nat} {f:Nat->Nat->Bool} {i:Nat} (hi:i<n):((zbB n f).getD i []).length=n:=by
 simp [zbB,g1q,hi]
def zeZ (ops:Array Oper) (i j:Nat):Bool :=
 match ops[i]? with
 | some o=>o.after.all fun e=>!(Region.binds .any e)||!(e.on == j)
 | none=>true
def zmX (ops:Array Oper) (i j:Nat):Bool :=
 j == i||match ops[i]?,ops[j]? with
 | some oi,some oj=>oj.after.any (fun e=>Region.binds .any e&&e.on == i)||oi.apart ops oj
 | _,_=>true
def inB (ops:Array Oper):Bool:=ops.toList.all fun o=>o.after.all fun e=>!(Region.binds .any e)||decide (e.on<ops.size)
def uD (A:List (List Bool)) (listed:List Bool) (i:Nat):Bool:=!u6 listed i true&&zaX (ur A i) listed
def zq5 (F:List (List Bool)) (listed:List Bool) (i:Nat):Bool:=zaX (ur F i) listed
def zq6 (A:List (List Bool)) (n:Nat):Nat->List (List Bool)->(List (List Bool)->Bool)->Bool
 | 0,acc,k=>k acc
 | m+1,acc,k=>ub ((List.range n).map fun j=>(List.range n).any fun x=>!u6 (ur A acc.length) x true&&(x == j||u6 (ur acc x) j false)) fun r=>zq6 A n m (acc++[r]) k
def zjG (T:List (List Bool)) (qs:List Nat) (j:Nat):Bool:=qs.any fun i=>i != j&&!u6 (ur T j) i false
def zbl:List Bool->Nat->List Bool
 | [],_=>[]
 | _::l,0=>true::l
 | b::l,i+1=>b::zbl l i
theorem zkI:∀ (l:List Bool) (i:Nat),zbl l i=l.set i true
 | [],_=>by simp [zbl]
 | _::_,0=>by simp [zbl]
 | b::l,i+1=>by rw [zbl,zkI l i];simp
def yj (ops:Array Oper) (A F T:List (List Bool)):List Nat->Bool->Tr->Nat->List Bool->Bool
 | qs,true,.done,_,listed=>(List.range ops.size).all fun i=>!uD A listed i
 | qs,true,.take i t,f+1,listed=>qs.contains i&&zq5 F listed i&&(decide (i<ops.size)&&uD A listed i)&&ub (zbl listed i) fun l=>yj ops A F T qs true t f l
 | qs,true,.mov i t,f+1,listed=>(match ops[i]? with|some o=>znz o|none=>false)&&zq5 F listed i&&(decide (i<ops.size)&&uD A listed i)&&ub (zbl listed i) fun l=>yj ops A F T qs true t f l
 | qs,true,.can t,f,listed=>yj ops A F T qs true t f listed
 | qs,true,.bar i t,f+1,listed=>((List.range ops.size).all fun j=>uD A listed j == (j == i))&&decide (i<ops.size)&&((List.range ops.size).all fun j=>u6 listed j true||!zjG T qs j)&&ub (zbl listed i) fun l=>yj ops A F T (zat t) true t f l
 | qs,b,.alt i la t r,f+1,listed=>(decide (i<ops.size)&&(!zjG T qs i||la))&&(!b||(((List.range ops.size).any fun j=>uD A listed j)&&(List.range ops.size).all fun j=>!uD A listed j||(i::vM r).contains j)) &&
  (ub (zbl listed i) fun l=>yj ops A F T qs true t f l)&&yj ops A F T qs false r (f+1) listed
 | _,false,.nil,_,_=>true
 | _,_,_,_,_=>false
structure Tabs (ops:Array Oper) (A F T:List (List Bool)):Prop where
 inb:inB ops=true
 wait:A=zbB ops.size (zeZ ops)
 free:F=zbB ops.size (zmX ops)
 anc:∀ j i,j<ops.size->u6 (ur T j) i false=true->anc .any ops ops.size j i=true
section
variable {ops:Array Oper} {A F T:List (List Bool)}
theorem Tabs.ready (h:Tabs ops A F T) {listed:List Bool} (hl:listed.length=ops.size) {i:Nat} (hi:i<ops.size):uD A listed i=true↔i∈Region.ready .any ops ⟨listed⟩:=by
 have hrow:(ur A i).length=ops.size:=by rw [vt,h.wait,zlM hi]
 have hat:∀ j,j<ops.size->(ur A i).getD j false=zeZ ops i j:=fun j hj=>by rw [vt,h.wait,zik hi hj]
 obtain ⟨o,ho⟩:∃ o,ops[i]?=some o:=⟨ops[i],by simp [hi]⟩
 have hin:=h.inb
 simp only [inB,List.all_eq_true] at hin
 have hmem:o∈ops.toList:=by
  obtain ⟨_,h2⟩:=Array.getElem?_eq_some_iff.1 ho
  rw [←h2];simp
 have hin:=hin o hmem
 rw [mem_ready]
 unfold uD
 rw [zej,Bool.and_eq_true]
 have e1:(!listed.getD i true)=true↔(⟨listed⟩:Array Bool).getD i true=false:=by
  simp [Array.getD_eq_getD_getElem?,g1q]
 rw [e1]
 refine and_congr Iff.rfl ⟨fun hall=>⟨o,ho,fun e he hb=>?_⟩,fun ⟨o',ho',hall⟩=>zhQ fun j h1 h2=>?_⟩
 ·have hlt:e.on<ops.size:=by
   have:=Array.all_eq_true'.1 hin e he
   simpa [hb] using this
  rcases zeY hall e.on (by omega) (by omega) with h1|h1
  ·rw [hat _ hlt] at h1
   simp only [zeZ,ho] at h1
   have:=Array.all_eq_true'.1 h1 e he
   simp [hb] at this
  ·simpa [Array.getD_eq_getD_getElem?,g1q] using h1
 ·rw [hrow] at h1
  rw [hat _ h1]
  have:o'=o:=Option.some.inj (ho'.symm.trans ho)
  subst this
  by_cases hj:listed.getD j false=true
  ·exact .inr hj
  ·left
   simp only [zeZ,ho]
   refine Array.all_eq_true'.2 fun e he=>?_
   by_cases hb:Region.binds .any e=true
   ·have h3:=hall e he hb
    have:e.on≠j:=by
     rintro rfl
     apply hj
     simpa [Array.getD_eq_getD_getElem?,g1q] using h3
    simp [hb,this]
   ·simp [hb]
theorem Tabs.freeOk (h:Tabs ops A F T) {listed:List Bool} (hl:listed.length=ops.size) {i:Nat} (hi:i<ops.size) (hf:zq5 F listed i=true):Region.free .any ops ⟨listed⟩ i=true:=by
 have hrow:(ur F i).length=ops.size:=by rw [vt,h.free,zlM hi]
 have hat:∀ j,j<ops.size->(ur F i).getD j false=zmX ops i j:=fun j hj=>by rw [vt,h.free,zik hi hj]
 obtain ⟨o,ho⟩:∃ o,ops[i]?=some o:=⟨ops[i],by simp [hi]⟩
 simp only [Region.free,ho,List.all_eq_true,List.mem_range]
 intro j hj
 rcases zeY hf j (by omega) (by omega) with h1|h1
 ·rw [hat _ hj] at h1
  obtain ⟨oj,hoj⟩:∃ oj,ops[j]?=some oj:=⟨ops[j],by simp [hj]⟩
  simp only [zmX,ho,hoj] at h1
  simp only [hoj]
  rw [Bool.or_assoc]
  rcases Bool.or_eq_true_iff.1 h1 with h1|h1
  ·rw [h1];rfl
  ·rw [h1];simp
 ·have:(⟨listed⟩:Array Bool).getD j true=true:=by
   have hjl:j<listed.length:=by omega
   simp [Array.getD_eq_getD_getElem?,g1q,hjl] at h1 ⊢
   exact h1
  rw [this];simp
theorem Tabs.late (h:Tabs ops A F T) {qs:List Nat} {j:Nat} (hj:j<ops.size) (hl:zjG T qs j=false):EG.late .any ops qs j=false:=by
 unfold EG.late
 unfold zjG at hl
 rw [List.any_eq_false] at hl ⊢
 intro x hx
 have:=hl x hx
 simp only [Bool.and_eq_true,bne_iff_ne,ne_eq,Bool.not_eq_true',not_and,Bool.not_eq_false] at this ⊢
 intro hne
 exact h.anc j x hj (this hne)
theorem ze0 (listed:List Bool) (i:Nat):(⟨zbl listed i⟩:Array Bool)=(⟨listed⟩:Array Bool).setIfInBounds i true:=by
 rw [zkI];simp
theorem ze1 (listed:List Bool) (i:Nat):(zbl listed i).length=listed.length:=by rw [zkI];simp
theorem zil {listed:Array Bool} {i:Nat} (h:i∈Region.ready .any ops listed):i<ops.size:=by
 obtain ⟨_,o,ho,_⟩:=mem_ready.1 h
 exact (Array.getElem?_eq_some_iff.1 ho).1
theorem ju (h:Tabs ops A F T):∀ (t:Tr) (qs:List Nat) (b:Bool) (f:Nat) (listed:List Bool),listed.length=ops.size->yj ops A F T qs b t f listed=true->xm ops qs b t f ⟨listed⟩=true
 | .done,qs,b,f,listed,hl,ht => by
   cases b
   ·simp [yj] at ht
   ·have ht:((List.range ops.size).all fun i=>!uD A listed i)=true:=by cases f<;>simpa only [yj] using ht
    have hg:(Region.ready .any ops ⟨listed⟩).isEmpty=true:=by
     rw [List.isEmpty_iff,List.eq_nil_iff_forall_not_mem]
     intro i hi
     have hlt:=zil hi
     have:=List.all_eq_true.1 ht i (List.mem_range.2 hlt)
     rw [(h.ready hl hlt).2 hi] at this
     cases this
    cases f<;>simpa only [xm] using hg
 | .nil,qs,b,f,listed,hl,ht => by
   cases b
   ·cases f<;>rfl
   ·cases f<;>simp [yj] at ht
 | .take i t,qs,b,f,listed,hl,ht => by
   cases b
   ·cases f<;>simp [yj] at ht
   cases f with
   | zero=>simp [yj] at ht
   | succ f =>
     simp only [yj,kT,Bool.and_eq_true,decide_eq_true_eq] at ht
     obtain ⟨⟨⟨h1,h2⟩,h3,h4⟩,h5⟩:=ht
     have ih:=ju h t qs true f _ ((ze1 _ _).trans hl) h5
     rw [ze0] at ih
     simp only [xm,Bool.and_eq_true]
     exact ⟨⟨⟨h1,h.freeOk hl h3 h2⟩,by simpa using (h.ready hl h3).1 h4⟩,ih⟩
 | .mov i t,qs,b,f,listed,hl,ht => by
   cases b
   ·cases f<;>simp [yj] at ht
   cases f with
   | zero=>simp [yj] at ht
   | succ f =>
     simp only [yj,kT,Bool.and_eq_true,decide_eq_true_eq] at ht
     obtain ⟨⟨⟨h1,h2⟩,h3,h4⟩,h5⟩:=ht
     have ih:=ju h t qs true f _ ((ze1 _ _).trans hl) h5
     rw [ze0] at ih
     simp only [xm,Bool.and_eq_true]
     exact ⟨⟨⟨h1,h.freeOk hl h3 h2⟩,by simpa using (h.ready hl h3).1 h4⟩,ih⟩
 | .can t,qs,b,f,listed,hl,ht => by
   cases b
   ·cases f<;>simp [yj] at ht
   ·simp only [yj] at ht
    simp only [xm]
    exact ju h t qs true f listed hl ht
 | .bar i t,qs,b,f,listed,hl,ht => by
   cases b
   ·cases f<;>simp [yj] at ht
   cases f with
   | zero=>simp [yj] at ht
   | succ f =>
     simp only [yj,kT,Bool.and_eq_true,decide_eq_true_eq,List.all_eq_true,List.mem_range,Bool.or_eq_true,Bool.not_eq_true',beq_iff_eq] at ht
     obtain ⟨⟨⟨h1,h2⟩,h3⟩,h4⟩:=ht
     have ih:=ju h t (zat t) true f _ ((ze1 _ _).trans hl) h4
     rw [ze0] at ih
     simp only [xm,Bool.and_eq_true,beq_iff_eq,List.all_eq_true,List.mem_range,Bool.or_eq_true,Bool.not_eq_true']
     refine ⟨⟨?_,fun j hj=>?_⟩,ih⟩
     ·have hnd:(Region.ready .any ops ⟨listed⟩).Nodup:=List.nodup_range.filter _
      have hiff:∀ j,j∈Region.ready .any ops ⟨listed⟩↔j=i:=fun j=>by
       constructor
       ·intro hj
        have hlt:=zil hj
        have:=h1 j hlt
        rw [(h.ready hl hlt).2 hj] at this
        simpa using this.symm
       ·rintro rfl
        have:=h1 j h2
        rw [beq_self_eq_true] at this
        exact (h.ready hl h2).1 this
      generalize Region.ready .any ops ⟨listed⟩=l at hnd hiff
      match l,hnd,hiff with
      | [],_,hiff=>exact absurd ((hiff i).2 rfl) (by simp)
      | [x],_,hiff=>rw [(hiff x).1 (by simp)]
      | x :: y :: l,hnd,hiff =>
        have hx:=(hiff x).1 (by simp)
        have hy:=(hiff y).1 (by simp)
        rw [hx,hy] at hnd
        simp at hnd
     ·rcases h3 j hj with h3|h3
      ·left
       rw [zej] at h3
       simpa [Array.getD_eq_getD_getElem?,g1q] using h3
      ·exact .inr (h.late hj h3)
 | .alt i la t r,qs,b,f,listed,hl,ht => by
   cases f with
   | zero=>cases b<;>simp [yj] at ht
   | succ f =>
     have ht':((i<ops.size/\(!zjG T qs i||la)=true)/\(!b||(((List.range ops.size).any fun j=>uD A listed j)&&(List.range ops.size).all fun j=>!uD A listed j||(i::vM r).contains j))=true)/\yj ops A F T qs true t f (zbl listed i)=true/\yj ops A F T qs false r (f+1) listed=true:=by
      cases b<;>simp only [yj,kT,Bool.and_eq_true,and_assoc,decide_eq_true_eq] at ht ⊢<;>exact ht
     obtain ⟨⟨⟨hi,h1⟩,h2⟩,h3,h4⟩:=ht'
     have ih1:=ju h t qs true f _ ((ze1 _ _).trans hl) h3
     rw [ze0] at ih1
     have ih2:=ju h r qs false (f+1) listed hl h4
     have g1:(!EG.late .any ops qs i||la)=true:=by
      cases hla:la with
      | true=>simp
      | false =>
        rw [hla] at h1
        simp only [Bool.or_false,Bool.not_eq_true'] at h1 ⊢
        exact h.late hi h1
     have g2:(!b||(!(Region.ready .any ops ⟨listed⟩).isEmpty&&(Region.ready .any ops ⟨listed⟩).all fun j=>(i::vM r).contains j))=true:=by
      cases b with
      | false=>rfl
      | true =>
        simp only [Bool.not_true,Bool.false_or,Bool.and_eq_true,List.any_eq_true,List.all_eq_true,List.mem_range,Bool.or_eq_true,Bool.not_eq_true'] at h2 ⊢
        obtain ⟨⟨j,hj,hr⟩,hall⟩:=h2
        refine ⟨?_,fun x hx=>?_⟩
        ·have:=(h.ready hl hj).1 hr
         cases hre:Region.ready .any ops ⟨listed⟩ with
         | nil=>rw [hre] at this;simp at this
         | cons a l=>rfl
        ·have hlt:=zil hx
         rcases hall x hlt with h5|h5
         ·rw [(h.ready hl hlt).2 hx] at h5;cases h5
         ·exact h5
     cases b<;>simp only [xm,Bool.and_eq_true]<;>exact ⟨⟨⟨g1,g2⟩,ih1⟩,ih2⟩
theorem zp5 (hA:A=zbB ops.size (zeZ ops)):∀ (m:Nat) (acc:List (List Bool)) (k:List (List Bool)->Bool),acc.length+m<=ops.size ->
 (∀ j i,j<ops.size->u6 (ur acc j) i false=true->∃ f,f<=j+1/\anc .any ops f j i=true)->zq6 A ops.size m acc k=true ->
 ∃ T,k T=true/\∀ j i,j<ops.size->u6 (ur T j) i false=true->∃ f,f<=j+1/\anc .any ops f j i=true
 | 0,acc,k,_,hacc,h=>⟨acc,h,hacc⟩
 | m + 1,acc,k,hl,hacc,h => by
   simp only [zq6,kT] at h
   refine zp5 hA m _ k (by simp;omega) (fun j i hj hji=>?_) h
   by_cases hlt:j<acc.length
   ·refine hacc j i hj ?_
    rw [vt,g1q,List.getElem?_append_left hlt,←g1q,←vt] at hji
    exact hji
   ·by_cases hje:j=acc.length
    ·rw [vt,g1q,hje,List.getElem?_append_right (Nat.le_refl _),Nat.sub_self] at hji
     simp only [List.getElem?_cons_zero,Option.getD_some] at hji
     rw [zej] at hji
     by_cases hi:i<ops.size
     ·simp only [g1q,List.getElem?_map,List.getElem?_range hi,Option.map_some,Option.getD_some,List.any_eq_true,List.mem_range,Bool.and_eq_true,Bool.not_eq_true',Bool.or_eq_true,beq_iff_eq] at hji
      obtain ⟨x,hx,hw,hor⟩:=hji
      rw [zej,vt,hA,zik (by omega) hx] at hw
      unfold zeZ at hw
      split at hw
      ·rename_i o ho
       rw [←hje] at ho
       have hex:∃ e∈o.after,Region.binds .any e=true/\e.on=x:=by
        apply Decidable.byContradiction
        intro hno
        have:(o.after.all fun e=>!(Region.binds .any e)||!(e.on == x))=true:=by
         refine Array.all_eq_true'.2 fun e he=>?_
         by_cases hb:Region.binds .any e=true
         ·have:e.on≠x:=fun h=>hno ⟨e,he,hb,h⟩
          simp [hb,this]
         ·simp [hb]
        rw [this] at hw;cases hw
       obtain ⟨e,he,hb,hon⟩:=hex
       rcases hor with rfl|hor
       ·refine ⟨1,by omega,?_⟩
        simp only [anc,ho]
        refine Array.any_eq_true'.2 ⟨e,he,?_⟩
        simp [hb,hon]
       ·have hxl:x<acc.length:=by
         rcases Nat.lt_or_ge x acc.length with h'|h'
         ·exact h'
         ·rw [vt,g1q,List.getElem?_eq_none h'] at hor
          simp [u6] at hor
        obtain ⟨f,hf,hanc⟩:=hacc x i hx hor
        refine ⟨f+1,by omega,?_⟩
        simp only [anc,ho]
        refine Array.any_eq_true'.2 ⟨e,he,?_⟩
        simp [hb,hon,hanc]
      ·cases hw
     ·rw [g1q,List.getElem?_eq_none (by simp;omega)] at hji
      cases hji
    ·rw [vt,g1q,List.getElem?_eq_none (by simp;omega)] at hji
     simp [u6] at hji
theorem znA {md:Region.Mode}:∀ {f f' j i:Nat},f<=f'->anc md ops f j i=true->anc md ops f' j i=true
 | 0,f',j,i,_,h=>by simp [anc] at h
 | f+1,0,j,i,hle,_=>by omega
 | f + 1,f' + 1,j,i,hle,h => by
   simp only [anc] at h ⊢
   split at h
   ·rename_i oj hoj
    obtain ⟨e,he,hb⟩:=Array.any_eq_true'.1 h
    refine Array.any_eq_true'.2 ⟨e,he,?_⟩
    simp only [Bool.and_eq_true,Bool.or_eq_true] at hb ⊢
    exact ⟨hb.1,hb.2.imp_right fun h=>znA (by omega) h⟩
   ·cases h
def znB (ops:Array Oper) (t:Tr):Bool :=
 inB ops&&zei (zbB ops.size (zeZ ops)) fun A=>zei (zbB ops.size (zmX ops)) fun F=>zq6 A ops.size ops.size [] fun T=>ub (List.replicate ops.size false) fun l=>yj ops A F T (zat t) true t ops.size l
theorem zr3 {t:Tr} (h:znB ops t=true):xm ops (zat t) true t ops.size (Array.replicate ops.size false)=true:=by
 unfold znB at h
 rw [Bool.and_eq_true,zeX,zeX] at h
 obtain ⟨h1,h2⟩:=h
 obtain ⟨T,hT,hanc⟩:=zp5 rfl ops.size [] _ (by simp) (fun j i hj h=>by simp [ur,u6] at h) h2
 rw [kT] at hT
 have:=ju (ops:=ops) ⟨h1,rfl,rfl,fun j i hj hji=>by
  obtain ⟨f,hf,ha⟩:=hanc j i hj hji
  exact znA (by omega) ha⟩ t (zat t) true ops.size _ (by simp) hT
 have e:(⟨List.replicate ops.size false⟩:Array Bool)=Array.replicate ops.size false:=by simp
 rw [←e]
 exact this
end
def znC (n:Nat):Option Nat->Bool
 | some d=>decide (d<n)
 | none=>true
theorem zpo {n:Nat} {d:Option Nat} (h:znC n d=true):zq3 n d:=by
 intro x hx
 subst hx
 simpa [znC] using h
def zxX (fl:List Nat):Option Nat->Bool
 | some d=>fl.contains d
 | none=>fl.contains 3000000
def zt7 (P:Program) (n:Nat) (ops:Array Oper) (fl:List Nat) (o:Oper):Option Gop :=
 if znC n o.dst=true then
  match cI P (zxX fl o.dst) o.dst o.op with
  | some i => match o.guard with
    | none=>some ⟨o.dst,none,i⟩
    | some (j,want) => match (ops[j]?).bind (·.dst) with
      | some g=>some ⟨o.dst,some (g,want),i⟩
      | none=>none
  | none=>none
 else none
def jk (P:Program) (n:Nat) (ops:Array Oper) (fl:List Nat):List Oper->Option (List Gop)
 | []=>some []
 | o :: l => match zt7 P n ops fl o with
   | some io => match jk P n ops fl l with
     | some l'=>some (io::l')
     | none=>none
   | none=>none
def zwi (ts:List (Nat × Tr)) (id:Nat):Option Tr :=
 match ts with
 | []=>none
 | (k,t)::ts=>if k=id then some t else zwi ts id
def zhd:Code->Option Nat
 | .region _ ops _=>(ops[0]?).bind (·.dst)
 | .seq a _=>zhd a
 | .block _ c=>zhd c
 | .loop c=>zhd c
 | _=>none
def zxB (fl:List Nat) (b:Code):Bool :=
 match zhd b with
 | some d=>fl.contains (1000000+d)
 | none=>false
def cC (P:Program) (n:Nat) (fl:List Nat) (ts:List (Nat × Tr)):Code->Option C
 | .skip=>some .skip
 | .region id ops false=>(jk P n ops fl ops.toList).map .reg
 | .region id ops true => match zwi ts id,jk P n ops fl ops.toList with
   | some t,some l=>if (P.follows .mixedOrders&&Region.noSelect ops&&znB ops t)=true then some (match fl.contains (2000000+id) with|true=>.drb l t|false=>.drw l t) else none
   | _,_=>none
 | .seq a b => match cC P n fl ts a,cC P n fl ts b with
   | some a',some b'=>some (match zxB fl b with|true=>.cut a' b'|false=>.seq a' b')
   | _,_=>none
 | .cond x a b => match cC P n fl ts a,cC P n fl ts b with
   | some a,some b=>some (.cond (cX x) a b)
   | _,_=>none
 | .block id c=>(cC P n fl ts c).map (.blk id)
 | .loop c=>(cC P n fl ts c).map .loop
 | .exit id=>some (.exit id)
 | .label _=>some .skip
 | .ret=>some .ret
 | _=>none
section
variable {P:Program} {w0:World} {fp0:List Nat} {n:Nat} {ds:List Deferred} {fl:List Nat} {ts:List (Nat × Tr)}
theorem zr4 {ops:Array Oper} {o:Oper} {io:Gop} (h:zt7 P n ops fl o=some io):zdm P n ops fl o io:=by
 unfold zt7 at h
 split at h
 ·rename_i hd
  split at h
  ·rename_i i hi
   have hok:=zpo hd
   split at h
   ·rename_i hg
    simp only [g3q] at h;subst h
    exact ⟨⟨_,hi⟩,rfl,hok,by rw [hg]⟩
   ·rename_i j want hg
    split at h
    ·rename_i g hj
     simp only [g3q] at h;subst h
     exact ⟨⟨_,hi⟩,rfl,hok,by rw [hg];exact ⟨g,hj,rfl⟩⟩
    ·cases h
  ·cases h
 ·cases h
theorem xN {ops:Array Oper}:∀ {l:List Oper} {l':List Gop},jk P n ops fl l=some l'->CompL P n ops fl l l'
 | [],l',h=>by simp only [jk,g3q] at h;subst h;exact .nil
 | o :: l,l',h => by
   simp only [jk] at h
   split at h
   ·rename_i io h1
    split at h
    ·rename_i l'' h2
     simp only [g3q] at h;subst h
     exact .cons (zr4 h1) (xN h2)
    ·cases h
   ·cases h
theorem zaY:∀ {c:Code} {c':C} {K:Exit->Env->List Ent->Prop} {e:Env} {a:Act} {L:List Ent} {w:World},cC P n fl ts c=some c'->Agree n ds e a->R w0 fp0 L w ->
 VC P w0 fp0 c' K e L->c.wp P (wQ w0 fp0 n ds K) a w
 | .skip,c',K,e,a,L,w,hc,hA,hR,h => by
   simp only [cC,g3q] at hc;subst hc
   exact wp_skip ⟨e,L,hA,hR,h⟩
 | .label _,c',K,e,a,L,w,hc,hA,hR,h => by
   simp only [cC,g3q] at hc;subst hc
   exact wp_label ⟨e,L,hA,hR,h⟩
 | .ret,c',K,e,a,L,w,hc,hA,hR,h => by
   simp only [cC,g3q] at hc;subst hc
   exact wp_ret ⟨e,L,hA,hR,h⟩
 | .exit id,c',K,e,a,L,w,hc,hA,hR,h => by
   simp only [cC,g3q] at hc;subst hc
   exact wp_exit ⟨e,L,hA,hR,h⟩
 | .region id ops false,c',K,e,a,L,w,hc,hA,hR,h => by
   simp only [cC,Option.map_eq_some_iff] at hc
   obtain ⟨l,hl,rfl⟩:=hc
   exact wp_region_list (zu3 (xN hl) hA hR h)
 | .region id ops true,c',K,e,a,L,w,hc,hA,hR,h => by
   simp only [cC] at hc
   split at hc
   ·rename_i t l ht hl
    split at hc
    ·rename_i hok
     simp only [Bool.and_eq_true] at hok
     obtain ⟨⟨h1,h2⟩,h3⟩:=hok
     have hb:∃ Lb,Ref w0 fp0 L Lb/\VT P w0 fp0 l (K .normal) t Lb e L:=by
      split at hc<;>(simp only [g3q] at hc;subst hc)
      ·exact h.h
      ·exact ⟨L,fun w h=>h,h⟩
     obtain ⟨Lb,hLb,h⟩:=hb
     refine wp_region_any h1 (AnyG.any _ _ _ _ ((zcs (K:=K .normal) (xN hl) h2 (fun c a w hq=>hq) (fun e a L w hA hR hk=>⟨e,L,hA,hR,hk⟩) t (zat t) Lb true _ _ e a L _ (zr3 h3) (Closed.start _) hA hR.drew (fun _=>hLb _ hR.drew) h).1 rfl))
    ·cases hc
   ·cases hc
 | .seq x y,c',K,e,a,L,w,hc,hA,hR,h => by
   simp only [cC] at hc
   split at hc
   ·rename_i cx cy hx hy
    split at hc
    ·simp only [g3q] at hc;subst hc
     simp only [VC] at h
     obtain ⟨α,E,H,I,h1,h2⟩:=h.h
     refine wp_seq (Code.wp_mono (fun x a w hq=>?_) (zaY hx hA hR h1))
     cases x with
     | normal =>
       obtain ⟨e',L',hA',hR',hk⟩:=hq
       obtain ⟨x,hI,hs,hr⟩:=hk.h
       exact zaY hy (zU hA' hs) (hr _ hR') (h2 x hI)
     | exit id=>exact hq
     | ret=>exact hq
     | goto l=>exact hq
     | panic ch=>exact hq
     | outgrown=>exact hq
    ·simp only [g3q] at hc;subst hc
     refine wp_seq (Code.wp_mono (fun x a w hq=>?_) (zaY hx hA hR h))
     cases x with
     | normal =>
       obtain ⟨e',L',hA',hR',hk⟩:=hq
       exact zaY hy hA' hR' hk
     | exit id=>exact hq
     | ret=>exact hq
     | goto l=>exact hq
     | panic ch=>exact hq
     | outgrown=>exact hq
   ·cases hc
 | .cond x y z,c',K,e,a,L,w,hc,hA,hR,h => by
   simp only [cC] at hc
   split at hc
   ·rename_i cy cz hy hz
    simp only [g3q] at hc;subst hc
    simp only [VC] at h
    obtain ⟨t,ht,h⟩:=vJ h
    obtain ⟨h1,h2⟩:=xM h
    exact wp_cond_split (t:=t) (zl hA ht) (fun htt=>zaY hy hA hR (h1 htt)) (fun htt=>zaY hz hA hR (h2 htt))
   ·cases hc
 | .block id x,c',K,e,a,L,w,hc,hA,hR,h => by
   simp only [cC,Option.map_eq_some_iff] at hc
   obtain ⟨cx,hx,rfl⟩:=hc
   refine wp_block (Code.wp_mono (fun x a w hq=>?_) (zaY hx hA hR h))
   cases x with
   | exit id' =>
     obtain ⟨e',L',hA',hR',hk⟩:=hq
     simp only [Exit.inBlock]
     simp only [zwe] at hk
     split
     ·rename_i hid;rw [if_pos hid] at hk;exact ⟨e',L',hA',hR',hk⟩
     ·rename_i hid;rw [if_neg hid] at hk;exact ⟨e',L',hA',hR',hk⟩
   | normal=>exact hq
   | ret=>exact hq
   | goto l=>exact hq
   | panic ch=>exact hq
   | outgrown=>exact hq
 | .loop x,c',K,e,a,L,w,hc,hA,hR,h => by
   simp only [cC,Option.map_eq_some_iff] at hc
   obtain ⟨cx,hx,rfl⟩:=hc
   simp only [VC] at h
   obtain ⟨α,E,H,I,μ,⟨x0,hI0,hs0,hr0⟩,hround⟩:=h.h
   refine wp_loop_ghost (fun m a w=>∃ x,I x/\μ x=m/\Agree n ds (E x) a/\R w0 fp0 (H x) w) (μ x0) ⟨x0,hI0,rfl,zU hA hs0,hr0 w hR⟩ ?_
   rintro m a w ⟨x,hI,rfl,hA',hR'⟩
   refine Code.wp_mono (fun ex a w hq=>?_) (zaY hx hA' hR' (hround x hI))
   cases ex with
   | normal =>
     obtain ⟨e',L',hA2,hR2,⟨y,⟨hI2,hlt⟩,hs,hr⟩⟩:=hq
     exact ⟨μ y,hlt,y,hI2,rfl,zU hA2 hs,hr w hR2⟩
   | exit id=>exact hq
   | ret=>exact hq
   | goto l=>exact hq
   | panic ch=>exact hq
   | outgrown=>exact hq
 | .rangeFunc ..,c',K,e,a,L,w,hc,hA,hR,h=>by simp [cC] at hc
 | .scope ..,c',K,e,a,L,w,hc,hA,hR,h=>by simp [cC] at hc
 | .goto ..,c',K,e,a,L,w,hc,hA,hR,h=>by simp [cC] at hc
 | .refuse ..,c',K,e,a,L,w,hc,hA,hR,h=>by simp [cC] at hc
inductive RV where
 | t (n:Nat)
 | c (t n:Nat)
def zdH (P:Program):List ResultVar->Option (List RV)
 | []=>some []
 | .tmp t :: rs => match zdH P rs with
   | some l=>some (.t t::l)
   | none=>none
 | .cell t ty :: rs => match P.underlying ty,P.info? ty,zdH P rs with
   | some (.struct _),some j,some l=>if 0<j.size then some (.c t j.size::l) else none
   | some (.array _ _),some j,some l=>if 0<j.size then some (.c t j.size::l) else none
   | _,_,_=>none
def zim:List RV->Env->List Ent->(List Value->Prop)->Prop
 | [],e,L,K=>K []
 | .t t::rs,e,L,K=>gA (vn e t) fun s=>svK s fun v=>zim rs e L fun l=>K (v::l)
 | .c t m :: rs,e,L,K => gA (vn e t) fun s => match s with
   | .ptr key b off => match yh key L with
     | some (b',cs,_)=>(b'=b/\off+m<=cs.length)/\zim rs e L fun l=>K (.agg ((cs.drop off).take m).toArray::l)
     | none=>False
   | _=>False
def zgm:List Value->Value
 | [v]=>v
 | l=>.tuple l.toArray
def znD (l:List Value) (K:Value->Prop):Prop :=
 match l with
 | [v]=>K v
 | l=>K (.tuple l.toArray)
def fnK (rs:List RV) (K:Value->List Ent->Prop):Exit->Env->List Ent->Prop
 | .normal,e,L=>zim rs e L fun l=>znD l fun v=>Stop (K v L)
 | .ret,e,L=>zim rs e L fun l=>znD l fun v=>Stop (K v L)
 | _,_,_=>False
theorem zlN {l:List Value} {K:Value->Prop} (h:znD l K):K (zgm l):=by
 match l,h with
 | [],h=>exact h
 | [_],h=>exact h
 | _::_::_,h=>exact h
def uc:Nat->List SV->Env
 | _,[]=>[]
 | k,s::l=>(k,s)::uc (k+1) l
theorem zhR:∀ (l:List SV) (k t:Nat) (s:SV),vn (uc k l) t=some s->k<=t/\l[t - k]?=some s
 | [],k,t,s,h=>by cases h
 | x :: l,k,t,s,h => by
   simp only [uc,vn] at h
   split at h
   ·rename_i hk
    subst hk
    simp only [g3q] at h
    subst h
    simp
   ·rename_i hk
    obtain ⟨h1,h2⟩:=zhR l (k+1) t s h
    refine ⟨by omega,?_⟩
    have:t - k=(t - (k+1))+1:=by omega
    rw [this]
    simpa using h2
theorem zdI {l:List SV} (h:l.length<=n):Agree n [] (uc 0 l) { tmps:=(l.map SV.val).toArray++Array.replicate (n - (l.map SV.val).toArray.size) undef,defers:=[] }:=by
 refine ⟨by simp;omega,rfl,fun t s hl=>?_⟩
 obtain ⟨_,h2⟩:=zhR l 0 t s hl
 simp only [Nat.sub_zero] at h2
 have hlt:t<l.length:=(List.getElem?_eq_some_iff.1 h2).1
 simp [Array.getElem?_append,hlt]
 have h3:=(List.getElem?_eq_some_iff.1 h2).2
 rw [h3]
def zkJ (a:Act):ResultVar->Sem Value
 | .tmp t=>pure (a.tmps.getD t undef)
 | .cell c t=>do loadVar t (←asAddr (a.tmps.getD c undef))
theorem zct {a:Act} {w:World} {e:Env} {L:List Ent} (hA:Agree n ds e a) (hR:R w0 fp0 L w):∀ {rs:List ResultVar} {l':List RV} {K:List Value->Prop},zdH P rs=some l'->zim l' e L K ->
 ∃ l,K l/\(rs.mapM (zkJ a):Sem (List Value)).run P w=.ok l w
 | [],l',K,hc,h => by
   simp only [zdH,g3q] at hc;subst hc
   exact ⟨[],h,by simp [List.mapM_nil,Sem.run_pure]⟩
 | .tmp t :: rs,l',K,hc,h => by
   simp only [zdH] at hc
   split at hc
   ·rename_i l0 h0
    simp only [g3q] at hc;subst hc
    obtain ⟨s,hs,h⟩:=zy h
    obtain ⟨l,hk,hl⟩:=zct hA hR h0 (zco h)
    refine ⟨_,hk,?_⟩
    have:=hA.getD hs
    simp only [List.mapM_cons,zkJ,Sem.run_bind,Sem.run_pure,Result.andThen_ok,this]
    rw [hl]
    rfl
   ·cases hc
 | .cell t ty :: rs,l',K,hc,h => by
   simp only [zdH] at hc
   split at hc
   ·rename_i fs j l0 h1 h2 h0
    split at hc
    ·rename_i hpos
     simp only [g3q] at hc;subst hc
     obtain ⟨s,hs,h⟩:=zy h
     split at h
     ·rename_i key b off
      split at h
      ·rename_i b' cs T hb
       obtain ⟨⟨rfl,hle⟩,h⟩:=h
       obtain ⟨l,hk,hl⟩:=zct hA hR h0 h
       refine ⟨_,hk,?_⟩
       have:=hA.getD hs
       have hload:=zgd (P:=P) (w:=w) (b:=b') (off:=off) (vs:=(cs.drop off).take j.size) (.inl ⟨_,h1⟩) h2 (by simp;omega) (fun i v hv=>by
        rw [zci hR hb]
        rw [List.getElem?_take] at hv
        split at hv
        ·simpa using hv
        ·cases hv)
       simp only [List.mapM_cons,zkJ,Sem.run_bind,Sem.run_pure,this,SV.val,asAddr,Result.andThen_ok]
       rw [hload]
       simp only [Result.andThen_ok]
       rw [hl]
       rfl
      ·exact h.elim
     ·exact h.elim
    ·cases hc
   ·rename_i m el j l0 h1 h2 h0
    split at hc
    ·rename_i hpos
     simp only [g3q] at hc;subst hc
     obtain ⟨s,hs,h⟩:=zy h
     split at h
     ·rename_i key b off
      split at h
      ·rename_i b' cs T hb
       obtain ⟨⟨rfl,hle⟩,h⟩:=h
       obtain ⟨l,hk,hl⟩:=zct hA hR h0 h
       refine ⟨_,hk,?_⟩
       have:=hA.getD hs
       have hload:=zgd (P:=P) (w:=w) (b:=b') (off:=off) (vs:=(cs.drop off).take j.size) (.inr ⟨_,_,h1⟩) h2 (by simp;omega) (fun i v hv=>by
        rw [zci hR hb]
        rw [List.getElem?_take] at hv
        split at hv
        ·simpa using hv
        ·cases hv)
       simp only [List.mapM_cons,zkJ,Sem.run_bind,Sem.run_pure,this,SV.val,asAddr,Result.andThen_ok]
       rw [hload]
       simp only [Result.andThen_ok]
       rw [hl]
       rfl
      ·exact h.elim
     ·exact h.elim
    ·cases hc
   ·cases hc
theorem zt8 {f:FuncId} {fn:Func} {c:Code} {c':C} {l:List SV} {w:World} {L:List Ent} {K:Value->List Ent->Prop} {rs:List RV}
 (hf:P.funcs[f]?=some fn) (hb:fn.body=some c) (hn:fn.ntmps=n) (hc:cC P n fl ts c=some c') (hrs:zdH P fn.results.toList=some rs) (hl:l.length<=n) (hR:R w0 fp0 L w)
 (h:VC P w0 fp0 c' (fnK rs K) (uc 0 l) L) :
 Calls P f (l.map SV.val).toArray w fun x w'=>∃ v L',x=.returned v/\R w0 fp0 L' w'/\K v L':=by
 refine calls_of_wp hf hb ?_
 subst hn
 refine Code.wp_mono (fun x a w hq=>?_) (zaY hc (zdI hl) hR h)
 have key:∀ e L,Agree fn.ntmps [] e a->R w0 fp0 L w->zim rs e L (fun l=>znD l fun v=>Stop (K v L)) ->
  a.defers=[]/\∃ v,(results fn a.tmps).run P w=.ok v w/\∃ v' L',Ending.returned v=.returned v'/\R w0 fp0 L' w/\K v' L':=by
  intro e L hA hR hk
  obtain ⟨l,hkl,hrun⟩:=zct (P:=P) (w:=w) hA hR hrs hk
  refine ⟨hA.defers,zgm l,?_,_,L,rfl,hR,(zlN hkl).h⟩
  have e1:results fn a.tmps=(do let vs ←fn.results.mapM (zkJ a);pure (if h:vs.size=1 then vs[0] else .tuple vs)):=rfl
  rw [e1,Array.mapM_eq_mapM_toList]
  simp only [map_eq_pure_bind,bind_assoc,pure_bind,Sem.run_bind]
  rw [hrun]
  simp only [Result.andThen_ok,Sem.run_pure]
  match l with
  | []=>rfl
  | [v]=>rfl
  | v::v'::l=>simp [zgm]
 cases x with
 | normal=>obtain ⟨e,L,hA,hR,hk⟩:=hq;exact key e L hA hR hk
 | ret=>obtain ⟨e,L,hA,hR,hk⟩:=hq;exact key e L hA hR hk
 | exit id=>obtain ⟨e,L,hA,hR,hk⟩:=hq;exact hk.elim
 | goto l=>exact hq
 | panic ch=>exact hq.elim
 | outgrown=>exact hq.elim
end
def zt (P:Program) (f:Nat) (fl:List Nat) (ts:List (Nat × Tr)):Option (Nat × List RV × C) :=
 match P.funcs[f]? with
 | some fn => match fn.body with
   | some c => match cC P fn.ntmps fl ts c,zdH P fn.results.toList with
     | some c',some rs=>some (fn.ntmps,rs,c')
     | _,_=>none
   | none=>none
 | none=>none
theorem jv {P:Program} {f:Nat} {fl:List Nat} {ts:List (Nat × Tr)} {n:Nat} {rs:List RV} {c':C} {w0 w:World} {fp0:List Nat} {L:List Ent} {K:Value->List Ent->Prop} (l:List SV)
 (hir:zt P f fl ts=some (n,rs,c')) (hl:l.length<=n) (hR:R w0 fp0 L w) (h:VC P w0 fp0 c' (fnK rs K) (uc 0 l) L) :
 Calls P f (l.map SV.val).toArray w fun x w'=>∃ v L',x=.returned v/\R w0 fp0 L' w'/\K v L':=by
 unfold zt at hir
 split at hir
 ·rename_i fn hf
  split at hir
  ·rename_i c hb
   split at hir
   ·rename_i c1 rs1 hc hrs
    simp only [g3q,Prod.mk.injEq] at hir
    obtain ⟨h1,h2,h3⟩:=hir
    subst h1 h2 h3
    exact zt8 hf hb rfl hc hrs hl hR h
   ·cases hir
  ·cases hir
 ·cases hir
section
variable {P:Program} {w0:World} {fp0:List Nat} {K:Exit->Env->List Ent->Prop} {e:Env} {L:List Ent}
theorem zw {c:C} (α:Type) (E:α->Env) (H:α->List Ent) (I:α->Prop) (μ:α->Nat) (x0:α) (h0:I x0) (hs:xk (E x0) e) (hr:Ref w0 fp0 L (H x0))
 (h:∀ x,I x->VC P w0 fp0 c (zq2 w0 fp0 E H I μ (μ x) K) (E x) (H x)):Stop (∃ (α:Type) (E:α->Env) (H:α->List Ent) (I:α->Prop) (μ:α->Nat),(∃ x,I x/\xk (E x) e/\Ref w0 fp0 L (H x))/\∀ x,I x->VC P w0 fp0 c (zq2 w0 fp0 E H I μ (μ x) K) (E x) (H x)) :=
 ⟨α,E,H,I,μ,⟨x0,h0,hs,hr⟩,h⟩
theorem zca {l:List Gop} {t:Tr} {K:Env->List Ent->Prop} {e:Env} {L:List Ent} (Lb:List Ent) (h:Ref w0 fp0 L Lb) (k:VT P w0 fp0 l K t Lb e L):Stop (∃ Lb,Ref w0 fp0 L Lb/\VT P w0 fp0 l K t Lb e L):=⟨Lb,h,k⟩
theorem zcu {a b:C} (α:Type) (E:α->Env) (H:α->List Ent) (I:α->Prop)
 (h:VC P w0 fp0 a (zt4 w0 fp0 E H I K) e L) (k:∀ x,I x->VC P w0 fp0 b K (E x) (H x)):Stop (∃ (α:Type) (E:α->Env) (H:α->List Ent) (I:α->Prop),VC P w0 fp0 a (zt4 w0 fp0 E H I K) e L/\∀ x,I x->VC P w0 fp0 b K (E x) (H x)) :=
 ⟨α,E,H,I,h,k⟩
theorem xJ {α:Type} {E:α->Env} {H:α->List Ent} {I:α->Prop} (x:α) (h1:I x) (h3:xk (E x) e) (h4:Ref w0 fp0 L (H x)) :
 Stop (∃ x,I x/\xk (E x) e/\Ref w0 fp0 L (H x)):=⟨x,h1,h3,h4⟩
theorem zi {α:Type} {E:α->Env} {H:α->List Ent} {I:α->Prop} {μ:α->Nat} {m:Nat} (x:α) (h1:I x) (h2:μ x<m) (h3:xk (E x) e) (h4:Ref w0 fp0 L (H x)) :
 Stop (∃ x,(I x/\μ x<m)/\xk (E x) e/\Ref w0 fp0 L (H x)):=⟨x,⟨h1,h2⟩,h3,h4⟩
theorem ze {k:IntKind} {a b:Int} (h:a=b):(SV.v (.int k a)).val=(SV.v (.int k b)).val:=by rw [h]
theorem zf {k k':Nat} {a:Option Addr} {n n' c:Nat} (h:n=n'):(SV.sl k a n c).val=(SV.sl k' a n' c).val:=by rw [h];rfl
theorem Ref.refl (L:List Ent):Ref w0 fp0 L L:=fun _ h=>h
theorem Ref.ownNil (key T sz:Nat):Ref w0 fp0 L (.own key none 0 0 T sz []::L):=fun _ h=>h.ownNil key T sz
theorem Ref.sub {L':List Ent} (h:L'.Sublist L):Ref w0 fp0 L L':=fun _ k=>k.sub h
theorem Ref.perm {L':List Ent} (h:L.Perm L'):Ref w0 fp0 L L':=fun _ k=>k.perm h
theorem Ref.trans {L' L'':List Ent} (h:Ref w0 fp0 L L') (k:Ref w0 fp0 L' L''):Ref w0 fp0 L L'':=fun _ q=>k _ (h _ q)
def In (w0:World) (fp0:List Nat) (a:Option Addr) (xs:List Value):Prop :=
 xs=[]∨∃ b off,a=some ⟨b,off,none⟩/\b<w0.heap.size/\b∉fp0/\∀ j v,xs[j]?=some v->w0.cell? ⟨b,off+j,none⟩=some v
theorem jw {w w':World} {a:Addr} (h:w'.heap[a.block]?=w.heap[a.block]?):w'.cell? a=w.cell? a:=by
 simp only [World.cell?,h]
theorem In.ne {a:Option Addr} {xs:List Value} (h:In w0 fp0 a xs) (hx:xs≠[]):a≠Option.none:=by
 rcases h with h|⟨b,off,rfl,_⟩
 ·exact absurd h hx
 ·simp
theorem In.ne' {a:Option Addr} {xs:List Value} (h:In w0 fp0 a xs) {k:Nat} (hx:k<xs.length):a≠Option.none:=h.ne (by rintro rfl;simp at hx)
theorem In.rd {a:Option Addr} {xs:List Value} {k:Nat} {v:Value} (h:In w0 fp0 a xs) (hv:xs[k]?=some v):Rd w0 fp0 L (.el a k) [v]:=by
 intro w hR
 rcases h with rfl|⟨b,off,rfl,h1,h2,h3⟩
 ·simp at hv
 ·refine ⟨b,off+k,by simp [SV.val,qo],fun j u hu=>?_⟩
  have:j=0/\u=v:=by
   cases j with
   | zero=>simpa [eq_comm] using hu
   | succ j=>simp at hu
  obtain ⟨rfl,rfl⟩:=this
  rw [jw (w:=w0) (hR.old b h1 h2)]
  exact h3 k u hv
theorem In.rds {a:Option Addr} {xs:List Value} {n:Nat} (h:In w0 fp0 a xs) (hn:n=xs.length):RdS w0 fp0 L a n xs:=by
 refine ⟨hn,?_⟩
 rcases h with h|⟨b,off,rfl,h1,h2,h3⟩
 ·exact .inl h
 ·refine .inr fun w hR=>⟨b,off,rfl,fun j v hv=>?_⟩
  rw [jw (w:=w0) (hR.old b h1 h2)]
  exact h3 j v hv
theorem In.cast {w:World} {fp:List Nat} {a:Option Addr} {xs:List Value} (h:In w0 fp0 a xs) (hR:R w0 fp0 L w) (hf:∀ b∈fp,b∈fps L):In w fp a xs:=by
 rcases h with rfl|⟨b,off,rfl,h1,h2,h3⟩
 ·exact .inl rfl
 ·refine .inr ⟨b,off,rfl,Nat.lt_of_lt_of_le h1 hR.size,fun hb=>?_,fun j v hv=>?_⟩
  ·rcases (hR.range b (hf b hb)).1 with h|h
   ·exact h2 h
   ·omega
  ·rw [jw (w:=w0) (hR.old b h1 h2)]
   exact h3 j v hv
def zu (k:IntKind) (xs:List Int):List Value:=xs.map (.int k)
theorem ints_length {k:IntKind} {xs:List Int}:(zu k xs).length=xs.length:=by simp [zu]
theorem zm {f:FuncId} {args:List Value} {k:SV->List Ent->Prop} (s:SV) (h:∀ w,R w0 fp0 L w->Calls P f args.toArray w fun x w'=>x=.returned s.val/\Ext w w') (hk:k s L):zT P w0 fp0 f args L k :=
 fun w hR=>(h w hR).mono fun x w' ⟨hx,he⟩=>⟨s.val,s,L,hx,rfl,hR.below he,hk⟩
theorem yF {f:FuncId} {args:List Value} {k:SV->Prop} (s:SV) (h:∀ w,R w0 fp0 L w->Calls P f args.toArray w fun x w'=>x=.returned s.val/\Ext w w') (hk:k s):yE P w0 fp0 f args L k :=
 ⟨s,h,hk⟩
theorem zF {f:Nat} {fl:List Nat} {ts:List (Nat × Tr)} {n:Nat} {rs:List RV} {c:C} {r:Value} (l:List SV) (w:World) (hir:zt P f fl ts=some (n,rs,c)) (hl:l.length<=n)
 (h:VC P w [] c (fnK rs fun v L=>v=r) (uc 0 l) []):Calls P f (l.map SV.val).toArray w fun x w'=>x=.returned r/\Ext w w' :=
 (jv l hir hl (R.start0 w) h).mono fun x w' ⟨v,L',hx,hR,hv⟩=>by
  subst hv
  have h0:R w [] [] w':=hR.sub (List.nil_sublist _)
  exact ⟨hx,h0.toExt⟩
inductive Thin:List Ent->List Ent->Prop
 | nil (L:List Ent):Thin L []
 | skip {e:Ent} {L L':List Ent}:Thin L L'->Thin (e::L) L'
 | keep {e e':Ent} {L L':List Ent}:e.fp=e'.fp->(∀ w,e.ok w->e'.ok w)->Thin L L'->Thin (e::L) (e'::L')
theorem Thin.ok {L L':List Ent} (h:Thin L L') (w:World):(∀ e∈L,e.ok w)->∀ e∈L',e.ok w:=by
 induction h with
 | nil L=>intro _ e he;cases he
 | skip h ih=>exact fun k=>ih fun e he=>k e (g4q _ he)
 | keep h1 h2 h ih =>
   intro k e he
   rcases List.mem_cons.1 he with rfl|he
   ·exact h2 w (k _ g5q)
   ·exact ih (fun e he=>k e (g4q _ he)) e he
theorem Thin.fps {L L':List Ent} (h:Thin L L'):(fps L').Sublist (fps L):=by
 induction h with
 | nil L=>exact List.nil_sublist _
 | skip h ih=>rw [zH];exact ih.trans (List.sublist_append_right _ _)
 | keep h1 h2 h ih=>rw [zH,zH,h1];exact (List.append_sublist_append_left _).2 ih
theorem Thin.ref {L L':List Ent} (h:Thin L L'):Ref w0 fp0 L L':=fun w k =>
 ⟨k.os,k.tape,k.output,k.drawn,k.size,k.old,h.fps.nodup k.nodup,fun b hb=>k.range b (h.fps.subset hb),h.ok w k.ok⟩
theorem Thin.refl:∀ L:List Ent,Thin L L
 | []=>.nil _
 | _::L=>.keep rfl (fun _ h=>h) (Thin.refl L)
theorem Thin.own {k k':Nat} {a:Option Addr} {n n' c T sz:Nat} {xs xs':List Value} {L L':List Ent} (hn:n=n') (hx:xs=xs') (h:Thin L L'):Thin (.own k a n c T sz xs::L) (.own k' a n' c T sz xs'::L'):=by
 subst hn hx
 exact .keep rfl (fun _ h=>h) h
theorem Thin.box {k k' b T:Nat} {cs cs':List Value} {L L':List Ent} (hx:cs=cs') (h:Thin L L'):Thin (.box k b cs T::L) (.box k' b cs' T::L'):=by
 subst hx
 exact .keep rfl (fun _ h=>h) h
def zt9 (T sz n:Nat) (xs:List Value) (w:World) (x:Ending) (w':World):Prop :=
 ∃ a c,x=.returned (.slice a n c)/\R w [] [.own 0 a n c T sz xs] w'
def zxY (w0:World) (T sz n:Nat) (xs:List Value) (v:Value) (L:List Ent):Prop :=
 ∃ a c,v=.slice a n c/\Ref w0 [] L [.own 0 a n c T sz xs]
theorem zq7 {f:Nat} {fl:List Nat} {ts:List (Nat × Tr)} {n:Nat} {rs:List RV} {c:C} {T sz m:Nat} {xs:List Value} (l:List SV) (w:World) (hir:zt P f fl ts=some (n,rs,c)) (hl:l.length<=n)
 (h:VC P w [] c (fnK rs (zxY w T sz m xs)) (uc 0 l) []):Calls P f (l.map SV.val).toArray w (zt9 T sz m xs w) :=
 (jv l hir hl (R.start0 w) h).mono fun x w' ⟨v,L',hx,hR,a,c,hv,hr⟩=>by
  subst hv
  exact ⟨a,c,hx,hr w' hR⟩
theorem R.rekey {key key':Nat} {a:Option Addr} {n c T sz:Nat} {xs:List Value} {w':World} (h:R w0 fp0 (.own key a n c T sz xs::L) w'):R w0 fp0 (.own key' a n c T sz xs::L) w' :=
 (Thin.own rfl rfl (Thin.refl L)).ref w' h
theorem zpp {f:FuncId} {args:List Value} {k:SV->List Ent->Prop} {T sz n:Nat} {xs:List Value} (key:Nat) (h:∀ w,R w0 fp0 L w->Calls P f args.toArray w (zt9 T sz n xs w))
 (hk:∀ a c,k (.sl key a n c) (.own key a n c T sz xs::L)):zT P w0 fp0 f args L k :=
 fun w hR=>(h w hR).mono fun x w' ⟨a,c,hx,hR'⟩ =>
  ⟨_,.sl key a n c,.own key a n c T sz xs::L,hx,rfl,R.call (L0:=[]) (L1:=[.own key a n c T sz xs]) (Lr:=L) hR hR'.rekey,hk a c⟩
theorem In.own {key:Nat} {o:Own} {w:World} (hR:R w0 fp0 L w) (h:zL key L=some o):In w [] o.a o.xs:=by
 by_cases hx:o.xs=[]
 ·exact .inl hx
 ·have h0:0<o.xs.length:=List.length_pos_iff.2 hx
  obtain ⟨v0,hv0⟩:∃ v,o.xs[0]?=some v:=⟨o.xs[0],by simp [h0]⟩
  obtain ⟨g,ha,hc0⟩:=x9 hR h hv0
  refine .inr ⟨g,0,ha,?_,by simp,fun j v hv=>?_⟩
  ·obtain ⟨g',cur,ha',hg,_⟩:=jI (xp hR h) h0
   rw [ha] at ha'
   simp only [g3q,Addr.mk.injEq,and_true] at ha'
   subst ha'
   exact (Array.getElem?_eq_some_iff.1 hg).1
  ·obtain ⟨g',ha',hc⟩:=x9 hR h hv
   rw [ha] at ha'
   simp only [g3q,Addr.mk.injEq,and_true] at ha'
   subst ha'
   rw [Nat.zero_add];exact hc
theorem In.ownR {key:Nat} {a:Option Addr} {n c T sz:Nat} {xs:List Value} {w:World} (hR:R w0 fp0 L w) (h:zL key L=some ⟨a,n,c,T,sz,xs⟩):In w [] a xs:=In.own hR h
theorem yM {k:IntKind} {zs:List Int} {i:Nat} (h:i<zs.length):(zu k zs)[i]?=some (.int k (zs.getD i 0)):=by
 simp [zu,h]
theorem rdI {k:IntKind} {a:Option Addr} {zs:List Int} {i:Nat} (hx:In w0 fp0 a (zu k zs)) (h:i<zs.length):Rd w0 fp0 L (.el a i) [.int k (zs.getD i 0)] :=
 hx.rd (yM h)
theorem neI {k:IntKind} {a:Option Addr} {zs:List Int} (hx:In w0 fp0 a (zu k zs)) (h:0<zs.length):a≠Option.none:=hx.ne' (k:=0) (by rw [ints_length];exact h)
theorem kj {k:IntKind} {zs:List Int} {i:Nat} (h:i<zs.length):isK (.int k) (zu k zs) i:=by
 simp only [isK,zeQ,atL,yM h,Option.getD_some,intOf]
theorem vN {k:IntKind} {zs:List Int} {i:Nat} (h:i<zs.length):intOf (atL (zu k zs) i)=zs.getD i 0:=by
 simp only [atL,yM h,Option.getD_some,intOf]
theorem za7 {k:IntKind} {zs:List Int} {z:Int}:zu k zs++[.int k z]=zu k (zs++[z]):=by simp [zu]
theorem zdn {α:Type} {l:List α} {g d:α} {n:Nat} (h:n=l.length):(l++[g]).getD n d=g:=by
 subst h;simp
end
theorem vS {a b:Prop} (k:b) (h:a:=by first|exact rfl|exact ze (by omega)|exact ze (by (dsimp only;omega))|exact zf (by omega)|exact zf (by first|(dsimp only;omega)|(simp;done)|(simp;omega))):a/\b:=⟨h,k⟩
theorem pay {a b:Prop} (k:b) (h:a:=by first|omega|exact rfl|assumption|exact ⟨rfl,rfl,rfl,rfl,rfl⟩|exact ⟨rfl,rfl,rfl,rfl⟩|exact ⟨rfl,by omega⟩|exact jL rfl|exact ⟨rfl,jL rfl⟩|exact Ref.refl _|exact Thin.ref (.skip (.refl _))|exact Thin.ref (.skip (.skip (.refl _)))|exact ⟨rfl,Nat.le_of_ble_eq_true rfl⟩|((try unfold maxLen);(try simp only [List.length_nil,List.length_cons,g6q]);omega)|(refine ⟨rfl,?_⟩;(try simp only [List.length_nil,List.length_cons,g6q]);omega)):a/\b:=⟨h,k⟩
theorem puK {P:Program} {w0:World} {fp0:List Nat} {L:List Ent} {f:FuncId} {args:List Value} {k:SV->List Ent->Prop} {v:Value} (c:∀ w,Calls P f args.toArray w fun x w'=>x=.returned v/\Ext w w') (hk:k (.v v) L):zT P w0 fp0 f args L k:=zm (.v v) (fun w _=>c w) hk
theorem quK {P:Program} {w0:World} {fp0:List Nat} {L:List Ent} {f:FuncId} {args:List Value} {k:SV->Prop} {v:Value} (c:∀ w,Calls P f args.toArray w fun x w'=>x=.returned v/\Ext w w') (hk:k (.v v)):yE P w0 fp0 f args L k:=yF (.v v) (fun w _=>c w) hk
section
variable {P:Program} {w0 w w':World} {fp0:List Nat} {L:List Ent}
def packE (key:Nat) (fp:List Nat) {α:Type} (f:α->List Ent):Ent:=.abs key fp fun w=>∃ x,fps (f x)=fp/\∀ e∈f x,e.ok w
theorem R.unpack {key:Nat} {fp:List Nat} {α:Type} {f:α->List Ent} (h:R w0 fp0 (packE key fp f::L) w):∃ x,fps (f x)=fp/\R w0 fp0 (f x++L) w:=by
 obtain ⟨x,hx,hok⟩:=Ent.abs_ok (h.ok _ g5q)
 have hnd:=h.nodup
 have hrg:=h.range
 rw [zH] at hnd hrg
 simp only [packE,Ent.fp] at hnd hrg
 refine ⟨x,hx,h.os,h.tape,h.output,h.drawn,h.size,h.old,?_,?_,?_⟩
 ·rw [yY,hx];exact hnd
 ·intro b hb
  rw [yY,hx] at hb
  exact hrg b hb
 ·intro e he
  rcases List.mem_append.1 he with he|he
  ·exact hok e he
  ·exact h.ok e (g4q _ he)
theorem zvt {key:Nat} {α:Type} {f:α->List Ent} (x:α) (h:∀ e∈f x,e.ok w):(packE key (fps (f x)) f).ok w:=by
 intro w' hs
 exact ⟨x,rfl,fun e he=>Ent.ok_same (h e he) fun b hb=>hs b (List.mem_flatMap.2 ⟨e,he,hb⟩)⟩
theorem R.pack {key:Nat} {α:Type} {f:α->List Ent} (x:α) (h:R w0 fp0 (f x++L) w):R w0 fp0 (packE key (fps (f x)) f::L) w:=by
 have hnd:=h.nodup
 have hrg:=h.range
 rw [yY] at hnd hrg
 refine ⟨h.os,h.tape,h.output,h.drawn,h.size,h.old,?_,?_,?_⟩
 ·rw [zH];exact hnd
 ·intro b hb;rw [zH] at hb;exact hrg b hb
 ·intro e he
  rcases List.mem_cons.1 he with rfl|he
  ·exact zvt x fun e he=>h.ok e (List.mem_append_left _ he)
  ·exact h.ok e (List.mem_append_right _ he)
def qP (key:Nat):List Ent->Option (Ent × List Ent)
 | []=>none
 | .abs k fp ok::L=>if k=key then some (.abs k fp ok,L) else (qP key L).map fun p=>(p.1,.abs k fp ok::p.2)
 | e::L=>(qP key L).map fun p=>(p.1,e::p.2)
theorem zV {key:Nat}:∀ {L:List Ent} {e:Ent} {Lr:List Ent},qP key L=some (e,Lr)->L.Perm (e::Lr):=by
 intro L
 induction L with
 | nil=>intro e Lr h;cases h
 | cons e0 L ih =>
   have gen:∀ {e Lr},((qP key L).map fun p=>(p.1,e0::p.2))=some (e,Lr)->(e0::L).Perm (e::Lr):=fun {e Lr} h=>by
    obtain ⟨p,hp,h⟩:=Option.map_eq_some_iff.1 h
    simp only [Prod.mk.injEq] at h
    obtain ⟨rfl,rfl⟩:=h
    exact ((ih hp).cons _).trans (.swap _ _ _)
   intro e Lr h
   cases e0 with
   | abs k fp ok =>
     simp only [qP] at h
     split at h
     ·simp only [g3q,Prod.mk.injEq] at h
      obtain ⟨rfl,rfl⟩:=h
      exact .refl _
     ·exact gen h
   | box=>exact gen h
   | own=>exact gen h
   | mapE=>exact gen h
theorem zbC {f:FuncId} {args:List Value} {k:SV->List Ent->Prop} {L0 Lr:List Ent} {Q:Value->List Ent->Prop} (hp:L.Perm (L0++Lr))
 (h:∀ w,R w0 fp0 (L0++Lr) w->R w (fps L0) L0 w->Calls P f args.toArray w fun e w'=>∃ v L1,e=.returned v/\R w (fps L0) L1 w'/\Q v L1)
 (hk:∀ v L1,Q v L1->∃ s:SV,s.val=v/\k s (L1++Lr)):zT P w0 fp0 f args L k:=fun w hR =>
 (h w (hR.perm hp) (hR.perm hp).restart).mono fun e w' ⟨v,L1,he,hR',hq⟩=>by
  obtain ⟨s,hs,hk⟩:=hk v L1 hq
  exact ⟨v,s,L1++Lr,he,hs,R.call (hR.perm hp) hR',hk⟩
theorem qa {f:FuncId} {args:List Value} {k:SV->List Ent->Prop} {key:Nat} {fp:List Nat} {α:Type} {fA:α->List Ent} {Lr:List Ent} {Q:Value->List Ent->Prop} (hp:qP key L=some (packE key fp fA,Lr))
 (h:∀ w,R w0 fp0 (packE key fp fA::Lr) w->R w fp [packE key fp fA] w->Calls P f args.toArray w fun e w'=>∃ v L1,e=.returned v/\R w fp L1 w'/\Q v L1)
 (hk:∀ v L1,Q v L1->∃ s:SV,s.val=v/\k s (L1++Lr)):zT P w0 fp0 f args L k:=by
 have e1:fps [packE key fp fA]=fp:=by simp [packE,Ent.fp,fps]
 refine zbC (L0:=[packE key fp fA]) (zV hp) (fun w hR hR0=>?_) hk
 rw [e1] at hR0 ⊢
 exact h w hR hR0
theorem kU {f:Nat} {fl:List Nat} {ts:List (Nat × Tr)} {n:Nat} {rs:List RV} {c:C} {key:Nat} {fp:List Nat} {α:Type} {fA:α->List Ent} {Q:Value->List Ent->Prop} (l:List SV) (hir:zt P f fl ts=some (n,rs,c)) (hl:l.length<=n)
 (hR:R w fp [packE key fp fA] w) (h:∀ x,fps (fA x)=fp->R w fp (fA x) w->VC P w fp c (fnK rs fun v L'=>∃ L1,Ref w fp L' L1/\Q v L1) (uc 0 l) (fA x)) :
 Calls P f (l.map SV.val).toArray w fun e w'=>∃ v L1,e=.returned v/\R w fp L1 w'/\Q v L1:=by
 obtain ⟨x,hx,hR'⟩:=hR.unpack
 rw [List.append_nil] at hR'
 exact (jv l hir hl hR' (h x hx hR')).mono fun e w' ⟨v,L',he,hR2,L1,href,hq⟩=>⟨v,L1,he,href w' hR2,hq⟩
theorem zr {f:Nat} {fl:List Nat} {ts:List (Nat × Tr)} {n:Nat} {rs:List RV} {c:C} {fp:List Nat} {L0:List Ent} {Q:Value->List Ent->Prop} (l:List SV) (hir:zt P f fl ts=some (n,rs,c)) (hl:l.length<=n)
 (hR:R w fp L0 w) (h:VC P w fp c (fnK rs fun v L'=>∃ L1,Ref w fp L' L1/\Q v L1) (uc 0 l) L0) :
 Calls P f (l.map SV.val).toArray w fun e w'=>∃ v L1,e=.returned v/\R w fp L1 w'/\Q v L1 :=
 (jv l hir hl hR h).mono fun e w' ⟨v,L',he,hR2,L1,href,hq⟩=>⟨v,L1,he,href w' hR2,hq⟩
theorem zQ {f:Nat} {fl:List Nat} {ts:List (Nat × Tr)} {n:Nat} {rs:List RV} {c:C} {Q:Value->List Ent->Prop} (l:List SV) (hir:zt P f fl ts=some (n,rs,c)) (hl:l.length<=n)
 (h:VC P w [] c (fnK rs fun v L'=>∃ L1,Ref w [] L' L1/\Q v L1) (uc 0 l) []) :
 Calls P f (l.map SV.val).toArray w fun e w'=>∃ v L1,e=.returned v/\R w [] L1 w'/\Q v L1 :=
 (jv l hir hl (R.start0 w) h).mono fun e w' ⟨v,L',he,hR2,L1,href,hq⟩=>⟨v,L1,he,href w' hR2,hq⟩
theorem zz {f:FuncId} {args:List Value} {k:SV->List Ent->Prop} {Q:Value->List Ent->Prop}
 (h:∀ w,R w0 fp0 L w->Calls P f args.toArray w fun e w'=>∃ v L1,e=.returned v/\R w [] L1 w'/\Q v L1)
 (hk:∀ v L1,Q v L1->∃ s:SV,s.val=v/\k s (L1++L)):zT P w0 fp0 f args L k :=
 zbC (L0:=[]) (Lr:=L) (.refl _) (fun w hR _=>h w hR) hk
theorem Ref.pack {key:Nat} {α:Type} {f:α->List Ent} (x:α) (h:Thin L (f x)):Ref w0 fp0 L [packE key (fps (f x)) f]:=fun w hR=>by
 have:=h.ref w hR
 rw [←List.append_nil (f x)] at this
 exact this.pack x
theorem Ref.packs {key:Nat} {α:Type} {f:α->List Ent} {Lr:List Ent} (x:α) (h:Thin L (f x++Lr)):Ref w0 fp0 L (packE key (fps (f x)) f::Lr):=fun w hR=>(h.ref w hR).pack x
theorem Thin.map {k k' b:Nat} {kk:KK} {m m':List (Value × Value)} {L L':List Ent} (hx:m=m') (h:Thin L L'):Thin (.mapE k b kk m::L) (.mapE k' b kk m'::L'):=by
 subst hx
 exact .keep rfl (fun _ h=>h) h
theorem Thin.packE {k k':Nat} {fp:List Nat} {α:Type} {f:α->List Ent} {L L':List Ent} (h:Thin L L'):Thin (packE k fp f::L) (packE k' fp f::L') :=
 .keep rfl (fun _ h=>h) h
theorem zau {o:Option Value} {v:Value} {A:Value->Prop} {B:Prop} (h:o=some v) (hA:A v):Stop ((∀ v,o=some v->A v)/\(o=none->B)) :=
 ⟨(fun v' hv=>by rw [h] at hv;cases hv;exact hA),fun hn=>by rw [h] at hn;cases hn⟩
theorem jO {o:Option Value} {A:Value->Prop} {B:Prop} (h:o=none) (hB:B):Stop ((∀ v,o=some v->A v)/\(o=none->B)) :=
 ⟨(fun v' hv=>by rw [h] at hv;cases hv),fun _=>hB⟩
theorem Rd.own {key:Nat} {a:Option Addr} {n c T sz i:Nat} {xs vs:List Value} (h:zL key L=some ⟨a,n,c,T,sz,xs⟩) (h0:0<vs.length) (hv:(xs.drop i).take vs.length=vs):Rd w0 fp0 L (.el a i) vs:=by
 intro w hR
 have hget:∀ j v,vs[j]?=some v->xs[i+j]?=some v:=fun j v hj=>by
  rw [←hv,List.getElem?_take] at hj
  split at hj
  ·simpa using hj
  ·cases hj
 obtain ⟨v0,hv0⟩:∃ v,vs[0]?=some v:=⟨vs[0],by simp [h0]⟩
 obtain ⟨g,ha,_⟩:=x9 hR h (hget 0 v0 hv0)
 refine ⟨g,i,by simp only at ha;simp [SV.val,ha,qo],fun j v hj=>?_⟩
 obtain ⟨g',ha',hc⟩:=x9 hR h (hget j v hj)
 rw [ha] at ha'
 simp only [g3q,Addr.mk.injEq,and_true] at ha'
 subst ha'
 exact hc
theorem znE {key:Nat} {a:Option Addr} {n c T sz:Nat} {xs:List Value} (hR:R w0 fp0 L w) (h:zL key L=some ⟨a,n,c,T,sz,xs⟩) (hx:0<n):a≠none:=by
 have:=xp hR h
 rcases this.2 with ⟨_,h3⟩|⟨g,cap,cur,h2,_⟩
 ·simp only at h3;omega
 ·simp only [Value.slice.injEq] at h2
  rw [h2.1];simp
theorem In.beside {key kp:Nat} {fp:List Nat} {ok:World->Prop} {a:Option Addr} {n c T sz:Nat} {xs:List Value} {Lr:List Ent} (hR:R w0 fp0 (.abs kp fp ok::Lr) w) (h:zL key Lr=some ⟨a,n,c,T,sz,xs⟩):In w fp a xs:=by
 have h1:In w [] a xs:=In.ownR (key:=key) hR.tail h
 rcases h1 with h1|⟨b,off,ha,hb,_,hc⟩
 ·exact .inl h1
 ·refine .inr ⟨b,off,ha,hb,fun hm=>?_,hc⟩
  obtain ⟨L',h1,_⟩:=yC h
  have hnd:=hR.nodup
  rw [zH] at hnd
  have hin:b∈fps Lr:=by
   refine (zic h1).mem_iff.2 ?_
   rw [zH]
   refine List.mem_append_left _ ?_
   simp [Ent.fp,Value.ownBlock,ha]
  exact (List.nodup_append.1 hnd).2.2 b hm b hin rfl
end
section
variable {P:Program} {w0 w w':World} {fp0:List Nat} {L:List Ent}
theorem zpq {f:FuncId} {args:List Value} {k:SV->List Ent->Prop} {key key':Nat} {fp:List Nat} {α β:Type} {fA:α->List Ent} {fB:β->List Ent} {Lr:List Ent} {r:Value} (hp:qP key L=some (packE key fp fA,Lr))
 (h:∀ w,R w0 fp0 (packE key fp fA::Lr) w->R w fp [packE key fp fA] w->Calls P f args.toArray w fun e w'=>∃ v L1,e=.returned v/\R w fp L1 w'/\v=r/\∃ fp',L1=[packE key' fp' fB])
 (hk:∀ x w',R w0 fp0 (fB x++Lr) w'->∃ s:SV,s.val=r/\k s (fB x++Lr)):zT P w0 fp0 f args L k:=fun w hR=>by
 have e1:fps [packE key fp fA]=fp:=by simp [packE,Ent.fp,fps]
 have hR1:R w0 fp0 ([packE key fp fA]++Lr) w:=hR.perm (zV hp)
 have h0:=hR1.restart
 rw [e1] at h0
 refine (h w hR1 h0).mono fun e w' ⟨v,L1,he,hR',hv,fp',hL1⟩=>?_
 subst hv hL1
 rw [←e1] at hR'
 obtain ⟨x,_,hR2⟩:=(R.call hR1 hR').unpack
 obtain ⟨s,hs,hk⟩:=hk x w' hR2
 exact ⟨v,s,fB x++Lr,he,hs,hR2,hk⟩
theorem In.rdn {a:Option Addr} {xs vs:List Value} {k:Nat} (h:In w0 fp0 a xs) (h0:0<vs.length) (hv:(xs.drop k).take vs.length=vs):Rd w0 fp0 L (.el a k) vs:=by
 have hget:∀ j v,vs[j]?=some v->xs[k+j]?=some v:=fun j v hj=>by
  rw [←hv,List.getElem?_take] at hj
  split at hj
  ·simpa using hj
  ·cases hj
 intro w hR
 rcases h with rfl|⟨b,off,rfl,h1,h2,h3⟩
 ·have:=hget 0 vs[0] (by simp [h0])
  simp at this
 ·refine ⟨b,off+k,by simp [SV.val,qo],fun j u hu=>?_⟩
  rw [jw (w:=w0) (hR.old b h1 h2),Nat.add_assoc]
  exact h3 _ u (hget j u hu)
theorem zgn {f:FuncId} {args:List Value} {k:SV->List Ent->Prop} {L':List Ent} (hr:Ref w0 fp0 L L') (h:zT P w0 fp0 f args L' k):zT P w0 fp0 f args L k:=fun w hR=>h w (hr w hR)
theorem yX {f:FuncId} {args:List Value} {k:SV->List Ent->Prop} {key1 key2:Nat} {fp1 fp2:List Nat} {α β:Type} {fA:α->List Ent} {fB:β->List Ent} {Lr1 Lr:List Ent} {Q:Value->List Ent->Prop} (hp1:qP key1 L=some (packE key1 fp1 fA,Lr1)) (hp2:qP key2 Lr1=some (packE key2 fp2 fB,Lr))
 (h:∀ w,R w0 fp0 (packE key1 fp1 fA::packE key2 fp2 fB::Lr) w->R w (fp1++fp2) [packE key1 fp1 fA,packE key2 fp2 fB] w->Calls P f args.toArray w fun e w'=>∃ v L1,e=.returned v/\R w (fp1++fp2) L1 w'/\Q v L1)
 (hk:∀ v L1,Q v L1->∃ s:SV,s.val=v/\k s (L1++Lr)):zT P w0 fp0 f args L k:=by
 have e1:fps [packE key1 fp1 fA,packE key2 fp2 fB]=fp1++fp2:=by simp [packE,Ent.fp,fps]
 refine zbC (L0:=[packE key1 fp1 fA,packE key2 fp2 fB]) ((zV hp1).trans ((zV hp2).cons _)) (fun w hR hR0=>?_) hk
 rw [e1] at hR0 ⊢
 exact h w hR hR0
theorem Thin.abs {k k':Nat} {fp:List Nat} {ok:World->Prop} {L L':List Ent} (h:Thin L L'):Thin (.abs k fp ok::L) (.abs k' fp ok::L') :=
 .keep rfl (fun _ h=>h) h
theorem yI {A B:Prop} (h:A) (k:B):Stop (A/\B):=⟨⟨h,k⟩⟩
def zmY:LK->Value->Bool
 | .int k,.int k' _=>decide (k=k')
 | .bool,.bool _=>true
 | .str,.string _=>true
 | .ptr,.pointer _=>true
 | .slc,.slice ..=>true
 | .map,.map _=>true
 | .raw,_=>true
 | _,_=>false
theorem zdo {lk:LK} {v:Value} (h:zmY lk v=true):zeQ lk v=v:=by
 unfold zmY at h
 split at h
 ·simp only [decide_eq_true_eq] at h;subst h;rfl
 ·rfl
 ·rfl
 ·rfl
 ·rfl
 ·rfl
 ·rfl
 ·cases h
def zjH:List LK->List Value->Bool
 | [],[]=>true
 | k::ks,v::vs=>zmY k v&&zjH ks vs
 | _,_=>false
theorem zhS {lk:LK} {v:Value} {K:Value->Prop} (h:K (zeQ lk v)):zjz lk v K:=by cases lk<;>exact h
theorem ze2:∀ {ks:List LK} {xs vs:List Value} {i:Nat},(xs.drop i).take ks.length=vs->zjH ks vs=true->zhb ks xs i/\∀ {K:List Value->Prop},K vs->zeR ks xs i K
 | [],xs,vs,i,h,hk => by
   simp at h;subst h
   exact ⟨trivial,fun h=>h⟩
 | k :: ks,xs,vs,i,h,hk => by
   cases vs with
   | nil=>cases hk
   | cons v vs =>
     simp only [zjH,Bool.and_eq_true] at hk
     have hv:xs[i]?=some v:=by
      have:=congrArg (fun l=>l[0]?) h
      simpa using this
     have hlt:i<xs.length:=(List.getElem?_eq_some_iff.1 hv).1
     have hvs:(xs.drop (i+1)).take ks.length=vs:=by
      rw [List.drop_eq_getElem_cons hlt,List.length_cons,List.take_succ_cons] at h
      exact (List.cons.inj h).2
     obtain ⟨h1,h2⟩:=ze2 hvs hk.2
     have ha:atL xs i=v:=by simp [atL,hv]
     refine ⟨⟨?_,h1⟩,fun hK=>?_⟩
     ·unfold isK;rw [ha,zdo hk.1,hv]
     ·refine zhS (K:=fun v=>zeR ks xs (i+1) fun l=>_) ?_
      rw [ha,zdo hk.1]
      exact h2 hK
theorem uT {ks:List LK} {xs vs:List Value} {i n:Nat} {oa a:Option Addr} {K:List Value->Prop} (h:(xs.drop i).take n=vs) (hK:K vs) (ha:oa=a:=by rfl) (hn:ks.length=n:=by rfl) (hk:zjH ks vs=true:=by rfl):oa=a/\ks.length=n/\zhb ks xs i/\zeR ks xs i K:=by
 subst hn
 obtain ⟨h1,h2⟩:=ze2 h hk
 exact ⟨ha,rfl,h1,h2 hK⟩
theorem zek {lk:LK} {xs:List Value} {v:Value} {i:Nat} {oa a:Option Addr} {K:Value->Prop} (h:xs[i]?=some v) (hK:K v) (ha:oa=a:=by rfl) (hk:zmY lk v=true:=by rfl):oa=a/\isK lk xs i/\zjz lk (atL xs i) K:=by
 have hv:atL xs i=v:=by simp [atL,h]
 refine ⟨ha,?_,?_⟩
 ·unfold isK;rw [hv,zdo hk,h]
 ·refine zhS ?_
  rw [hv,zdo hk];exact hK
theorem In.box {key b T:Nat} {cs:List Value} (hR:R w0 fp0 L w) (h:yh key L=some (b,cs,T)):In w [] (some ⟨b,0,none⟩) cs:=by
 by_cases hx:cs=[]
 ·exact .inl hx
 ·refine .inr ⟨b,0,rfl,?_,by simp,fun j v hv=>?_⟩
  ·obtain ⟨L',h1,_⟩:=vI h
   exact ((hR.perm h1).range b (by rw [zH];exact List.mem_append_left _ (by simp [Ent.fp]))).2
  ·rw [Nat.zero_add,zci hR h];exact hv
end
end
section
open Go.ChangeShapes Go.WideShapes Go.ChangeAt Go.RowKit
theorem zwj {n:Int} (h:(Lit.int .u64 n).wf=true):0<=n/\n<=18446744073709551615:=by
 simp only [Lit.wf,Bool.and_eq_true,decide_eq_true_eq] at h
 exact h
theorem zxC {n:Int} (h:(Lit.int .u8 n).wf=true):0<=n/\n<=255:=by
 simp only [Lit.wf,Bool.and_eq_true,decide_eq_true_eq] at h
 exact h
section
variable {H:Type} {enc:TypeId × Value->H} {P:Program} {w:World} {base:Nat} {spare:Nat->Bool} {held:Bool}
end
theorem zhT {n:Nat} (hn:0<n):∀ {rows:List (List Value)} {k:Nat},(∀ vs∈rows,vs.length=n)->rows.flatten[k]?=(rows[k/n]?).bind (·[k%n]?)
 | [],k,_=>by simp
 | r :: rows,k,h => by
   have hr:=h r g5q
   rw [List.flatten_cons]
   by_cases hk:k<n
   ·rw [List.getElem?_append_left (by omega),Nat.div_eq_of_lt hk,Nat.mod_eq_of_lt hk];rfl
   ·rw [List.getElem?_append_right (by omega),hr,zhT hn fun vs hv=>h vs (g4q _ hv)]
    have e1:k/n=(k - n)/n+1:=by
     conv=>lhs;rw [show k=(k - n)+n by omega]
     rw [Nat.add_div_right _ hn]
    have e2:k%n=(k - n)%n:=by
     conv=>lhs;rw [show k=(k - n)+n by omega]
     rw [Nat.add_mod_right]
    rw [e1,e2,List.getElem?_cons_succ]
end
end Go.EG
