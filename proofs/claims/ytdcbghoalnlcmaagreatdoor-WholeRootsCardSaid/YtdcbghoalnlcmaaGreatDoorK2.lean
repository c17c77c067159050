/- Each compiled operation does what its small form hands on. Generic over the program: no condition. -/
import Derived.Test.YtdcbghoalnlcmaaGreatDoorK1
import Derived.Deep.LoopGhost
import Derived.ProofKit
import Derived.OpenShut
import Derived.ShutString
import Derived.ChangeOld
import Derived.Below
import Derived.SizedLaws
import Derived.DataElems
set_option linter.unusedSectionVars false
set_option linter.unusedVariables false
set_option linter.unusedSimpArgs false
namespace Go.EG
section
open Go.RowKit
section
variable {P:Program} {w0:World} {fp0:List Nat} {n:Nat} {ds:List Deferred} {e:Env} {a:Act} {L:List Ent} {w:World} {k:SV->List Ent->Prop} {o:Oper} {i:I} {fl:Bool}
theorem zlB (hc:cI P fl o.dst o.op=some i) (hA:Agree n ds e a) (hR:R w0 fp0 L w) (h:VI P w0 fp0 i e L k):zn0 P w0 fp0 o a w i k:=by
 cases ho:o.op with
 | move x=>rw [ho] at hc;simp only [cI,g3q] at hc;subst hc;exact .inl (zq7 x (.inl ho) hA hR h)
 | assign x=>rw [ho] at hc;simp only [cI,g3q] at hc;subst hc;exact .inl (zq7 x (.inr ho) hA hR h)
 | pick c x y=>rw [ho] at hc;simp only [cI,g3q] at hc;subst hc;exact .inl (zsZ c x y ho hA hR h)
 | alloc t =>
   rw [ho] at hc;simp only [cI] at hc
   split at hc
   ·rename_i j hj
    split at hc
    ·rename_i z hz
     simp only [g3q] at hc;subst hc
     exact .inr (.inl ⟨rfl,zuj ho hj hz hA hR h⟩)
    ·cases hc
   ·cases hc
 | box t x=>rw [ho] at hc;simp only [cI,g3q] at hc;subst hc;exact .inr (.inl ⟨rfl,zuk ho hA hR h⟩)
 | build t ps =>
   rw [ho] at hc;simp only [cI] at hc
   split at hc
   ·rename_i fs j ht hj
    split at hc
    ·cases hc
    ·rename_i hall
     split at hc
     ·rename_i z hz
      obtain ⟨l,hl,rfl⟩:=Option.map_eq_some_iff.1 hc
      exact .inl (zum ho ht hj hz (by simpa only [Bool.not_eq_false] using hall) hl hA hR h)
     ·cases hc
   ·rename_i m el j ht hj
    split at hc
    ·rename_i je z hje hz
     split at hc
     ·rename_i hcond
      simp only [g3q] at hc;subst hc
      exact .inl (zun ho ht hj hje hz hcond.1 hcond.2 hA hR h)
     ·cases hc
    ·cases hc
   ·cases hc
 | buildSlice t m ps =>
   rw [ho] at hc;simp only [cI] at hc
   split at hc
   ·rename_i el ht
    split at hc
    ·rename_i j hj
     split at hc
     ·rename_i z hz
      split at hc
      ·rename_i hcond
       simp only [g3q] at hc;subst hc
       exact .inr (.inl ⟨rfl,zuo ho ht hj hz hcond.1 hcond.2.1 hcond.2.2.1 hcond.2.2.2 hA hR h⟩)
      ·cases hc
     ·cases hc
    ·cases hc
   ·cases hc
 | load t x =>
   rw [ho] at hc;simp only [cI] at hc
   split at hc
   ·rename_i lk hlk
    simp only [g3q] at hc;subst hc
    exact .inl (zwh ho hlk hA hR h)
   ·split at hc
    ·rename_i fs j ht hj
     split at hc
     ·rename_i hpos
      simp only [g3q] at hc;subst hc
      exact .inl (zn3 ho (.inl ⟨_,ht⟩) hj hpos hA hR h)
     ·cases hc
    ·rename_i m el j ht hj
     split at hc
     ·rename_i hpos
      simp only [g3q] at hc;subst hc
      exact .inl (zn3 ho (.inr ⟨_,_,ht⟩) hj hpos hA hR h)
     ·cases hc
    ·cases hc
 | store t x y =>
   rw [ho] at hc;simp only [cI] at hc
   split at hc
   ·rename_i j hj
    split at hc
    ·rename_i hpos
     simp only [g3q] at hc;subst hc
     exact .inr (.inr (.inl ⟨rfl,zwj ho hj hpos hA hR h⟩))
    ·cases hc
   ·cases hc
 | nilCheck x=>rw [ho] at hc;simp only [cI,g3q] at hc;subst hc;exact .inl (zug ho hA hR h)
 | binOp op t x y yt =>
   rw [ho] at hc;simp only [cI] at hc
   split at hc
   ·rename_i kd ht
    split at hc
    ·rename_i hop
     simp only [g3q] at hc;subst hc
     cases fl
     ·exact .inl (zq8 ho hop hA hR (.inl h))
     ·exact .inl (zq8 ho hop hA hR (.inr h))
    ·split at hc
     ·rename_i hop
      simp only [g3q] at hc;subst hc
      exact .inl (zt8 ho hop hA hR h)
     ·split at hc
      ·rename_i hop
       split at hc
       ·simp only [g3q] at hc;subst hc
        exact .inl (zua ho hA hR h)
       ·simp only [g3q] at hc;subst hc
        exact .inl (zt9 ho hop hA hR h)
      ·split at hc
       ·simp only [g3q] at hc;subst hc
        cases fl
        ·exact .inl (ziI ho (rem:=false) rfl hA hR (.inl h))
        ·exact .inl (ziI ho (rem:=false) rfl hA hR (.inr h))
       ·simp only [g3q] at hc;subst hc
        cases fl
        ·exact .inl (ziI ho (rem:=true) rfl hA hR (.inl h))
        ·exact .inl (ziI ho (rem:=true) rfl hA hR (.inr h))
       ·simp only [g3q] at hc;subst hc
        exact .inl (zq9 ho (left:=true) rfl hA hR h)
       ·simp only [g3q] at hc;subst hc
        exact .inl (zq9 ho (left:=false) rfl hA hR h)
       ·cases hc
   ·rename_i ht
    split at hc
    ·simp only [g3q] at hc;subst hc;exact .inl (zn1 ho (ng:=false) rfl ht hA hR h)
    ·simp only [g3q] at hc;subst hc;exact .inl (zn1 ho (ng:=true) rfl ht hA hR h)
    ·cases hc
   ·rename_i ht
    unfold zt7 at hc
    split at hc
    ·simp only [g3q] at hc;subst hc;exact .inl (zn2 ho (ng:=false) rfl hA hR h)
    ·simp only [g3q] at hc;subst hc;exact .inl (zn2 ho (ng:=true) rfl hA hR h)
    ·simp only [g3q] at hc;subst hc;exact .inl (zuI ho hA hR h)
    ·cases hc
   ·rename_i m el ht
    split at hc
    ·rename_i kd j hu hj
     split at hc
     ·rename_i hcond
      split at hc
      ·simp only [g3q] at hc;subst hc;exact .inl (zn8 ho (ng:=false) rfl ht hu hj hcond.1 hcond.2 hA hR h)
      ·simp only [g3q] at hc;subst hc;exact .inl (zn8 ho (ng:=true) rfl ht hu hj hcond.1 hcond.2 hA hR h)
      ·cases hc
     ·cases hc
    ·cases hc
   ·rename_i fs ht
    split at hc
    ·rename_i hcond
     split at hc
     ·rename_i ks hks
      split at hc
      ·simp only [g3q] at hc;subst hc;exact .inl (zn7 ho (ng:=false) rfl ht hcond.1 hcond.2 hks hA hR h)
      ·simp only [g3q] at hc;subst hc;exact .inl (zn7 ho (ng:=true) rfl ht hcond.1 hcond.2 hks hA hR h)
      ·cases hc
     ·cases hc
    ·cases hc
   ·split at hc
    ·rename_i nk hnk
     split at hc
     ·rename_i hnil
      split at hc
      ·simp only [g3q] at hc;subst hc;exact .inl (zn4 ho (ng:=false) rfl hnk hnil hA hR h)
      ·simp only [g3q] at hc;subst hc;exact .inl (zn4 ho (ng:=true) rfl hnk hnil hA hR h)
      ·cases hc
     ·split at hc
      ·rename_i el hel
       split at hc
       ·rename_i j hj
        split at hc
        ·rename_i hpos
         split at hc
         ·simp only [g3q] at hc;subst hc;exact .inl (zn9 ho (ng:=false) rfl hel hj hpos hA hR h)
         ·simp only [g3q] at hc;subst hc;exact .inl (zn9 ho (ng:=true) rfl hel hj hpos hA hR h)
         ·cases hc
        ·cases hc
       ·cases hc
      ·cases hc
    ·cases hc
 | unOp u t x =>
   rw [ho] at hc
   cases u with
   | not=>simp only [cI,g3q] at hc;subst hc;exact .inl (zub ho hA hR h)
   | neg =>
     simp only [cI] at hc
     split at hc
     ·simp only [g3q] at hc;subst hc;exact .inl (zuc ho hA hR h)
     ·cases hc
   | xor =>
     simp only [cI] at hc
     split at hc
     ·simp only [g3q] at hc;subst hc;exact .inl (zud ho hA hR h)
     ·cases hc
   | _=>simp [cI] at hc
 | convert s t x =>
   rw [ho] at hc;simp only [cI] at hc
   split at hc
   ·rename_i ks kd hs ht
    simp only [g3q] at hc;subst hc
    cases fl
    ·exact .inl (zra ho hs ht hA hR (.inl h))
    ·exact .inl (zra ho hs ht hA hR (.inr h))
   ·rename_i e0 hs ht
    split at hc
    ·rename_i he
     simp only [g3q] at hc;subst hc
     exact .inl (zuB ho hs he ht hA hR h)
    ·cases hc
   ·rename_i e0 hs ht
    split at hc
    ·rename_i he
     simp only [g3q] at hc;subst hc
     rcases zrN (o.dst.getD 0) x with ⟨bs,rfl,e⟩|e<;>rw [e] at h ⊢
     ·exact .inr (.inl ⟨rfl,zuD ho hs ht he hA hR h⟩)
     ·exact .inr (.inl ⟨rfl,zuK ho hs ht he hA hR h⟩)
    ·cases hc
   ·rename_i e1 e0 hs ht
    split at hc
    ·rename_i he
     split at hc
     ·rename_i hst
      subst hst
      simp only [g3q] at hc;subst hc
      exact .inr (.inl ⟨rfl,zuE ho ht he hA hR h⟩)
     ·cases hc
    ·cases hc
   ·cases hc
 | makeInterface t x =>
   rw [ho] at hc;simp only [cI] at hc
   split at hc
   ·cases hc
   ·cases hc
   ·rename_i d hd hn
    simp only [g3q] at hc;subst hc
    exact .inl (zuf ho hn (fun ms he=>by subst he;exact hd _ rfl) hA hR h)
 | makeFunc fn first captured=>rw [ho] at hc;simp only [cI,g3q] at hc;subst hc;exact .inl (zul ho hA hR h)
 | makeSlice t x y =>
   rw [ho] at hc;simp only [cI] at hc
   split at hc
   ·rename_i el ht
    split at hc
    ·rename_i j hj
     split at hc
     ·rename_i z hz
      split at hc
      ·rename_i hcond
       simp only [g3q] at hc;subst hc
       exact .inr (.inl ⟨rfl,zuq ho ht hj hz hcond.1 hcond.2 hA hR h⟩)
      ·cases hc
     ·cases hc
    ·cases hc
   ·cases hc
 | slice t x lo hi mx =>
   rw [ho] at hc
   cases mx with
   | some m=>simp [cI] at hc
   | none =>
     simp only [cI] at hc
     split at hc
     ·rename_i el ht
      split at hc
      ·rename_i j hj
       split at hc
       ·simp only [g3q] at hc;subst hc
        exact .inr (.inl ⟨rfl,zux ho ht hj hA hR h⟩)
       ·simp only [g3q] at hc;subst hc
        exact .inl (zn6 ho ht hj hA hR h)
      ·cases hc
     ·rename_i ht
      simp only [g3q] at hc;subst hc
      exact .inl (zuJ ho ht hA hR h)
     ·cases hc
 | fieldAddr t x f =>
   rw [ho] at hc;simp only [cI] at hc
   split at hc
   ·rename_i fs ht
    split at hc
    ·rename_i fd hf
     split at hc
     ·rename_i j hj
      split at hc
      ·rename_i hpos
       simp only [g3q] at hc;subst hc
       exact .inl (zwf ho ht hf hj hpos hA hR h)
      ·cases hc
     ·cases hc
    ·cases hc
   ·cases hc
 | field t x f =>
   rw [ho] at hc;simp only [cI] at hc
   split at hc
   ·rename_i fs ht
    split at hc
    ·rename_i fd hf
     split at hc
     ·rename_i lk hlk
      simp only [g3q] at hc;subst hc
      exact .inl (zur ho ht hf hlk hA hR h)
     ·split at hc
      ·rename_i fs' j hu hj
       split at hc
       ·simp only [g3q] at hc;subst hc
        exact .inl (zuA ho ht hf hu hj hA hR h)
       ·cases hc
      ·cases hc
    ·cases hc
   ·cases hc
 | indexAddr t x y =>
   rw [ho] at hc;simp only [cI] at hc
   split at hc
   ·rename_i el ht
    split at hc
    ·rename_i j hj
     simp only [g3q] at hc;subst hc
     exact .inl (zwg ho ht hj hA hR h)
    ·cases hc
   ·rename_i len el ht
    split at hc
    ·rename_i j hj
     simp only [g3q] at hc;subst hc
     exact .inl (zuh ho ht hj hA hR h)
    ·cases hc
   ·cases hc
 | makeMap t r =>
   rw [ho] at hc;simp only [cI] at hc
   split at hc
   ·rename_i kt et ht
    obtain ⟨kk,hk,rfl⟩:=Option.map_eq_some_iff.1 hc
    exact .inr (.inl ⟨rfl,zuv ho ht hA hR h⟩)
   ·cases hc
 | lookup t x y ok =>
   rw [ho] at hc;simp only [cI] at hc
   split at hc
   ·rename_i kt et ht
    split at hc
    ·rename_i kk j hk hj
     split at hc
     ·rename_i z hz
      simp only [g3q] at hc;subst hc
      split at h
      ·exact .inr (.inl ⟨rfl,zuH ho ht hk hj hz hA hR h⟩)
      ·exact .inl (zuu ho ht hk hj hz hA hR h)
     ·cases hc
    ·cases hc
   ·cases hc
 | mapUpdate t x y z =>
   rw [ho] at hc;simp only [cI] at hc
   split at hc
   ·rename_i kt et ht
    obtain ⟨kk,hk,rfl⟩:=Option.map_eq_some_iff.1 hc
    split at h
    ·exact .inr (.inr (.inl ⟨rfl,zof (.inl ho) ht hk hA hR h⟩))
    ·exact .inr (.inr (.inl ⟨rfl,zob (.inl ho) ht hk hA hR h⟩))
   ·cases hc
 | insert t x y z =>
   rw [ho] at hc;simp only [cI] at hc
   split at hc
   ·rename_i kt et ht
    obtain ⟨kk,hk,rfl⟩:=Option.map_eq_some_iff.1 hc
    split at h
    ·exact .inr (.inr (.inl ⟨rfl,zof (.inr ho) ht hk hA hR h⟩))
    ·exact .inr (.inr (.inl ⟨rfl,zob (.inr ho) ht hk hA hR h⟩))
   ·cases hc
 | typeAssert x xt t ok =>
   rw [ho] at hc;simp only [cI] at hc
   split at hc
   ·cases hc
   ·rename_i hti
    split at hc
    ·rename_i j hj
     split at hc
     ·rename_i z hz
      simp only [g3q] at hc;subst hc
      exact .inl (zuw ho (by simpa only [Bool.not_eq_true] using hti) hj hz hA hR h)
     ·cases hc
    ·cases hc
 | extract x m=>rw [ho] at hc;simp only [cI,g3q] at hc;subst hc;exact .inl (zue ho hA hR h)
 | call c =>
   rw [ho] at hc;simp only [cI] at hc
   obtain ⟨callee,args,ts⟩:=c
   obtain ⟨args⟩:=args
   obtain ⟨ts⟩:=ts
   simp only at hc
   split at hc
   ·rename_i f
    split at hc
    ·rename_i hf
     simp only [g3q] at hc;subst hc
     exact zs3 ho rfl hf hA hR h
    ·simp only [g3q] at hc;subst hc
     exact .inr (.inl ⟨rfl,zrQ ho rfl hA hR h⟩)
   ·simp only [g3q] at hc;subst hc
    exact zs4 ho rfl hA hR h
   ·split at hc
    ·split at hc
     ·rename_i el hel
      simp only [g3q] at hc;subst hc
      exact .inl (zs0 (ty:=0) ho hel hA hR h)
     ·rename_i kt et hel
      simp only [g3q] at hc;subst hc
      exact .inl (zut ho hel hA hR h)
     ·rename_i hel
      simp only [g3q] at hc;subst hc
      exact .inl (zs1 ho hel hA hR h)
     ·cases hc
    ·cases hc
   ·split at hc
    ·split at hc
     ·simp only [g3q] at hc;subst hc
      exact .inl (zrb (mx:=true) ho hA hR h)
     ·cases hc
    ·cases hc
   ·split at hc
    ·split at hc
     ·simp only [g3q] at hc;subst hc
      exact .inl (zrb (mx:=false) ho hA hR h)
     ·cases hc
    ·cases hc
   ·split at hc
    ·split at hc
     ·rename_i htu
      subst htu
      split at hc
      ·rename_i el hel
       split at hc
       ·rename_i j hj
        split at hc
        ·rename_i z hz
         split at hc
         ·rename_i hcond
          simp only [g3q] at hc;subst hc
          cases fl
          ·exact .inr (.inl ⟨rfl,zup (ty:=0) ho hel hj hz hcond.1 hcond.2 hA hR h⟩)
          ·exact .inr (.inl ⟨rfl,zuC ho hel hj hcond.2 hA hR h⟩)
         ·cases hc
        ·cases hc
       ·cases hc
      ·cases hc
     ·split at hc
      ·rename_i el ki hel hki
       split at hc
       ·rename_i j hj
        split at hc
        ·rename_i z hz
         split at hc
         ·rename_i hcond
          simp only [g3q] at hc;subst hc
          exact .inr (.inl ⟨rfl,zuz ho hel hki hj hz hcond.1 hcond.2 hA hR h⟩)
         ·cases hc
        ·cases hc
       ·cases hc
      ·cases hc
    ·cases hc
   ·split at hc
    ·split at hc
     ·rename_i el hel
      simp only [g3q] at hc;subst hc
      exact .inl (zta ho hel hA hR h)
     ·cases hc
    ·cases hc
   ·split at hc
    ·rename_i x y t u _ _
     split at hc
     ·rename_i el hel
      split at hc
      ·rename_i j hj
       split at hc
       ·rename_i h1
        simp only [g3q] at hc;subst hc
        exact .inr (.inl ⟨rfl,zuG ho hel hj h1 hA hR h⟩)
       ·simp only [g3q] at hc;subst hc
        exact .inr (.inl ⟨rfl,zuL ho hel hj hA hR h⟩)
      ·cases hc
     ·cases hc
    ·cases hc
   ·cases hc
 | index t x y =>
   rw [ho] at hc;simp only [cI] at hc
   split at hc
   ·rename_i len el ht
    split at hc
    ·rename_i h1
     simp only [g3q] at hc;subst hc
     exact .inl (zuF ho ht h1 hA hR h)
    ·split at hc
     ·rename_i m d j hu hj
      simp only [g3q] at hc;subst hc
      exact .inl (zod ho ht (.inr ⟨m,d,hu⟩) hj hA hR h)
     ·rename_i fs j hu hj
      simp only [g3q] at hc;subst hc
      exact .inl (zod ho ht (.inl ⟨fs,hu⟩) hj hA hR h)
     ·cases hc
   ·cases hc
 | _=>rw [ho] at hc;simp [cI] at hc
end
section
variable {P:Program} {ops:Array Oper} {Q:Exit->Act->World->Prop} {md:Region.Mode} {C:World->Prop}
def zfM (P:Program) (w:World) (v:Value):Result Next->Prop
 | .ok (.value u) w'=>w'=w/\u=v
 | .ok (.enter f args) w'=>w'=w/\Calls P f args w (fun e w''=>e=.returned v/\Ext w w'')
 | _=>False
def QY (P:Program) (ops:Array Oper) (C:World->Prop) (o:Oper) (v:Value) (a:Act):Prop :=
 (Region.wanted o (yielded ops a.tmps)=true/\∀ w,C w->zfM P w v ((execOp a.eval o).run P w)) ∨
 (Region.wanted o (yielded ops a.tmps)=false/\v=undef)
def znR (P:Program) (ops:Array Oper) (o:Oper) (a a':Act):Prop :=
 execOp a'.eval o=execOp a.eval o/\Region.wanted o (yielded ops a'.tmps)=Region.wanted o (yielded ops a.tmps)
theorem QY.alike {o:Oper} {v:Value} {a a':Act} (h:QY P ops C o v a) (k:znR P ops o a a'):QY P ops C o v a':=by
 unfold QY
 rw [k.1,k.2]
 exact h
theorem QY.op {i:Nat} {o:Oper} {v:Value} {a:Act} (hi:ops[i]?=some o) (hy:QY P ops C o v a) {K:Act->World->Prop} {w:World} (hC:C w) (h:∀ w',Ext w w'->K (a.put o.dst v) w'):wpOp P ops Q i K a w:=by
 unfold Go.wpOp
 simp only [hi]
 rcases hy with ⟨hw,hv⟩|⟨hw,rfl⟩
 ·simp only [hw,if_true,Oper.wp]
  have h1:=hv w hC
  refine .inl ?_
  revert h1
  generalize (execOp a.eval o).run P w=r
  intro h1
  cases r with
  | ok x w' =>
    cases x<;>simp only [zfM] at h1<;>simp only [Oper.upon]
    case value u=>obtain ⟨rfl,rfl⟩:=h1;exact h _ (Ext.refl _)
    case enter f args =>
     obtain ⟨rfl,hc⟩:=h1
     exact hc.mono fun e w'' ⟨he,hx⟩=>by subst he;exact h _ hx
  | halt x w'=>simp only [zfM] at h1
 ·simp only [hw,Bool.false_eq_true,if_false]
  exact h _ (Ext.refl _)
theorem zmD {j:Nat} {oi oj:Oper} {v:Value} (hj:ops[j]?=some oj) (hap:oi.apart ops oj=true) (hsi:∀ cs b,oi.op≠.select cs b) (hsj:∀ cs b,oj.op≠.select cs b)
 (hQ:∀ c a w,¬Q (.panic c) a w) {K:Act->World->Prop} {a:Act} {w:World} (h:wpOp P ops Q j K (a.put oi.dst v) w) :
 wpOp P ops Q j (fun a' w'=>znR P ops oi a a'/\K (a'.put oi.dst v) w') a w:=by
 obtain ⟨h1,h2,h3⟩:=Oper.apart_spec hap
 have keep:∀ u,znR P ops oi a (a.put oj.dst u):=fun u=>⟨execOp_put oi hsi a oj.dst u h3,wanted_put oi a oj.dst u h3⟩
 have keepD:∀ d u,znR P ops oi a ({ a with defers:=d::a.defers }.put oj.dst u):=fun d u =>
  ⟨execOp_put oi hsi { a with defers:=d::a.defers } oj.dst u h3,wanted_put oi { a with defers:=d::a.defers } oj.dst u h3⟩
 unfold wpOp at *
 simp only [hj] at *
 rw [wanted_put oj a oi.dst v h1] at h
 split
 ·rename_i hw
  simp only [hw,if_true] at h
  rcases h with h|⟨hasks,hlets⟩
  case inr=>exact .inr ⟨by unfold Oper.asks at *;rw [execOp_put oj hsj a oi.dst v h1] at hasks;exact hasks,hlets⟩
  refine .inl ?_
  unfold Oper.wp at *
  rw [execOp_put oj hsj a oi.dst v h1] at h
  generalize (execOp a.eval oj).run P w=r at *
  cases r with
  | ok n w' =>
    cases n<;>simp only [Oper.upon] at h ⊢
    case value u=>exact ⟨keep u,by rw [←Act.put_comm a v u h2];exact h⟩
    case skip=>exact ⟨keep _,by rw [←Act.put_comm a v undef h2];exact h⟩
    case defer d =>
     refine ⟨keepD d _,?_⟩
     rw [←Act.put_comm _ v undef h2,←Act.put_defers]
     exact h
    case enter f args =>
     refine Calls.mono h fun e w'' he=>?_
     cases e with
     | returned u=>exact ⟨keep u,by rw [←Act.put_comm a v u h2];exact he⟩
     | panicked c=>exact absurd he (hQ _ _ _)
     | outgrown=>exact he
    case row row args=>exact Rows.mono h fun u w'' he=>⟨keep u,by rw [←Act.put_comm a v u h2];exact he⟩
  | halt x w' =>
    cases x<;>simp only [Oper.upon] at h ⊢
    case panic u=>exact absurd h (hQ _ _ _)
 ·rename_i hw
  simp only [hw] at h
  exact ⟨keep _,by rw [←Act.put_comm a v undef h2];exact h⟩
def Closed (md:Region.Mode) (ops:Array Oper) (listed:Array Bool):Prop :=
 ∀ j oj,ops[j]?=some oj->listed.getD j false=true->∀ e∈oj.after,Region.binds md e=true->listed.getD e.on false=true
theorem zba {listed:Array Bool} {i:Nat} (h:listed.getD i true=false):listed.getD i false=false:=by
 rcases Nat.lt_or_ge i listed.size with h'|h'
 ·simp [h'] at h ⊢;exact h
 ·simp [Array.getElem?_eq_none h'] at h
theorem Closed.start (m:Nat):Closed md ops (Array.replicate m false):=fun j oj _ h=>by
 rcases Nat.lt_or_ge j m with h'|h'
 ·simp [h'] at h
 ·simp [h'] at h
theorem Closed.set {i:Nat} {listed:Array Bool} (h:Closed md ops listed) (hi:i∈Region.ready md ops listed):Closed md ops (listed.setIfInBounds i true):=by
 obtain ⟨_,oi,hoi,hall⟩:=mem_ready.1 hi
 intro j oj hj hl e he hb
 by_cases hij:i=j
 ·subst hij
  have:oj=oi:=Option.some.inj (hj.symm.trans hoi)
  subst this
  exact getD_set_true (hall e he hb)
 ·rw [getD_set_ne false hij] at hl
  exact getD_set_true (h j oj hj hl e he hb)
def anc (md:Region.Mode) (ops:Array Oper):Nat->Nat->Nat->Bool
 | 0,_,_=>false
 | f + 1,j,i => match ops[j]? with
   | some oj=>oj.after.any fun e=>Region.binds md e&&(e.on == i||anc md ops f e.on i)
   | none=>false
theorem zkw {listed:Array Bool} (hc:Closed md ops listed) {i:Nat}:∀ (f j:Nat),listed.getD j false=true->anc md ops f j i=true->listed.getD i false=true
 | 0,j,_,h=>by simp [anc] at h
 | f + 1,j,hj,h => by
   simp only [anc] at h
   split at h
   ·rename_i oj hoj
    obtain ⟨e,he,hb⟩:=Array.any_eq_true'.1 h
    simp only [Bool.and_eq_true,Bool.or_eq_true,beq_iff_eq] at hb
    have h1:=hc j oj hoj hj e he hb.1
    rcases hb.2 with rfl|h2
    ·exact h1
    ·exact zkw hc f e.on h1 h2
   ·cases h
theorem zmE {listed:Array Bool} (hc:Closed md ops listed) {i j:Nat} (hj:j∈Region.ready md ops listed):∀ {f:Nat},anc md ops f j i=true->listed.getD i false=true
 | 0,h=>by simp [anc] at h
 | f + 1,h => by
   obtain ⟨_,oj,hoj,hall⟩:=mem_ready.1 hj
   simp only [anc,hoj] at h
   obtain ⟨e,he,hb⟩:=Array.any_eq_true'.1 h
   simp only [Bool.and_eq_true,Bool.or_eq_true,beq_iff_eq] at hb
   have h1:=hall e he hb.1
   rcases hb.2 with rfl|h2
   ·exact h1
   ·exact zkw hc f e.on h1 h2
def late (md:Region.Mode) (ops:Array Oper) (qs:List Nat) (j:Nat):Bool:=qs.any fun i=>i != j&&!anc md ops ops.size j i
def AnyG (P:Program) (md:Region.Mode) (ops:Array Oper) (Q:Exit->Act->World->Prop) (C:World->Prop) (qs:List Nat):Nat->Array Bool->Act->World->Prop
 | 0,listed,a,w=>Region.ready md ops listed=[]/\∀ w1,Ext w w1->Q .normal a w1
 | fuel + 1,listed,a,w =>
   (Region.ready md ops listed=[]->∀ w1,Ext w w1->Q .normal a w1) /\
   ∀ i∈Region.ready md ops listed,∀ w1,Ext w w1->wpOp P ops Q i (fun a' w'=>(late md ops qs i=true->C w1->C w')/\AnyG P md ops Q C qs fuel (listed.setIfInBounds i true) a' w') a w1
variable {qs:List Nat}
theorem AnyG.ext {fuel:Nat} {listed:Array Bool} {a:Act} {w w':World} (h:AnyG P md ops Q C qs fuel listed a w) (hx:Ext w w'):AnyG P md ops Q C qs fuel listed a w':=by
 cases fuel with
 | zero=>exact ⟨h.1,fun w1 k=>h.2 w1 (hx.trans k)⟩
 | succ f=>exact ⟨fun h0 w1 k=>h.1 h0 w1 (hx.trans k),fun i hi w1 k=>h.2 i hi w1 (hx.trans k)⟩
theorem AnyG.any:∀ (fuel:Nat) (listed:Array Bool) (a:Act) (w:World),AnyG P md ops Q C qs fuel listed a w->wpAny P md ops Q fuel listed a w
 | 0,_,_,w,h=>⟨h.1,h.2 w (Ext.refl _)⟩
 | fuel+1,listed,a,w,h=>⟨fun h0=>h.1 h0 w (Ext.refl _),fun i hi=>wpOp_mono (fun a' w' h'=>AnyG.any fuel _ a' w' h'.2) (h.2 i hi w (Ext.refl _))⟩
theorem AnyG.rebase {C':World->Prop} {qs':List Nat}:∀ (fuel:Nat) (listed:Array Bool) (a:Act) (w:World),(∀ j oj,ops[j]?=some oj->listed.getD j true=false->late md ops qs j=false)->AnyG P md ops Q C' qs' fuel listed a w->AnyG P md ops Q C qs fuel listed a w
 | 0,_,_,_,_,h=>h
 | fuel+1,listed,a,w,hl,h=>⟨h.1,fun i hi w1 hx=>wpOp_mono (fun a' w' h'=>by
  obtain ⟨hun,oi,hoi,_⟩:=mem_ready.1 hi
  refine ⟨fun hlt=>(by rw [hl i oi hoi hun] at hlt;cases hlt),AnyG.rebase fuel _ a' w' (fun j oj hj hju=>hl j oj hj ?_) h'.2⟩
  by_cases hij:i=j
  ·subst hij;exact hun
  ·rw [getD_set_ne true hij] at hju;exact hju) (h.2 i hi w1 hx)⟩
theorem AnyG.first {i:Nat} {oi:Oper} {v:Value} (hi:ops[i]?=some oi) (hsel:∀ (j:Nat) (o:Oper) cs b,ops[j]?=some o->o.op≠.select cs b) (hQ:∀ c a w,¬Q (.panic c) a w)
 (hq:i∈qs) (hCx:∀ w w',C w->Ext w w'->C w') :
 ∀ (fuel : Nat) (listed : Array Bool) (a : Act) (w : World),Closed md ops listed ->
   (∀ j oj,ops[j]?=some oj->j≠i->listed.getD j true=false->(∀ e∈oj.after,Region.binds md e=true->e.on≠i)->oi.apart ops oj=true) ->
   i∈Region.ready md ops listed->QY P ops C oi v a->C w ->
   AnyG P md ops Q C qs fuel (listed.setIfInBounds i true) (a.put oi.dst v) w->AnyG P md ops Q C qs (fuel+1) listed a w:=by
 intro fuel
 induction fuel with
 | zero =>
   intro listed a w _ _ hr hy hC H
   refine ⟨fun h=>(by rw [h] at hr;cases hr),fun j hj w1 hx=>?_⟩
   by_cases hji:j=i
   ·subst hji
    exact hy.op hi (hCx _ _ hC hx) fun w' hx'=>⟨fun _ _=>hCx _ _ hC (hx.trans hx'),H.ext (hx.trans hx')⟩
   ·have:=ready_mono hj hji
    rw [H.1] at this
    cases this
 | succ fuel ih =>
   intro listed a w hcl hfree hr hy hC H
   refine ⟨fun h=>(by rw [h] at hr;cases hr),fun j hj w1 hx=>?_⟩
   by_cases hji:j=i
   ·subst hji
    exact hy.op hi (hCx _ _ hC hx) fun w' hx'=>⟨fun _ _=>hCx _ _ hC (hx.trans hx'),H.ext (hx.trans hx')⟩
   ·have h1:=H.2 j (ready_mono hj hji) w1 hx
    obtain ⟨hjun,oj,hoj,hall⟩:=mem_ready.1 hj
    have hun:=(mem_ready.1 hr).1
    have hnot:∀ e∈oj.after,Region.binds md e=true->e.on≠i:=fun e he hb heq=>by
     have h1:=hall e he hb
     rw [heq,zba hun] at h1
     cases h1
    have hlate:late md ops qs j=true:=by
     refine List.any_eq_true.2 ⟨i,hq,?_⟩
     simp only [Bool.and_eq_true,bne_iff_ne,ne_eq,Bool.not_eq_true']
     refine ⟨fun h=>hji h.symm,?_⟩
     cases ha:anc md ops ops.size j i with
     | false=>rfl
     | true =>
       have:=zmE hcl hj ha
       rw [zba hun] at this
       cases this
    have h2:=zmD hoj (hfree j oj hoj hji hjun hnot) (fun cs b=>hsel i oi cs b hi) (fun cs b=>hsel j oj cs b hoj) hQ h1
    have hfree':∀ k ok,ops[k]?=some ok->k≠i->(listed.setIfInBounds j true).getD k true=false ->
     (∀ e∈ok.after,Region.binds md e=true->e.on≠i)->oi.apart ops ok=true:=fun k ok hk hki hun hno=>by
     refine hfree k ok hk hki ?_ hno
     by_cases hjk:j=k
     ·subst hjk;exact hjun
     ·rw [getD_set_ne true hjk] at hun;exact hun
    refine wpOp_mono (fun a' w' h3=>?_) h2
    obtain ⟨h4,h5,h6⟩:=h3
    refine ⟨fun _=>h5 hlate,ih _ a' w' (hcl.set hj) hfree' (ready_mono hr (Ne.symm hji)) (hy.alike h4) (h5 hlate (hCx _ _ hC hx)) ?_⟩
    rw [Array.setIfInBounds_comm _ _ hji]
    exact h6
theorem AnyG.first0 {i:Nat} {oi:Oper} {v:Value} (hi:ops[i]?=some oi) (hsel:∀ (j:Nat) (o:Oper) cs b,ops[j]?=some o->o.op≠.select cs b) (hQ:∀ c a w,¬Q (.panic c) a w)
 (hCx:∀ w w',C w->Ext w w'->C w') :
 ∀ (fuel : Nat) (listed : Array Bool) (a : Act) (w : World),Closed md ops listed ->
   (∀ j oj,ops[j]?=some oj->j≠i->listed.getD j true=false->(∀ e∈oj.after,Region.binds md e=true->e.on≠i)->oi.apart ops oj=true) ->
   i∈Region.ready md ops listed->QY P ops (fun _=>True) oi v a ->
   AnyG P md ops Q C qs fuel (listed.setIfInBounds i true) (a.put oi.dst v) w->AnyG P md ops Q C qs (fuel+1) listed a w:=by
 intro fuel
 induction fuel with
 | zero =>
   intro listed a w _ _ hr hy H
   refine ⟨fun h=>(by rw [h] at hr;cases hr),fun j hj w1 hx=>?_⟩
   by_cases hji:j=i
   ·subst hji
    exact hy.op hi trivial fun w' hx'=>⟨fun _ hC=>hCx _ _ hC hx',H.ext (hx.trans hx')⟩
   ·have:=ready_mono hj hji
    rw [H.1] at this
    cases this
 | succ fuel ih =>
   intro listed a w hcl hfree hr hy H
   refine ⟨fun h=>(by rw [h] at hr;cases hr),fun j hj w1 hx=>?_⟩
   by_cases hji:j=i
   ·subst hji
    exact hy.op hi trivial fun w' hx'=>⟨fun _ hC=>hCx _ _ hC hx',H.ext (hx.trans hx')⟩
   ·have h1:=H.2 j (ready_mono hj hji) w1 hx
    obtain ⟨hjun,oj,hoj,hall⟩:=mem_ready.1 hj
    have hun:=(mem_ready.1 hr).1
    have hnot:∀ e∈oj.after,Region.binds md e=true->e.on≠i:=fun e he hb heq=>by
     have h1:=hall e he hb
     rw [heq,zba hun] at h1
     cases h1
    have h2:=zmD hoj (hfree j oj hoj hji hjun hnot) (fun cs b=>hsel i oi cs b hi) (fun cs b=>hsel j oj cs b hoj) hQ h1
    have hfree':∀ k ok,ops[k]?=some ok->k≠i->(listed.setIfInBounds j true).getD k true=false ->
     (∀ e∈ok.after,Region.binds md e=true->e.on≠i)->oi.apart ops ok=true:=fun k ok hk hki hun hno=>by
     refine hfree k ok hk hki ?_ hno
     by_cases hjk:j=k
     ·subst hjk;exact hjun
     ·rw [getD_set_ne true hjk] at hun;exact hun
    refine wpOp_mono (fun a' w' h3=>?_) h2
    obtain ⟨h4,h5,h6⟩:=h3
    refine ⟨h5,ih _ a' w' (hcl.set hj) hfree' (ready_mono hr (Ne.symm hji)) (hy.alike h4) ?_⟩
    rw [Array.setIfInBounds_comm _ _ hji]
    exact h6
theorem AnyG.mov {i:Nat} {oi:Oper} {v:Value} {fuel:Nat} {listed:Array Bool} {a:Act} {w:World} (hi:ops[i]?=some oi) (hs:Region.noSelect ops=true) (hQ:∀ c a w,¬Q (.panic c) a w)
 (hCx:∀ w w',C w->Ext w w'->C w') (hcl:Closed md ops listed) (hf:Region.free md ops listed i=true) (hr:(Region.ready md ops listed).contains i=true) (hy:QY P ops (fun _=>True) oi v a)
 (h:AnyG P md ops Q C qs fuel (listed.setIfInBounds i true) (a.put oi.dst v) w):AnyG P md ops Q C qs (fuel+1) listed a w :=
 AnyG.first0 hi (Region.noSelect_spec hs) hQ hCx fuel listed a w hcl (Region.free_spec hi hf) (by simpa using hr) hy h
theorem AnyG.take {i:Nat} {oi:Oper} {v:Value} {fuel:Nat} {listed:Array Bool} {a:Act} {w:World} (hi:ops[i]?=some oi) (hs:Region.noSelect ops=true) (hQ:∀ c a w,¬Q (.panic c) a w)
 (hq:i∈qs) (hCx:∀ w w',C w->Ext w w'->C w') (hcl:Closed md ops listed) (hf:Region.free md ops listed i=true) (hr:(Region.ready md ops listed).contains i=true) (hy:QY P ops C oi v a) (hC:C w)
 (h:AnyG P md ops Q C qs fuel (listed.setIfInBounds i true) (a.put oi.dst v) w):AnyG P md ops Q C qs (fuel+1) listed a w :=
 AnyG.first hi (Region.noSelect_spec hs) hQ hq hCx fuel listed a w hcl (Region.free_spec hi hf) (by simpa using hr) hy hC h
end
theorem qw {s:Option SV} {K:SV->Prop} (h:gA s K):∃ u,K u/\∀ K':SV->Prop,K' u->gA s K':=by
 obtain ⟨u,rfl,h⟩:=zw h;exact ⟨u,h,fun _ h=>h⟩
theorem zgw {s:Option SV} {K:Bool->Prop} (h:jt s K):∃ u,K u/\∀ K':Bool->Prop,K' u->jt s K':=by
 obtain ⟨u,rfl,h⟩:=uC h;exact ⟨u,h,fun _ h=>h⟩
theorem zaU {s:Option SV} {K:Int->Prop} (h:vM s K):∃ u,K u/\∀ K':Int->Prop,K' u->vM s K':=by
 obtain ⟨_,u,rfl,h⟩:=qG h;exact ⟨u,h,fun _ h=>h⟩
theorem yC {k:IntKind} {s:Option SV} {K:Int->Prop} (h:yg k s K):∃ u,K u/\∀ K':Int->Prop,K' u->yg k s K':=by
 obtain ⟨u,rfl,h1⟩:=qF h;exact ⟨u,h1,fun _ h2=>by cases k<;>exact h2⟩
theorem zgx {k:IntKind} {n:Int} {K:Int->Prop} (h:za8 k n K):∃ u,K u/\∀ K':Int->Prop,K' u->za8 k n K':=by
 cases k<;>simp only [za8] at h ⊢<;>first|exact ⟨_,h.2,fun _ h'=>⟨h.1,h'⟩⟩|exact ⟨_,h,fun _ h=>h⟩
theorem zoh {k:IntKind} {n:Int} {K:Int->Prop} (h:zeF k n K):∃ u,K u/\∀ K':Int->Prop,K' u->zeF k n K':=by
 cases k<;>simp only [zeF] at h ⊢<;>first|exact ⟨_,h.2,fun _ h'=>⟨h.1,h'⟩⟩|exact ⟨_,h,fun _ h=>h⟩
theorem zoi {lk:LK} {K:Value->Prop} (h:uD lk K):∃ u,K u/\∀ K':Value->Prop,K' u->uD lk K':=by
 cases lk<;>simp only [uD] at h ⊢
 ·obtain ⟨_,h⟩:=h;exact ⟨_,h,fun _ h=>⟨_,h⟩⟩
 ·obtain ⟨_,h⟩:=h;exact ⟨_,h,fun _ h=>⟨_,h⟩⟩
 ·obtain ⟨_,h⟩:=h;exact ⟨_,h,fun _ h=>⟨_,h⟩⟩
 ·obtain ⟨_,h⟩:=h;exact ⟨_,h,fun _ h=>⟨_,h⟩⟩
 ·obtain ⟨_,_,_,h⟩:=h;exact ⟨_,h,fun _ h=>⟨_,_,_,h⟩⟩
 ·obtain ⟨_,h⟩:=h;exact ⟨_,h,fun _ h=>⟨_,h⟩⟩
 ·obtain ⟨_,h⟩:=h;exact ⟨_,h,fun _ h=>⟨_,h⟩⟩
theorem zfN {e:Env} {o:Option X} {d:Int} {K:Int->Prop} (h:jB e o d K):∃ u,K u/\∀ K':Int->Prop,K' u->jB e o d K':=by
 cases o with
 | none=>exact ⟨d,h,fun _ h=>h⟩
 | some x=>exact zaU h
theorem zrR {s:Option Value} {K:Value->Prop} (h:gV s K):∃ u,K u/\∀ K':Value->Prop,K' u->gV s K':=by
 obtain ⟨u,rfl,h⟩:=zfJ h;exact ⟨u,h,fun _ h=>h⟩
theorem zoj {e:Env}:∀ {xs:List X} {K:List SV->Prop},gAs e xs K->∃ u,K u/\∀ K':List SV->Prop,K' u->gAs e xs K'
 | [],K,h=>⟨_,h,fun _ h=>h⟩
 | x :: xs,K,h => by
   obtain ⟨u,h,b⟩:=qw h
   obtain ⟨l,h,b'⟩:=zoj h
   exact ⟨_,h,fun K' h=>b _ (b' _ h)⟩
theorem ztc {e:Env}:∀ {xs:List (Nat × Nat × X)} {K:List (Nat × List Value)->Prop},gPs e xs K->∃ u,K u/\∀ K':List (Nat × List Value)->Prop,K' u->gPs e xs K'
 | [],K,h=>⟨_,h,fun _ h=>h⟩
 | (off,sz,x) :: xs,K,h => by
   obtain ⟨u,⟨h1,h⟩,b⟩:=qw h
   obtain ⟨l,h,b'⟩:=ztc h
   exact ⟨_,h,fun K' h=>b _ ⟨h1,b' _ h⟩⟩
theorem zwo {nk:NK} {s:SV} {K:Bool->Prop} (h:zdK nk s K):∃ u,K u/\∀ K':Bool->Prop,K' u->zdK nk s K':=by
 unfold zdK at h
 split at h<;>first|exact h.elim|exact ⟨_,h,fun _ h=>h⟩
theorem zuM {o:Option Value} {A:Value->Prop} {B:Prop} {v:Value} (h:o=some v) (hA:A v):lkK o A B:=by
 subst h;exact ⟨(fun v' hv=>by cases hv;exact hA),fun hn=>by cases hn⟩
theorem zuN {o:Option Value} {A:Value->Prop} {B:Prop} (h:o=none) (hB:B):lkK o A B:=by
 subst h;exact ⟨(fun v' hv=>by cases hv),fun _=>hB⟩
section
variable {P:Program} {w0:World} {fp0:List Nat} {e:Env} {L:List Ent} {k:SV->List Ent->Prop} {i:I}
theorem zxm (hq:isQ i=true) (h:VI P w0 fp0 i e L k):∃ s,k s L/\∀ k':SV->List Ent->Prop,k' s L->VI P w0 fp0 i e L k':=by
 cases i with
 | mv x=>simp only [VI] at h ⊢;obtain ⟨u,h,b⟩:=qw h;exact ⟨u,h,fun k' h=>b _ h⟩
 | pick c x y =>
   simp only [VI] at h ⊢
   obtain ⟨t,h,b⟩:=zgw h
   obtain ⟨u,h,b1⟩:=qw h
   obtain ⟨v,h,b2⟩:=qw h
   cases t
   ·exact ⟨v,h.2 rfl,fun k' h=>b _ (b1 _ (b2 _ ⟨nofun,fun _=>h⟩))⟩
   ·exact ⟨u,h.1 rfl,fun k' h=>b _ (b1 _ (b2 _ ⟨fun _=>h,nofun⟩))⟩
 | ar o kd x y =>
   simp only [VI] at h ⊢
   obtain ⟨p,h,b⟩:=yC h
   obtain ⟨q,h,b1⟩:=yC h
   obtain ⟨r,h,b2⟩:=zgx h
   exact ⟨_,h,fun k' h=>b _ (b1 _ (b2 _ h))⟩
 | arf o kd x y =>
   simp only [VI] at h ⊢
   obtain ⟨p,h,b⟩:=yC h
   obtain ⟨q,h,b1⟩:=yC h
   obtain ⟨r,h,b2⟩:=zoh h
   exact ⟨_,h,fun k' h=>b _ (b1 _ (b2 _ h))⟩
 | dv rem kd x y =>
   simp only [VI] at h ⊢
   obtain ⟨p,h,b⟩:=yC h
   obtain ⟨q,⟨h0,h⟩,b1⟩:=yC h
   exact ⟨_,h,fun k' h=>b _ (b1 _ ⟨h0,h⟩)⟩
 | dvr rem kd x y =>
   simp only [VI] at h ⊢
   obtain ⟨p,h,b⟩:=yC h
   obtain ⟨q,⟨h0,h⟩,b1⟩:=yC h
   exact ⟨_,h,fun k' h=>b _ (b1 _ ⟨h0,h⟩)⟩
 | cmp o kd x y =>
   simp only [VI] at h ⊢
   obtain ⟨p,h,b⟩:=yC h
   obtain ⟨q,h,b1⟩:=yC h
   exact ⟨_,h,fun k' h=>b _ (b1 _ h)⟩
 | bnr kd x y =>
   simp only [VI] at h ⊢
   obtain ⟨p,h,b⟩:=yC h
   obtain ⟨q,h,b1⟩:=yC h
   exact ⟨_,h,fun k' h=>b _ (b1 _ h)⟩
 | sh left kd x y =>
   simp only [VI] at h ⊢
   obtain ⟨p,h,b⟩:=yC h
   obtain ⟨q,⟨h0,h⟩,b1⟩:=zaU h
   cases left
   ·exact ⟨_,h,fun k' h=>b _ (b1 _ ⟨h0,h⟩)⟩
   ·obtain ⟨r,h,b2⟩:=zgx h
    exact ⟨_,h,fun k' h=>b _ (b1 _ ⟨h0,b2 _ h⟩)⟩
 | bit o kd x y =>
   simp only [VI] at h ⊢
   obtain ⟨p,h,b⟩:=yC h
   obtain ⟨q,⟨h0,h⟩,b1⟩:=yC h
   exact ⟨_,h,fun k' h=>b _ (b1 _ ⟨h0,h⟩)⟩
 | eqb ng x y =>
   simp only [VI] at h ⊢
   obtain ⟨p,h,b⟩:=zgw h
   obtain ⟨q,h,b1⟩:=zgw h
   exact ⟨_,h,fun k' h=>b _ (b1 _ h)⟩
 | eqs ng x y =>
   simp only [VI] at h ⊢
   obtain ⟨p,h,b⟩:=qw h
   obtain ⟨q,h,b1⟩:=qw h
   split at h
   ·exact ⟨_,h,fun k' h=>b _ (b1 _ h)⟩
   ·exact h.elim
 | eqn nk ng x =>
   simp only [VI] at h ⊢
   obtain ⟨p,h,b⟩:=qw h
   obtain ⟨q,h,b1⟩:=zwo h
   exact ⟨_,h,fun k' h=>b _ (b1 _ h)⟩
 | eqa ng ks x y =>
   simp only [VI] at h ⊢
   obtain ⟨p,h,b⟩:=qw h
   obtain ⟨q,h,b1⟩:=qw h
   split at h
   ·exact ⟨_,h.2,fun k' h'=>b _ (b1 _ ⟨h.1,h'⟩)⟩
   ·exact h.elim
 | eqp ng x y =>
   simp only [VI] at h ⊢
   obtain ⟨p,h,b⟩:=qw h
   obtain ⟨q,⟨a1,a2,h0,h⟩,b1⟩:=qw h
   exact ⟨_,h,fun k' h=>b _ (b1 _ ⟨a1,a2,h0,h⟩)⟩
 | not x=>simp only [VI] at h ⊢;obtain ⟨u,h,b⟩:=zgw h;exact ⟨_,h,fun k' h=>b _ h⟩
 | neg kd x =>
   simp only [VI] at h ⊢
   obtain ⟨p,h,b⟩:=yC h
   obtain ⟨r,h,b2⟩:=zgx h
   exact ⟨_,h,fun k' h=>b _ (b2 _ h)⟩
 | cv kd x =>
   simp only [VI] at h ⊢
   obtain ⟨p,h,b⟩:=zaU h
   obtain ⟨r,h,b2⟩:=zgx h
   exact ⟨_,h,fun k' h=>b _ (b2 _ h)⟩
 | cvf kd x =>
   simp only [VI] at h ⊢
   obtain ⟨p,h,b⟩:=zaU h
   obtain ⟨r,h,b2⟩:=zoh h
   exact ⟨_,h,fun k' h=>b _ (b2 _ h)⟩
 | ext x m =>
   simp only [VI] at h ⊢
   obtain ⟨p,h,b⟩:=qw h
   split at h
   ·obtain ⟨v,h,b1⟩:=zrR h
    exact ⟨_,h,fun k' h=>b _ (b1 _ h)⟩
   ·exact h.elim
 | bld z ps =>
   simp only [VI] at h ⊢
   obtain ⟨p,h,b⟩:=ztc h
   exact ⟨_,h,fun k' h=>b _ h⟩
 | ld lk x =>
   simp only [VI] at h ⊢
   obtain ⟨s,h,b⟩:=qw h
   have gen:(uD lk fun v=>Rd w0 fp0 L s [v]/\k (.v v) L)->∃ v,k v L/\∀ k':SV->List Ent->Prop,k' v L->(uD lk fun v=>Rd w0 fp0 L s [v]/\k' (.v v) L):=fun h=>by
    obtain ⟨v,⟨h0,h⟩,b1⟩:=zoi h
    exact ⟨_,h,fun k' h=>b1 _ ⟨h0,h⟩⟩
   cases s with
   | ptr key bb off =>
     simp only at h
     cases hb:kn key L with
     | none =>
       simp only [hb] at h
       obtain ⟨v,h,b1⟩:=gen h
       exact ⟨v,h,fun k' h=>b _ (by simp only [hb];exact b1 k' h)⟩
     | some q =>
       obtain ⟨b',cs,T⟩:=q
       simp only [hb] at h
       obtain ⟨h0,h⟩:=h
       obtain ⟨v,h,b1⟩:=zrR h
       exact ⟨_,h,fun k' h=>b _ (by simp only [hb];exact ⟨h0,b1 _ h⟩)⟩
   | ek key a j =>
     simp only at h
     cases hb:zL key L with
     | none=>simp only [hb] at h
     | some ow =>
       simp only [hb] at h
       obtain ⟨h0,h⟩:=h
       obtain ⟨v,⟨h1,h⟩,b1⟩:=zoi h
       exact ⟨_,h,fun k' h=>b _ (by simp only [hb];exact ⟨h0,b1 _ ⟨h1,h⟩⟩)⟩
   | v x=>obtain ⟨v,h,b1⟩:=gen h;exact ⟨v,h,fun k' h=>b _ (b1 k' h)⟩
   | el a j=>obtain ⟨v,h,b1⟩:=gen h;exact ⟨v,h,fun k' h=>b _ (b1 k' h)⟩
   | sl key a n c=>obtain ⟨v,h,b1⟩:=gen h;exact ⟨v,h,fun k' h=>b _ (b1 k' h)⟩
   | mp key bb=>obtain ⟨v,h,b1⟩:=gen h;exact ⟨v,h,fun k' h=>b _ (b1 k' h)⟩
   | vie key a n c=>obtain ⟨v,h,b1⟩:=gen h;exact ⟨v,h,fun k' h=>b _ (b1 k' h)⟩
 | lda m ks x =>
   simp only [VI] at h ⊢
   obtain ⟨s,h,b⟩:=qw h
   have gen:(∃ vs:List Value,vs.length=m/\Rd w0 fp0 L s vs/\k (.v (.agg vs.toArray)) L)->∃ v,k v L/\∀ k':SV->List Ent->Prop,k' v L->(∃ vs:List Value,vs.length=m/\Rd w0 fp0 L s vs/\k' (.v (.agg vs.toArray)) L):=fun h=>by
    obtain ⟨vs,h0,h1,h⟩:=h
    exact ⟨_,h,fun k' h=>⟨vs,h0,h1,h⟩⟩
   cases s with
   | ptr key bb off =>
     simp only at h
     cases hb:kn key L with
     | none =>
       simp only [hb] at h
       obtain ⟨v,h,b1⟩:=gen h
       exact ⟨v,h,fun k' h=>b _ (by simp only [hb];exact b1 k' h)⟩
     | some q =>
       obtain ⟨b',cs,T⟩:=q
       simp only [hb] at h
       obtain ⟨h0,h⟩:=h
       exact ⟨_,h,fun k' h=>b _ (by simp only [hb];exact ⟨h0,h⟩)⟩
   | ek key a j =>
     simp only at h
     cases hb:zL key L with
     | none=>simp only [hb] at h
     | some ow =>
       simp only [hb] at h
       obtain ⟨h0,vs,h1,h2,h⟩:=h
       exact ⟨_,h,fun k' h=>b _ (by simp only [hb];exact ⟨h0,vs,h1,h2,h⟩)⟩
   | v x=>obtain ⟨v,h,b1⟩:=gen h;exact ⟨v,h,fun k' h=>b _ (b1 k' h)⟩
   | el a j=>obtain ⟨v,h,b1⟩:=gen h;exact ⟨v,h,fun k' h=>b _ (b1 k' h)⟩
   | sl key a n c=>obtain ⟨v,h,b1⟩:=gen h;exact ⟨v,h,fun k' h=>b _ (b1 k' h)⟩
   | mp key bb=>obtain ⟨v,h,b1⟩:=gen h;exact ⟨v,h,fun k' h=>b _ (b1 k' h)⟩
   | vie key a n c=>obtain ⟨v,h,b1⟩:=gen h;exact ⟨v,h,fun k' h=>b _ (b1 k' h)⟩
 | nil x =>
   simp only [VI] at h ⊢
   obtain ⟨s,h,b⟩:=qw h
   refine ⟨s,?_,fun k' h'=>b _ ?_⟩
   ·split at h<;>first|exact h.elim|exact h.2|exact h
   ·revert h
    cases s with
    | v x=>cases x<;>intro h<;>first|exact h.elim|exact ⟨h.1,h'⟩
    | ptr=>intro _;exact h'
    | el=>intro h;exact ⟨h.1,h'⟩
    | ek=>intro h;exact ⟨h.1,h'⟩
    | sl=>intro h;exact h.elim
    | mp=>intro h;exact h.elim
    | vie=>intro h;exact h.elim
 | fa off x =>
   simp only [VI] at h ⊢
   obtain ⟨s,h,b⟩:=qw h
   split at h
   ·exact ⟨_,h,fun k' h=>b _ h⟩
   ·exact ⟨_,h.2,fun k' h'=>b _ ⟨h.1,h'⟩⟩
   ·exact ⟨_,h.2,fun k' h'=>b _ ⟨h.1,h'⟩⟩
   ·exact ⟨_,h,fun k' h=>b _ h⟩
   ·exact h.elim
 | ia sz x y =>
   simp only [VI] at h ⊢
   obtain ⟨s,h,b⟩:=qw h
   obtain ⟨q,h,b1⟩:=zaU h
   split at h
   ·exact ⟨_,h.2.2,fun k' h'=>b _ (b1 _ ⟨h.1,h.2.1,h'⟩)⟩
   ·exact ⟨_,h.2.2,fun k' h'=>b _ (b1 _ ⟨h.1,h.2.1,h'⟩)⟩
   ·exact h.elim
 | iaa sz len x y =>
   simp only [VI] at h ⊢
   obtain ⟨s,h,b⟩:=qw h
   obtain ⟨q,h,b1⟩:=zaU h
   split at h
   ·exact ⟨_,h.2,fun k' h'=>b _ (b1 _ ⟨h.1,h'⟩)⟩
   ·exact ⟨_,h.2,fun k' h'=>b _ (b1 _ ⟨h.1,h'⟩)⟩
   ·exact h.elim
 | lens x =>
   simp only [VI] at h ⊢
   obtain ⟨s,h,b⟩:=qw h
   split at h
   ·exact ⟨_,h,fun k' h=>b _ h⟩
   ·exact ⟨_,h,fun k' h=>b _ h⟩
   ·exact h.elim
 | lent x =>
   simp only [VI] at h ⊢
   obtain ⟨s,h,b⟩:=qw h
   split at h
   ·exact ⟨_,h,fun k' h=>b _ h⟩
   ·exact h.elim
 | capn x =>
   simp only [VI] at h ⊢
   obtain ⟨s,h,b⟩:=qw h
   split at h
   ·exact ⟨_,h,fun k' h=>b _ h⟩
   ·exact ⟨_,h,fun k' h=>b _ h⟩
   ·exact h.elim
 | cat x y =>
   simp only [VI] at h ⊢
   obtain ⟨s,h,b⟩:=qw h
   obtain ⟨u,h,b1⟩:=qw h
   split at h
   ·exact ⟨_,h.2,fun k' h'=>b _ (b1 _ ⟨h.1,h'⟩)⟩
   ·exact h.elim
 | sst x lo hi =>
   simp only [VI] at h ⊢
   obtain ⟨s,h,b⟩:=qw h
   split at h
   ·obtain ⟨l,h,b1⟩:=zfN h
    obtain ⟨m,h,b2⟩:=zfN h
    exact ⟨_,h.2,fun k' h'=>b _ (b1 _ (b2 _ ⟨h.1,h'⟩))⟩
   ·exact h.elim
 | mm mx kd x y =>
   simp only [VI] at h ⊢
   obtain ⟨p,h,b⟩:=yC h
   obtain ⟨q,h,b1⟩:=yC h
   exact ⟨_,h,fun k' h=>b _ (b1 _ h)⟩
 | mki T x=>simp only [VI] at h ⊢;obtain ⟨u,h,b⟩:=qw h;exact ⟨_,h,fun k' h=>b _ h⟩
 | mkf fn fi ca =>
   simp only [VI] at h ⊢
   obtain ⟨p,h,b⟩:=zoj h
   obtain ⟨q,h,b1⟩:=zoj h
   exact ⟨_,h,fun k' h=>b _ (b1 _ h)⟩
 | slc sz x lo hi =>
   simp only [VI] at h ⊢
   obtain ⟨s,h,b⟩:=qw h
   obtain ⟨l,h,b1⟩:=zfN h
   split at h
   ·obtain ⟨m,⟨h0,h⟩,b2⟩:=zfN h
    exact ⟨_,h,fun k' h=>b _ (b1 _ (b2 _ ⟨h0,h⟩))⟩
   ·obtain ⟨m,⟨h0,h⟩,b2⟩:=zfN h
    exact ⟨_,h,fun k' h=>b _ (b1 _ (b2 _ ⟨h0,h⟩))⟩
   ·exact h.elim
 | fld off lk x =>
   simp only [VI] at h ⊢
   obtain ⟨s,h,b⟩:=qw h
   split at h
   ·obtain ⟨v,h,b1⟩:=zrR h
    exact ⟨_,h,fun k' h=>b _ (b1 _ h)⟩
   ·exact h.elim
 | fls off n x =>
   simp only [VI] at h ⊢
   obtain ⟨s,h,b⟩:=qw h
   split at h
   ·exact ⟨_,h.2,fun k' h'=>b _ ⟨h.1,h'⟩⟩
   ·exact h.elim
 | cvs x =>
   simp only [VI] at h ⊢
   obtain ⟨s,h,b⟩:=qw h
   unfold zaq at h
   split at h
   ·split at h
    ·rename_i ho
     obtain ⟨h1,l,h2,h⟩:=h
     refine ⟨_,h,fun k' h'=>b _ ?_⟩
     simp only [zaq,ho]
     exact ⟨h1,l,h2,h'⟩
    ·exact h.elim
   ·obtain ⟨xs,h1,l,h2,h⟩:=h
    exact ⟨_,h,fun k' h'=>b _ ⟨xs,h1,l,h2,h'⟩⟩
   ·exact h.elim
 | idx len x y =>
   simp only [VI] at h ⊢
   obtain ⟨s,h,b1⟩:=qw h
   obtain ⟨q,h,b2⟩:=zaU h
   split at h
   ·obtain ⟨h1,v,hv,h⟩:=h
    exact ⟨_,h,fun k' h'=>b1 _ (b2 _ ⟨h1,v,hv,h'⟩)⟩
   ·exact h.elim
 | lnm x =>
   simp only [VI] at h ⊢
   obtain ⟨s,h,b⟩:=qw h
   split at h
   ·split at h
    ·rename_i hm
     refine ⟨_,h.2,fun k' h'=>b _ ?_⟩
     simp only [hm]
     exact ⟨h.1,h'⟩
    ·exact h.elim
   ·exact ⟨_,h,fun k' h=>b _ h⟩
   ·exact h.elim
 | lku kk ok z x y =>
   simp only [VI] at h ⊢
   obtain ⟨s,h,b⟩:=qw h
   obtain ⟨u,h,b1⟩:=qw h
   have key:∀ {o:Option Value} {A:Value->Prop} {B:Prop},lkK o A B->(∃ v,o=some v/\A v)∨(o=none/\B):=fun {o A B} h=>by
    cases o with
    | none=>exact .inr ⟨rfl,h.2 rfl⟩
    | some v=>exact .inl ⟨v,rfl,h.1 v rfl⟩
   split at h
   ·split at h
    ·rename_i hm
     obtain ⟨h0,hks⟩:=h
     rcases key (zsY hks) with ⟨v,hv,h⟩|⟨hv,h⟩
     ·refine ⟨_,h,fun k' h'=>b _ (b1 _ ?_)⟩
      simp only [hm]
      exact ⟨h0,zdf (fun _=>zuM hv h') hks⟩
     ·refine ⟨_,h,fun k' h'=>b _ (b1 _ ?_)⟩
      simp only [hm]
      exact ⟨h0,zdf (fun _=>zuN hv h') hks⟩
    ·exact h.elim
   ·exact ⟨_,h.2,fun k' h'=>b _ (b1 _ ⟨h.1,h'⟩)⟩
   ·exact h.elim
 | ixs sz len x y =>
   simp only [VI] at h ⊢
   obtain ⟨s,h,b⟩:=qw h
   obtain ⟨u,h,b1⟩:=zaU h
   split at h
   ·exact ⟨_,h.2,fun k' h'=>b _ (b1 _ ⟨h.1,h'⟩)⟩
   ·exact h.elim
 | tas T ok z x =>
   simp only [VI] at h ⊢
   obtain ⟨s,h,b⟩:=qw h
   split at h
   ·rename_i T' v
    by_cases hT:T'=T
    ·exact ⟨_,h.1 hT,fun k' h'=>b _ ⟨fun _=>h',fun hn=>absurd hT hn⟩⟩
    ·exact ⟨_,(h.2 hT).2,fun k' h'=>b _ ⟨fun hn=>absurd hn hT,fun _=>⟨(h.2 hT).1,h'⟩⟩⟩
   ·exact ⟨_,h.2,fun k' h'=>b _ ⟨h.1,h'⟩⟩
   ·exact h.elim
 | _=>cases hq
end
structure Stop (p:Prop):Prop where
 h:p
def zbb (t:Bool) (A B:Prop):Prop :=
 match t with
 | true=>A
 | false=>B
theorem ze4 {t:Bool} {A B:Prop} (h1:t=true->A) (h2:t=false->B):zbb t A B:=by
 cases t
 ·exact h2 rfl
 ·exact h1 rfl
theorem zb {p:Prop} [Decidable p] {A B:Prop} (h1:p->A) (h2:¬p->B):zbb (decide p) A B :=
 ze4 (fun h=>h1 (of_decide_eq_true h)) (fun h=>h2 (of_decide_eq_false h))
theorem za {p:Prop} [Decidable p] {A B:Prop} (h1:¬p->A) (h2:p->B):zbb (!decide p) A B :=
 ze4 (fun h=>h1 (by simpa using h)) (fun h=>h2 (by simpa using h))
class Bp (t:Bool) (p q:outParam Prop):Prop where
 a:t=true->p
 b:t=false->q
instance (priority:=10) (t:Bool):Bp t (t=true) (t=false):=⟨id,id⟩
instance (priority:=20) (t:Bool):Bp (!t) (t=false) (t=true):=⟨fun h=>by simpa using h,fun h=>by simpa using h⟩
theorem zc {t:Bool} {p q A B:Prop} [k:Bp t p q] (h1:p->A) (h2:q->B):zbb t A B:=ze4 (fun h=>h1 (k.a h)) fun h=>h2 (k.b h)
theorem kM {t:Bool} {A B:Prop} (h:zbb t A B):(t=true->A)/\(t=false->B):=by
 cases t
 ·exact ⟨fun h=>(by cases h),fun _=>h⟩
 ·exact ⟨fun _=>h,fun h=>(by cases h)⟩
def zrd:List Value->Bool
 | []=>true
 | .agg _::_=>false
 | .tuple _::_=>false
 | _::l=>zrd l
theorem zcu:∀ {l:List Value},zrd l=true->yq l
 | [],_=>trivial
 | v :: l,h => by
   cases v<;>first|(cases h;done)|exact ⟨trivial,zcu (l:=l) h⟩
def atL (xs:List Value) (i:Nat):Value:=(xs[i]?).getD undef
def intOf:Value->Int
 | .int _ n=>n
 | _=>0
def ztd:Value->Bool
 | .bool b=>b
 | _=>false
def zvS:Value->ByteArray
 | .string s=>s
 | _=>ByteArray.empty
def zvT:Value->Option Addr
 | .pointer p=>p
 | _=>none
def zvU:Value->Option Addr
 | .slice a _ _=>a
 | _=>none
def zvV:Value->Nat
 | .slice _ n _=>n
 | _=>0
def zvW:Value->Nat
 | .slice _ _ c=>c
 | _=>0
def zkx:Value->Option Nat
 | .map r=>r
 | _=>none
def zdR:LK->Value->Value
 | .int k,v=>.int k (intOf v)
 | .bool,v=>.bool (ztd v)
 | .str,v=>.string (zvS v)
 | .ptr,v=>.pointer (zvT v)
 | .slc,v=>.slice (zvU v) (zvV v) (zvW v)
 | .map,v=>.map (zkx v)
 | .raw,v=>v
def isK (lk:LK) (xs:List Value) (i:Nat):Prop:=xs[i]?=some (zdR lk (atL xs i))
theorem zte {lk:LK} {K:Value->Prop} (v:Value) (h:K (zdR lk v)):uD lk K:=by
 cases lk<;>simp only [uD,zdR] at h ⊢
 ·exact ⟨_,h⟩
 ·exact ⟨_,h⟩
 ·exact ⟨_,h⟩
 ·exact ⟨_,h⟩
 ·exact ⟨_,_,_,h⟩
 ·exact ⟨_,h⟩
 ·exact ⟨_,h⟩
def zjC:List LK->List Value->Nat->List Value
 | [],_,_=>[]
 | k::ks,xs,i=>zdR k (atL xs i)::zjC ks xs (i+1)
def zky:List LK->List Value->Nat->Prop
 | [],_,_=>True
 | k::ks,xs,i=>isK k xs i/\zky ks xs (i+1)
theorem zjd:∀ (ks:List LK) (xs:List Value) (i:Nat),(zjC ks xs i).length=ks.length
 | [],_,_=>rfl
 | _::ks,xs,i=>by simp [zjC,zjd ks]
theorem zok:∀ (ks:List LK) (xs:List Value) (i:Nat),zky ks xs i->(xs.drop i).take ks.length=zjC ks xs i
 | [],_,_,_=>by simp [zjC]
 | k :: ks,xs,i,h => by
   obtain ⟨h1,h2⟩:=h
   obtain ⟨hi,h1⟩:=List.getElem?_eq_some_iff.1 h1
   rw [List.drop_eq_getElem_cons hi]
   simp only [List.length_cons,List.take_succ_cons,zjC]
   rw [zok ks xs (i+1) h2,h1]
def zkz (lk:LK) (v:Value) (K:Value->Prop):Prop :=
 match lk with
 | .int k=>K (.int k (intOf v))
 | .bool=>K (.bool (ztd v))
 | .str=>K (.string (zvS v))
 | .ptr=>K (.pointer (zvT v))
 | .slc=>K (.slice (zvU v) (zvV v) (zvW v))
 | .map=>K (.map (zkx v))
 | .raw=>K v
theorem zkA {lk:LK} {v:Value} {K:Value->Prop} (h:zkz lk v K):K (zdR lk v):=by cases lk<;>exact h
def zgy:List LK->List Value->Nat->(List Value->Prop)->Prop
 | [],_,_,K=>K []
 | k::ks,xs,i,K=>zkz k (atL xs i) fun v=>zgy ks xs (i+1) fun l=>K (v::l)
theorem zkB:∀ {ks:List LK} {xs:List Value} {i:Nat} {K:List Value->Prop},zgy ks xs i K->K (zjC ks xs i)
 | [],_,_,_,h=>h
 | k :: ks,xs,i,K,h => by
   have h1:=zkA (K:=fun v=>zgy ks xs (i+1) fun l=>K (v::l)) h
   exact zkB (K:=fun l=>K (zdR k (atL xs i)::l)) h1
def arK (o:BinOp) (p q:Int) (K:Int->Prop):Prop :=
 match o with
 | .add=>K (p+q)
 | .sub=>K (p - q)
 | .mul=>K (p*q)
 | _=>False
theorem zol {o:BinOp} {p q:Int} {K:Int->Prop} (h:arK o p q K):K (arF o p q):=by
 cases o<;>first|exact h|exact h.elim
def zuO (o:BinOp) (p q:Int) (K:Bool->Prop):Prop :=
 match o with
 | .eql=>K (decide (p=q))
 | .neq=>K (!decide (p=q))
 | .lss=>K (decide (p<q))
 | .leq=>K (decide (p<=q))
 | .gtr=>K (decide (q<p))
 | .geq=>K (decide (q<=p))
 | _=>False
theorem ztf {o:BinOp} {p q:Int} {K:Bool->Prop} (h:zuO o p q K):K (znW o p q):=by
 cases o<;>first|exact h|exact h.elim|(simp only [zuO,znW] at h ⊢;rw [decide_not];exact h)
def zuP (o:BinOp) (p q:Int) (K:Int->Prop):Prop :=
 match o with
 | .and=>K ((p.toNat&&&q.toNat:Nat):Int)
 | .or=>K ((p.toNat|||q.toNat:Nat):Int)
 | .xor=>K ((p.toNat ^^^ q.toNat:Nat):Int)
 | .andNot=>K ((p.toNat ^^^ (p.toNat&&&q.toNat):Nat):Int)
 | _=>False
theorem ztg {o:BinOp} {p q:Int} {K:Int->Prop} (h:zuP o p q K):K ((zdJ o p.toNat q.toNat:Nat):Int):=by
 cases o<;>first|exact h|exact h.elim
def zuQ (k:IntKind) (K:Int->Prop):Prop :=
 match k with
 | .i64=>K 9223372036854775807
 | .i32=>K 2147483647
 | .i16=>K 32767
 | .i8=>K 127
 | .u64=>K 18446744073709551615
 | .u32=>K 4294967295
 | .u16=>K 65535
 | .u8=>K 255
theorem zmF {k:IntKind} {K:Int->Prop} (h:zuQ k K):K (hiK k):=by cases k<;>exact h
def zwT (rem:Bool) (p q:Int) (K:Int->Prop):Prop :=
 match rem with
 | true=>K (p%q)
 | false=>K (p/q)
def ngK (ng b:Bool) (K:Bool->Prop):Prop :=
 match ng with
 | true=>K (!b)
 | false=>K b
theorem zjD {ng b:Bool} {K:Bool->Prop} (h:ngK ng b K):K (ngB ng b):=by cases ng<;>exact h
def zom (i sz:Nat) (K:Nat->Prop):Prop :=
 match sz with
 | 1=>K i
 | _=>K (i*sz)
theorem zhW {i sz:Nat} {K:Nat->Prop} (h:zom i sz K):K (i*sz):=by
 unfold zom at h
 split at h
 ·rw [Nat.mul_one];exact h
 ·exact h
def zon (i j:Nat) (K:Nat->Prop):Prop :=
 match j with
 | 0=>K i
 | _=>K (i+j)
theorem zhX {i j:Nat} {K:Nat->Prop} (h:zon i j K):K (i+j):=by
 unfold zon at h
 split at h
 ·rw [Nat.add_zero];exact h
 ·exact h
def svK (s:SV) (K:Value->Prop):Prop :=
 match s with
 | .v x=>K x
 | .ptr _ b off=>K (.pointer (some ⟨b,off,none⟩))
 | .el a k=>K (.pointer (a.map (·.add k)))
 | .sl _ a n c=>K (.slice a n c)
 | .ek _ a k=>K (.pointer (a.map (·.add k)))
 | .mp _ b=>K (.map (some b))
 | .vie _ a n c=>K (.slice a n c)
theorem zdS {s:SV} {K:Value->Prop} (h:svK s K):K s.val:=by cases s<;>exact h
def zrS:List Value->(List Value->Prop)->Prop
 | [],K=>K []
 | v::l,K=>zrS l fun l=>K (v::l)
theorem zkC:∀ {l:List Value} {K:List Value->Prop},zrS l K->K l
 | [],_,h=>h
 | v::l,K,h=>zkC (l:=l) (K:=fun l=>K (v::l)) h
def zhY (s:SV) (K:List Value->Prop):Prop :=
 match s with
 | .v (.agg cs)=>zrS cs.toList K
 | s=>svK s fun v=>K [v]
theorem ze5 {s:SV} {K:List Value->Prop} (h:zhY s K):K (yE s):=by
 unfold zhY at h
 split at h
 ·exact zkC h
 ·rename_i h1
  have h2:=zdS (K:=fun v=>K [v]) h
  have e:yE s=[s.val]:=by
   unfold yE
   split
   ·exact absurd rfl (h1 _)
   ·rfl
  rw [e];exact h2
def ziM:Nat->List Value->(List Value->Prop)->Prop
 | 0,_,K=>K []
 | _+1,[],K=>K []
 | n+1,v::l,K=>ziM n l fun l=>K (v::l)
theorem zgz:∀ {n:Nat} {l:List Value} {K:List Value->Prop},ziM n l K->K (l.take n)
 | 0,_,_,h=>by simpa [ziM] using h
 | _+1,[],_,h=>by simpa [ziM] using h
 | n + 1,v :: l,K,h => by
   have:=zgz (K:=fun l=>K (v::l)) h
   simpa using this
def zdG:Nat->List Value->List Value->(List Value->Prop)->Prop
 | off+1,c::cs,vs,K=>zdG off cs vs fun l=>K (c::l)
 | 0,cs,[],K=>K cs
 | 0,_::cs,v::vs,K=>zdG 0 cs vs fun l=>K (v::l)
 | _,[],_,_=>False
theorem zbc:∀ {off:Nat} {cs vs:List Value} {K:List Value->Prop},zdG off cs vs K->K (zD cs off vs)
 | off + 1,c :: cs,vs,K,h => by
   have:=zbc (K:=fun l=>K (c::l)) h
   simp only [zD,List.take_succ_cons,List.cons_append] at this ⊢
   rw [show off+1+vs.length=(off+vs.length)+1 from by omega,List.drop_succ_cons]
   exact this
 | 0,cs,[],K,h => by
   cases cs<;>simpa [zD,zdG] using h
 | 0,c :: cs,v :: vs,K,h => by
   have:=zbc (K:=fun l=>K (v::l)) h
   simp only [zD,List.take_zero,List.nil_append,List.length_cons,Nat.zero_add,List.drop_succ_cons,List.cons_append] at this ⊢
   exact this
 | 0,[],v::vs,K,h=>h.elim
 | off+1,[],vs,K,h=>h.elim
def zkD:List Value->List (Nat × List Value)->(List Value->Prop)->Prop
 | z,[],K=>K z
 | z,(off,vs)::ps,K=>zdG off z vs fun z'=>zkD z' ps K
theorem zgA:∀ {ps:List (Nat × List Value)} {z:List Value} {K:List Value->Prop},zkD z ps K->K (ud z ps)
 | [],_,_,h=>h
 | (off,vs) :: ps,z,K,h => by
   have h1:=zbc (K:=fun z'=>zkD z' ps K) h
   exact zgA (ps:=ps) (z:=zD z off vs) h1
def zoo (e:Env):List (Nat × Nat × X)->(List (Nat × List Value)->Prop)->Prop
 | [],K=>K []
 | (off,sz,x)::xs,K=>gA (ev e x) fun s=>zhY s fun vs=>vs.length=sz/\zoo e xs fun l=>K ((off,vs)::l)
theorem zhZ {e:Env}:∀ {ps:List (Nat × Nat × X)} {K:List (Nat × List Value)->Prop},zoo e ps K->gPs e ps K
 | [],_,h=>h
 | (off,sz,x)::xs,K,h=>zX (fun s h=>by
  have:=ze5 (K:=fun vs=>vs.length=sz/\zoo e xs fun l=>K ((off,vs)::l)) h
  exact ⟨this.1,zhZ this.2⟩) h
theorem zjE {e:Env}:∀ {ps:List (Nat × Nat × X)} {K K':List (Nat × List Value)->Prop},(∀ l,K l->K' l)->gPs e ps K->gPs e ps K'
 | [],_,_,hk,h=>hk _ h
 | (off,sz,x)::xs,K,K',hk,h=>zX (fun s h=>⟨h.1,zjE (fun l hl=>hk _ hl) h.2⟩) h
def gVs (e:Env):List X->(List Value->Prop)->Prop
 | [],K=>K []
 | x::xs,K=>gA (ev e x) fun s=>svK s fun v=>gVs e xs fun l=>K (v::l)
theorem zgB {e:Env}:∀ {xs:List X} {K:List Value->Prop},gVs e xs K->gAs e xs fun l=>K (l.map SV.val)
 | [],_,h=>h
 | x::xs,K,h=>zX (fun s h=>zgB (zdS (K:=fun v=>gVs e xs fun l=>K (v::l)) h)) h
theorem zop {e:Env}:∀ {xs:List X} {K K':List SV->Prop},(∀ l,K l->K' l)->gAs e xs K->gAs e xs K'
 | [],_,_,hk,h=>hk _ h
 | x::xs,K,K',hk,h=>zX (fun s h=>zop (fun l hl=>hk _ hl) h) h
def zaV (key:Nat) (cs':List Value):List Ent->(List Ent->Prop)->Prop
 | .box k b cs T :: L,K => match Nat.decEq k key with
   | .isTrue _=>K (.box k b cs' T::L)
   | .isFalse _=>zaV key cs' L fun L'=>K (.box k b cs T::L')
 | .own k a n c T sz xs::L,K=>zaV key cs' L fun L'=>K (.own k a n c T sz xs::L')
 | .abs k fp ok::L,K=>zaV key cs' L fun L'=>K (.abs k fp ok::L')
 | .mapE k b kk m::L,K=>zaV key cs' L fun L'=>K (.mapE k b kk m::L')
 | [],K=>K []
theorem jD {key:Nat} {cs':List Value}:∀ {L:List Ent} {K:List Ent->Prop},zaV key cs' L K->K (jA key cs' L)
 | .box k b cs T :: L,K,h => by
   simp only [zaV] at h
   simp only [jA]
   split at h
   ·rename_i hk _;rw [if_pos hk];exact h
   ·rename_i hk _;rw [if_neg hk];exact jD (K:=fun L'=>K (.box k b cs T::L')) h
 | .own k a n c T sz xs::L,K,h=>jD (K:=fun L'=>K (.own k a n c T sz xs::L')) h
 | .abs k fp ok::L,K,h=>jD (K:=fun L'=>K (.abs k fp ok::L')) h
 | .mapE k b kk m::L,K,h=>jD (K:=fun L'=>K (.mapE k b kk m::L')) h
 | [],_,h=>h
def kr (key:Nat) (a':Option Addr) (n' c':Nat) (xs':List Value):List Ent->(List Ent->Prop)->Prop
 | .own k a n c T sz xs :: L,K => match Nat.decEq k key with
   | .isTrue _=>K (.own k a' n' c' T sz xs'::L)
   | .isFalse _=>kr key a' n' c' xs' L fun L'=>K (.own k a n c T sz xs::L')
 | .box k b cs T::L,K=>kr key a' n' c' xs' L fun L'=>K (.box k b cs T::L')
 | .abs k fp ok::L,K=>kr key a' n' c' xs' L fun L'=>K (.abs k fp ok::L')
 | .mapE k b kk m::L,K=>kr key a' n' c' xs' L fun L'=>K (.mapE k b kk m::L')
 | [],K=>K []
theorem qO {key:Nat} {a':Option Addr} {n' c':Nat} {xs':List Value}:∀ {L:List Ent} {K:List Ent->Prop},kr key a' n' c' xs' L K->K (qp key a' n' c' xs' L)
 | .own k a n c T sz xs :: L,K,h => by
   simp only [kr] at h
   simp only [qp]
   split at h
   ·rename_i hk _;rw [if_pos hk];exact h
   ·rename_i hk _;rw [if_neg hk];exact qO (K:=fun L'=>K (.own k a n c T sz xs::L')) h
 | .box k b cs T::L,K,h=>qO (K:=fun L'=>K (.box k b cs T::L')) h
 | .abs k fp ok::L,K,h=>qO (K:=fun L'=>K (.abs k fp ok::L')) h
 | .mapE k b kk m::L,K,h=>qO (K:=fun L'=>K (.mapE k b kk m::L')) h
 | [],_,h=>h
def zaW (key:Nat) (m':List (Value × Value)):List Ent->(List Ent->Prop)->Prop
 | .mapE k b kk m :: L,K => match Nat.decEq k key with
   | .isTrue _=>K (.mapE k b kk m'::L)
   | .isFalse _=>zaW key m' L fun L'=>K (.mapE k b kk m::L')
 | .own k a n c T sz xs::L,K=>zaW key m' L fun L'=>K (.own k a n c T sz xs::L')
 | .box k b cs T::L,K=>zaW key m' L fun L'=>K (.box k b cs T::L')
 | .abs k fp ok::L,K=>zaW key m' L fun L'=>K (.abs k fp ok::L')
 | [],K=>K []
theorem uj {key:Nat} {m':List (Value × Value)}:∀ {L:List Ent} {K:List Ent->Prop},zaW key m' L K->K (uT key m' L)
 | .mapE k b kk m :: L,K,h => by
   simp only [zaW] at h
   simp only [uT]
   split at h
   ·rename_i hk _;rw [if_pos hk];exact h
   ·rename_i hk _;rw [if_neg hk];exact uj (K:=fun L'=>K (.mapE k b kk m::L')) h
 | .own k a n c T sz xs::L,K,h=>uj (K:=fun L'=>K (.own k a n c T sz xs::L')) h
 | .box k b cs T::L,K,h=>uj (K:=fun L'=>K (.box k b cs T::L')) h
 | .abs k fp ok::L,K,h=>uj (K:=fun L'=>K (.abs k fp ok::L')) h
 | [],_,h=>h
def zlC (s:SV) (K:Value->Prop):Prop :=
 match s with
 | .v (.agg cs)=>K (.agg cs)
 | .v (.int k n)=>K (.int k n)
 | s=>K s.val
theorem zeK {s:SV} {K:Value->Prop} (h:zlC s K):K s.val:=by
 unfold zlC at h
 split at h<;>exact h
def vg:List Value->List Value->List LK->Bool
 | .int k _::xs,.int k' _::ys,.int k''::ks=>decide (k=k'')&&decide (k'=k'')&&vg xs ys ks
 | .bool _::xs,.bool _::ys,.bool::ks=>vg xs ys ks
 | [],[],[]=>true
 | _,_,_=>false
theorem uU:∀ {xs ys:List Value} {ks:List LK},vg xs ys ks=true->zE xs ys ks
 | .int k _ :: xs,.int k' _ :: ys,.int k'' :: ks,h => by
   simp only [vg,Bool.and_eq_true,decide_eq_true_eq] at h
   exact ⟨h.1,uU h.2⟩
 | .bool _::xs,.bool _::ys,.bool::ks,h=>uU (xs:=xs) (ys:=ys) (ks:=ks) h
 | [],[],[],_=>trivial
 | [],_::_,_,h=>by simp [vg] at h
 | [],[],_::_,h=>by simp [vg] at h
 | x::xs,[],_,h=>by cases x<;>simp [vg] at h
 | x::xs,y::ys,[],h=>by cases x<;>cases y<;>simp [vg] at h
 | x :: xs,y :: ys,k :: ks,h => by
   cases x<;>cases y<;>cases k<;>first
    | (simp [vg] at h;done)
    | (simp only [vg,Bool.and_eq_true,decide_eq_true_eq] at h;exact ⟨h.1,uU h.2⟩)
    | exact uU (xs:=xs) (ys:=ys) (ks:=ks) h
def eqK:List Value->List Value->(Bool->Prop)->Prop
 | .int _ a::xs,.int _ b::ys,K=>zbb (decide (a=b)) (eqK xs ys K) (K false)
 | .bool a::xs,.bool b::ys,K=>zbb (decide (a=b)) (eqK xs ys K) (K false)
 | [],[],K=>K true
 | _,_,K=>K false
theorem zdT:∀ {xs ys:List Value} {ks:List LK} {K:Bool->Prop},zE xs ys ks->eqK xs ys K->K (zW xs ys)
 | .int _ a :: xs,.int _ b :: ys,.int _ :: ks,K,ho,h => by
   simp only [zW]
   rcases kM h with ⟨h1,h2⟩
   by_cases hab:a=b
   ·simp only [hab,decide_true,Bool.true_and]
    exact zdT ho.2 (h1 (by simp [hab]))
   ·simp only [hab,decide_false,Bool.false_and]
    exact h2 (by simp [hab])
 | .bool a :: xs,.bool b :: ys,.bool :: ks,K,ho,h => by
   simp only [zW]
   rcases kM h with ⟨h1,h2⟩
   by_cases hab:a=b
   ·simp only [hab,decide_true,Bool.true_and]
    exact zdT (xs:=xs) (ys:=ys) (ks:=ks) ho (h1 (by simp [hab]))
   ·simp only [hab,decide_false,Bool.false_and]
    exact h2 (by simp [hab])
 | [],[],[],K,_,h=>h
 | [],_::_,_,_,ho,_=>by simp [zE] at ho
 | [],[],_::_,_,ho,_=>by simp [zE] at ho
 | x::xs,[],_,_,ho,_=>by cases x<;>simp [zE] at ho
 | x::xs,y::ys,[],_,ho,_=>by cases x<;>cases y<;>simp [zE] at ho
 | x :: xs,y :: ys,k :: ks,K,ho,h => by
   cases x<;>cases y<;>cases k<;>first
    | (simp [zE] at ho;done)
    | (simp only [zW]
       rcases kM h with ⟨h1,h2⟩
       rename_i a b
       by_cases hab:a=b
       ·simp only [hab,decide_true,Bool.true_and]
        exact zdT (xs:=xs) (ys:=ys) (ks:=ks) (by first|exact ho.2|exact ho) (h1 (by simp [hab]))
       ·simp only [hab,decide_false,Bool.false_and]
        exact h2 (by simp [hab]))
    | (simp only [zW]
       rcases kM h with ⟨h1,h2⟩
       rename_i a _ b _
       by_cases hab:a=b
       ·simp only [hab,decide_true,Bool.true_and]
        exact zdT (xs:=xs) (ys:=ys) (ks:=ks) (by first|exact ho.2|exact ho) (h1 (by simp [hab]))
       ·simp only [hab,decide_false,Bool.false_and]
        exact h2 (by simp [hab]))
def zfO (w0:World) (fp0:List Nat) (L:List Ent) (sz:Nat) (s:SV) (K:Nat->List Value->Prop):Prop :=
 match s with
 | .sl key a n c => match zL key L with
   | some ⟨oa,on,oc,_,osz,oxs⟩=>(oa=a/\on=n/\oc=c/\osz=sz)/\K n oxs
   | none=>False
 | .v (.slice a n _)=>∃ xs,RdS w0 fp0 L a (n*sz) xs/\K n xs
 | _=>False
theorem zdU {w0:World} {fp0:List Nat} {L:List Ent} {sz:Nat} {s:SV} {K K':Nat->List Value->Prop} (hk:∀ m ys,K m ys->K' m ys) (h:zfO w0 fp0 L sz s K):zaq w0 fp0 L sz s K':=by
 unfold zfO at h
 unfold zaq
 split at h
 ·split at h
  ·rename_i ho
   simp only [ho]
   exact ⟨h.1,hk _ _ h.2⟩
  ·exact h.elim
 ·obtain ⟨xs,h1,h2⟩:=h
  exact ⟨xs,h1,hk _ _ h2⟩
 ·exact h.elim
section
variable (P:Program) (w0:World) (fp0:List Nat)
def WI (i:I) (e:Env) (L:List Ent) (k:SV->List Ent->Prop):Prop :=
 match i with
 | .mv x=>gA (ev e x) fun s=>k s L
 | .pick c a b=>jt (ev e c) fun t=>gA (ev e a) fun s=>gA (ev e b) fun u=>zbb t (k s L) (k u L)
 | .ar o kd x y=>yg kd (ev e x) fun p=>yg kd (ev e y) fun q=>arK o p q fun n=>za8 kd n fun r=>k (.v (.int kd r)) L
 | .arf o kd x y=>yg kd (ev e x) fun p=>yg kd (ev e y) fun q=>arK o p q fun n=>zeF kd n fun r=>k (.v (.int kd r)) L
 | .dv rem kd x y=>yg kd (ev e x) fun p=>yg kd (ev e y) fun q=>zuQ kd fun hi=>(0<=p/\p<=hi/\0<q)/\zwT rem p q fun r=>k (.v (.int kd r)) L
 | .cmp o kd x y=>yg kd (ev e x) fun p=>yg kd (ev e y) fun q=>zuO o p q fun b=>k (.v (.bool b)) L
 | .bit o kd x y=>yg kd (ev e x) fun p=>yg kd (ev e y) fun q=>zuQ kd fun hi=>(0<=p/\p<=hi/\0<=q/\q<=hi)/\zuP o p q fun r=>k (.v (.int kd r)) L
 | .eqb ng x y=>jt (ev e x) fun p=>jt (ev e y) fun q=>ngK ng (p == q) fun b=>k (.v (.bool b)) L
 | .eqn nk ng x=>gA (ev e x) fun s=>zdK nk s fun b=>ngK ng b fun b=>k (.v (.bool b)) L
 | .eqa ng ks x y => gA (ev e x) fun s => gA (ev e y) fun u => match s,u with
   | .v (.agg p),.v (.agg q) => match vg p.toList q.toList ks with
     | true=>eqK p.toList q.toList fun b=>ngK ng b fun b=>k (.v (.bool b)) L
     | false=>False
   | _,_=>False
 | .sh left kd x y => yg kd (ev e x) fun p => vM (ev e y) fun q => (0 <= q /\ q <= biK kd) /\ match left with
   | true=>za8 kd (p*((2 ^ q.toNat:Nat):Int)) fun r=>k (.v (.int kd r)) L
   | false=>k (.v (.int kd (p/((2 ^ q.toNat:Nat):Int)))) L
 | .mm mx kd x y => yg kd (ev e x) fun p => yg kd (ev e y) fun q => match mx with
   | true=>k (.v (.int kd (max p q))) L
   | false=>k (.v (.int kd (min p q))) L
 | .ld lk x => gA (ev e x) fun s => match s with
   | .ptr key b off => match kn key L with
     | some (b',cs,_)=>b'=b/\gV (nth cs off) fun v=>k (.v v) L
     | none=>uD lk fun v=>Rd w0 fp0 L s [v]/\k (.v v) L
   | .ek key a i => match zL key L with
     | some ⟨oa,_,_,_,_,oxs⟩=>oa=a/\isK lk oxs i/\zkz lk (atL oxs i) fun v=>k (.v v) L
     | none=>False
   | s=>uD lk fun v=>Rd w0 fp0 L s [v]/\k (.v v) L
 | .lda n ks x => gA (ev e x) fun s => match s with
   | .ptr key b off => match kn key L with
     | some (b',cs,_)=>(b'=b/\off+n<=cs.length)/\ziM n (cs.drop off) fun vs=>k (.v (.agg vs.toArray)) L
     | none=>∃ vs:List Value,vs.length=n/\Rd w0 fp0 L s vs/\k (.v (.agg vs.toArray)) L
   | .ek key a i => match zL key L with
     | some ⟨oa,_,_,_,_,oxs⟩=>oa=a/\ks.length=n/\zky ks oxs i/\zgy ks oxs i fun vs=>k (.v (.agg vs.toArray)) L
     | none=>False
   | s=>∃ vs:List Value,vs.length=n/\Rd w0 fp0 L s vs/\k (.v (.agg vs.toArray)) L
 | .fa off x => gA (ev e x) fun s => match s with
   | .ptr key b o=>zon o off fun o=>k (.ptr key b o) L
   | .el a o=>a≠none/\zon o off fun o=>k (.el a o) L
   | .ek key a o=>okA key a L/\zon o off fun o=>k (.ek key a o) L
   | .v (.pointer (some ad))=>k (.v (.pointer (some (ad.add off)))) L
   | _=>False
 | .ia sz x y => gA (ev e x) fun s => vM (ev e y) fun i => match s with
   | .v (.slice a n _)=>(0<=i/\i<n)/\a≠none/\zom i.toNat sz fun j=>k (.el a j) L
   | .sl key a n _=>(0<=i/\i<n)/\okA key a L/\zom i.toNat sz fun j=>k (.ek key a j) L
   | _=>False
 | .iaa sz len x y => gA (ev e x) fun s => vM (ev e y) fun i => match s with
   | .v (.pointer (some ad))=>(0<=i/\i<len)/\zom i.toNat sz fun j=>k (.v (.pointer (some (ad.add j)))) L
   | .ptr key b o=>(0<=i/\i<len)/\k (.ptr key b (o+i.toNat*sz)) L
   | _=>False
 | .app key T sz bytes x y => gA (ev e x) fun s => gA (ev e y) fun u => zfO w0 fp0 L sz u fun m ys => yq ys /\ match s with
   | .sl key' a n c => match zL key' L with
     | some ⟨oa,on,oc,oT,osz,oxs⟩=>(oa=a/\on=n/\oc=c/\oT=T/\osz=sz)/\(n+m<=maxLen/\(n+m)*bytes<=140737488355328)/\∀ a' c',kr key' a' (n+m) c' (oxs++ys) L fun L'=>k (.sl key' a' (n+m) c') L'
     | none=>False
   | .v (.slice none 0 0)=>(m<=maxLen/\m*bytes<=140737488355328)/\∀ a' c',k (.sl key a' m c') (.own key a' m c' T sz ys::L)
   | .vie key' a n c => match zL key' L with
     | some ⟨oa,on,oc,oT,osz,oxs⟩=>(oa=a/\oc=c/\oT=T/\osz=sz/\n+m<=on/\0<on)/\kr key' a on c (zD oxs (n*sz) ys) L fun L'=>k (.vie key' a (n+m) c) L'
     | none=>False
   | _=>False
 | .cpy x y => gA (ev e x) fun s => gA (ev e y) fun u => zfO w0 fp0 L 1 u fun m ys => yq ys /\ match s with
   | .sl key' a n c => match zL key' L with
     | some ⟨oa,on,oc,oT,osz,oxs⟩=>(oa=a/\on=n/\oc=c/\osz=1/\m<=n/\0<m)/\kr key' a n c (zD oxs 0 ys) L fun L'=>k (.v (.int .i64 (m:Int))) L'
     | none=>False
   | _=>False
 | .cpn sz x y => gA (ev e x) fun s => gA (ev e y) fun u => Stop (∃ key : Nat,match zL key L with
   | some ⟨oa,on,oc,oT,osz,oxs⟩=>∃ (kk dl dc sl sc n':Nat) (b:Option Addr) (ys:List Value),(s.val=.slice (xc oa oc kk sz) dl dc/\u.val=.slice b sl sc/\osz=sz/\(kk<=on/\kk+Nat.min sl dl<=oc/\0<on/\n'=max on (kk+Nat.min sl dl)/\0<Nat.min sl dl/\0<sz)/\RdS w0 fp0 L b (Nat.min sl dl*sz) ys/\yq ys)/\kr key oa n' oc (zD oxs (kk*sz) ys) L fun L'=>k (.v (.int .i64 (Nat.min sl dl:Nat))) L'
   | none=>False)
 | .xcall f args=>gVs e args fun l=>Stop (∃ v:Value,(∀ w,R w0 fp0 L w->(callFunc f l.toArray).run P w=.ok (.value v) w)/\k (.v v) L)
 | .lku kk ok z x y => gA (ev e x) fun s => gA (ev e y) fun u => zlC u fun u => match s with
   | .mp key b => match vp key L with
     | some (b',kk',m)=>(b'=b/\kk'=kk/\qj kk u)/\keysK w0 fp0 L kk m u (Stop ((∀ v,uE m u=some v->k (.v (lkV ok v true)) L)/\(uE m u=none->k (.v (lkV ok z false)) L)))
     | none=>False
   | .v (.map none)=>qj kk u/\k (.v (lkV ok z false)) L
   | _=>False
 | .mup kk x y z => gA (ev e x) fun s => gA (ev e y) fun u => gA (ev e z) fun t => zlC u fun u => svK t fun t => match s with
   | .mp key b => match vp key L with
     | some (b',kk',m)=>(b'=b/\kk'=kk/\qj kk u)/\keysK w0 fp0 L kk m u (zaW key (uF m u t) L fun L'=>k (.v undef) L')
     | none=>False
   | _=>False
 | .lks ok z x y => gA (ev e x) fun s => gA (ev e y) fun u => zlC u fun u => match s with
   | .mp key b => match vp key L with
     | some (b',kk',m)=>(b'=b/\kk'=.ptr/\qj .ptr u)/\znN w0 fp0 L m u/\Stop ((∀ p∈m,k (.v (lkV ok p.2 true)) L)/\k (.v (lkV ok z false)) L)
     | none=>False
   | _=>False
 | .mus x y z => gA (ev e x) fun s => gA (ev e y) fun u => gA (ev e z) fun t => zlC u fun u => svK t fun t => match s with
   | .mp key b => match vp key L with
     | some (b',kk',m)=>(b'=b/\kk'=.ptr/\qj .ptr u)/\znN w0 fp0 L m u/\∀ m',zvR m u t m'->zaW key m' L fun L'=>k (.v undef) L'
     | none=>False
   | _=>False
 | .tas T ok z x => gA (ev e x) fun s => match s with
   | .v (.iface T' v) => match Nat.decEq T' T with
     | .isTrue _=>k (.v (lkV ok v true)) L
     | .isFalse _=>ok=true/\k (.v (lkV ok z false)) L
   | .v .nilIface=>ok=true/\k (.v (lkV ok z false)) L
   | _=>False
 | .apz key T sz bytes z x y => gA (ev e x) fun s => vM (ev e y) fun q => (0 <= q /\ yq z) /\ match s with
   | .sl key' a n c => match zL key' L with
     | some ⟨oa,on,oc,oT,osz,oxs⟩=>(oa=a/\on=n/\oc=c/\oT=T/\osz=sz)/\(n+q.toNat<=maxLen/\(n+q.toNat)*bytes<=140737488355328)/\∀ a' c',kr key' a' (n+q.toNat) c' (oxs++(List.replicate q.toNat z).flatten) L fun L'=>k (.sl key' a' (n+q.toNat) c') L'
     | none=>False
   | .v (.slice none 0 0)=>(q.toNat<=maxLen/\q.toNat*bytes<=140737488355328)/\∀ a' c',k (.sl key a' q.toNat c') (.own key a' q.toNat c' T sz (List.replicate q.toNat z).flatten::L)
   | .v (.slice (some _) 0 c)=>(c<q.toNat/\q.toNat<=maxLen/\q.toNat*bytes<=140737488355328)/\∀ a' c',q.toNat<=c'->k (.sl key a' q.toNat c') (.own key a' q.toNat c' T sz (List.replicate q.toNat z).flatten::L)
   | _=>False
 | .slo sz x hi => gA (ev e x) fun s => match s with
   | .sl key a n c => match zL key L with
     | some ⟨oa,on,oc,_,osz,oxs⟩=>jB e hi n fun h=>(oa=a/\oc=c/\osz=sz/\0<=h/\h<=on)/\kr key a h.toNat c (oxs.take (h.toNat*sz)) L fun L'=>k (.sl key a h.toNat c) L'
     | none=>False
   | _=>False
 | .call f args=>gVs e args fun l=>z8 P w0 fp0 f l L k
 | .bld z ps=>zoo e ps fun l=>zkD z l fun cs=>k (.v (.agg cs.toArray)) L
 | .bsl key T sz n z ps=>zoo e ps fun l=>zkD z l fun cs=>yq cs/\∀ b:Nat,k (.sl key (some ⟨b,0,none⟩) n n) (.own key (some ⟨b,0,none⟩) n n T sz cs::L)
 | .box key T x=>gA (ev e x) fun s=>zhY s fun cs=>∀ b:Nat,k (.ptr key b 0) (.box key b cs T::L)
 | .st n x y => gA (ev e x) fun s => gA (ev e y) fun u => zhY u fun vs => (vs.length = n /\ yq vs) /\ match s with
   | .ptr key b off => match kn key L with
     | some (b',cs,_)=>(b'=b/\off+n<=cs.length)/\zdG off cs vs fun cs'=>zaV key cs' L fun L'=>k (.v undef) L'
     | none=>∃ L',St w0 fp0 L s vs L'/\k (.v undef) L'
   | .ek key a i => match zL key L with
     | some ⟨oa,on,oc,_,_,oxs⟩=>(oa=a/\i+n<=oxs.length)/\kr key oa on oc (zD oxs i vs) L fun L'=>k (.v undef) L'
     | none=>False
   | s=>∃ L',St w0 fp0 L s vs L'/\k (.v undef) L'
 | .fls off n x => gA (ev e x) fun s => match s with
   | .v (.agg cs)=>off+n<=cs.toList.length/\ziM n (cs.toList.drop off) fun vs=>k (.v (.agg vs.toArray)) L
   | _=>False
 | .apc T sz x y => gA (ev e x) fun s => gA (ev e y) fun u => zfO w0 fp0 L sz u fun m ys => yq ys /\ match s with
   | .sl key' a n c => match zL key' L with
     | some ⟨oa,on,oc,oT,osz,oxs⟩=>(oa=a/\on=n/\oc=c/\oT=T/\osz=sz/\0<m/\n+m<=c)/\kr key' a (n+m) c (oxs++ys) L fun L'=>k (.sl key' a (n+m) c) L'
     | none=>False
   | _=>False
 | i=>VI P w0 fp0 i e L k
end
section
variable {P:Program} {w0:World} {fp0:List Nat} {e:Env} {L:List Ent} {k:SV->List Ent->Prop} {i:I}
theorem zrT (h:WI P w0 fp0 i e L k):VI P w0 fp0 i e L k:=by
 cases i with
 | mv x=>exact h
 | pick c x y=>exact zgs (fun t h=>zX (fun s h=>zX (fun u h=>kM h) h) h) h
 | ar o kd x y=>exact xz (fun p h=>xz (fun q h=>zol h) h) h
 | arf o kd x y=>exact xz (fun p h=>xz (fun q h=>zol h) h) h
 | dv rem kd x y =>
   refine xz (fun p h=>xz (fun q h=>?_) h) h
   have h:=zmF (K:=fun hi=>(0<=p/\p<=hi/\0<q)/\zwT rem p q fun r=>k (.v (.int kd r)) L) h
   refine ⟨h.1,?_⟩
   cases rem<;>exact h.2
 | cmp o kd x y=>exact xz (fun p h=>xz (fun q h=>ztf (K:=fun b=>k (.v (.bool b)) L) h) h) h
 | bit o kd x y =>
   refine xz (fun p h=>xz (fun q h=>?_) h) h
   have h:=zmF (K:=fun hi=>(0<=p/\p<=hi/\0<=q/\q<=hi)/\zuP o p q fun r=>k (.v (.int kd r)) L) h
   exact ⟨h.1,ztg (K:=fun r=>k (.v (.int kd r)) L) h.2⟩
 | eqb ng x y=>exact zgs (fun p h=>zgs (fun q h=>zjD (K:=fun b=>k (.v (.bool b)) L) h) h) h
 | eqn nk ng x =>
   refine zX (fun s h=>?_) h
   unfold zdK at h ⊢
   split at h<;>first|exact h.elim|exact zjD (K:=fun b=>k (.v (.bool b)) L) h
 | eqa ng ks x y =>
   refine zX (fun s h=>zX (fun u h=>?_) h) h
   split at h
   ·split at h
    ·rename_i hb
     have ho:=uU hb
     exact ⟨ho,zjD (K:=fun b=>k (.v (.bool b)) L) (zdT (K:=fun b=>ngK ng b fun b=>k (.v (.bool b)) L) ho h)⟩
    ·exact h.elim
   ·exact h.elim
 | sh left kd x y=>exact h
 | mm mx kd x y =>
   refine xz (fun p h=>xz (fun q h=>?_) h) h
   cases mx
   ·have e1:min p q=if q<p then q else p:=by split<;>omega
    simp only at h ⊢
    rw [←e1];exact h
   ·have e1:max p q=if q>p then q else p:=by split<;>omega
    simp only at h ⊢
    rw [←e1];exact h
 | ld lk x =>
   refine zX (fun s h=>?_) h
   split at h
   ·exact h
   ·split at h
    ·rename_i ho
     simp only [ho]
     exact ⟨h.1,zte _ ⟨h.2.1,zkA (K:=fun v=>k (.v v) L) h.2.2⟩⟩
    ·exact h.elim
   ·rename_i h1 h2
    split
    ·exact absurd rfl (h1 _ _ _)
    ·exact absurd rfl (h2 _ _ _)
    ·exact h
 | lda n ks x =>
   refine zX (fun s h=>?_) h
   split at h
   ·split at h
    ·rename_i hb
     simp only [hb]
     exact ⟨h.1,zgz (K:=fun vs=>k (.v (.agg vs.toArray)) L) h.2⟩
    ·rename_i hb
     simp only [hb]
     exact h
   ·split at h
    ·rename_i ho
     simp only [ho]
     obtain ⟨h1,rfl,h3,h4⟩:=h
     exact ⟨h1,_,zjd _ _ _,zok _ _ _ h3,zkB (K:=fun vs=>k (.v (.agg vs.toArray)) L) h4⟩
    ·exact h.elim
   ·rename_i h1 h2
    split
    ·exact absurd rfl (h1 _ _ _)
    ·exact absurd rfl (h2 _ _ _)
    ·exact h
 | fa off x =>
   refine zX (fun s h=>?_) h
   split at h
   ·exact zhX (K:=fun o=>k (.ptr _ _ o) L) h
   ·exact ⟨h.1,zhX (K:=fun o=>k (.el _ o) L) h.2⟩
   ·exact ⟨h.1,zhX (K:=fun o=>k (.ek _ _ o) L) h.2⟩
   ·exact h
   ·exact h.elim
 | ia sz x y =>
   refine zX (fun s h=>zeE (fun q h=>?_) h) h
   split at h
   ·exact ⟨h.1,h.2.1,zhW (K:=fun j=>k (.el _ j) L) h.2.2⟩
   ·exact ⟨h.1,h.2.1,zhW (K:=fun j=>k (.ek _ _ j) L) h.2.2⟩
   ·exact h.elim
 | iaa sz len x y =>
   refine zX (fun s h=>zeE (fun q h=>?_) h) h
   split at h
   ·exact ⟨h.1,zhW (K:=fun j=>k (.v (.pointer (some (Addr.add _ j)))) L) h.2⟩
   ·exact h
   ·exact h.elim
 | app key T sz bytes x y =>
   refine zX (fun s h=>zX (fun u h=>zdU (fun m ys h=>⟨h.1,?_⟩) h) h) h
   have h:=h.2
   split at h
   ·split at h
    ·rename_i ho
     simp only [ho]
     exact ⟨h.1,h.2.1,fun a' c'=>qO (K:=fun L'=>k (.sl _ a' _ c') L') (h.2.2 a' c')⟩
    ·exact h.elim
   ·exact h
   ·split at h
    ·rename_i ho
     simp only [ho]
     exact ⟨h.1,qO (K:=fun L'=>k (.vie _ _ _ _) L') h.2⟩
    ·exact h.elim
   ·exact h.elim
 | cpy x y =>
   refine zX (fun s h=>zX (fun u h=>zdU (fun m ys h=>⟨h.1,?_⟩) h) h) h
   have h:=h.2
   split at h
   ·split at h
    ·rename_i ho
     simp only [ho]
     exact ⟨h.1,qO (K:=fun L'=>k (.v (.int .i64 _)) L') h.2⟩
    ·exact h.elim
   ·exact h.elim
 | cpn sz x y =>
   refine zX (fun s h=>zX (fun u h=>?_) h) h
   obtain ⟨key,h⟩:=h.h
   refine ⟨key,?_⟩
   split at h
   ·rename_i ho
    simp only [ho]
    obtain ⟨kk,dl,dc,sl,sc,n',b,ys,h1,h2⟩:=h
    exact ⟨kk,dl,dc,sl,sc,n',b,ys,h1,qO (K:=fun L'=>k (.v (.int .i64 (Nat.min sl dl:Nat))) L') h2⟩
   ·exact h.elim
 | xcall f args =>
   have h:=zgB h
   exact zop (fun l h=>h.h) h
 | lku kk ok z x y =>
   refine zX (fun s h=>zX (fun u h=>?_) h) h
   have h:=zeK h
   split at h
   ·split at h
    ·rename_i hm
     simp only [hm]
     exact ⟨h.1,zdf (fun h=>h.h) h.2⟩
    ·exact h.elim
   ·exact h
   ·exact h.elim
 | mup kk x y z =>
   refine zX (fun s h=>zX (fun u h=>zX (fun t h=>?_) h) h) h
   have h:=zdS (zeK h)
   split at h
   ·split at h
    ·rename_i hm
     simp only [hm]
     exact ⟨h.1,zdf (fun h=>uj (K:=fun L'=>k (.v undef) L') h) h.2⟩
    ·exact h.elim
   ·exact h.elim
 | lks ok z x y =>
   refine zX (fun s h=>zX (fun u h=>?_) h) h
   have h:=zeK h
   split at h
   ·split at h
    ·rename_i hm
     simp only [hm]
     exact ⟨h.1,h.2.1,h.2.2.h⟩
    ·exact h.elim
   ·exact h.elim
 | mus x y z =>
   refine zX (fun s h=>zX (fun u h=>zX (fun t h=>?_) h) h) h
   have h:=zdS (zeK h)
   split at h
   ·split at h
    ·rename_i hm
     simp only [hm]
     exact ⟨h.1,h.2.1,fun m' hm'=>uj (K:=fun L'=>k (.v undef) L') (h.2.2 m' hm')⟩
    ·exact h.elim
   ·exact h.elim
 | tas T ok z x =>
   refine zX (fun s h=>?_) h
   split at h
   ·split at h
    ·rename_i hT _
     exact ⟨fun _=>h,fun hn=>absurd hT hn⟩
    ·rename_i hT _
     exact ⟨fun hn=>absurd hn hT,fun _=>h⟩
   ·exact h
   ·exact h.elim
 | apz key T sz bytes z x y =>
   refine zX (fun s h=>zeE (fun q h=>⟨h.1,?_⟩) h) h
   have h:=h.2
   split at h
   ·split at h
    ·rename_i ho
     simp only [ho]
     exact ⟨h.1,h.2.1,fun a' c'=>qO (K:=fun L'=>k (.sl _ a' _ c') L') (h.2.2 a' c')⟩
    ·exact h.elim
   ·exact h
   ·exact h
   ·exact h.elim
 | fls off n x =>
   refine zX (fun s h=>?_) h
   split at h
   ·exact ⟨h.1,zgz (K:=fun vs=>k (.v (.agg vs.toArray)) L) h.2⟩
   ·exact h.elim
 | apc T sz x y =>
   refine zX (fun s h=>zX (fun u h=>zdU (fun m ys h=>⟨h.1,?_⟩) h) h) h
   have h:=h.2
   split at h
   ·split at h
    ·rename_i ho
     simp only [ho]
     exact ⟨h.1,qO (K:=fun L'=>k (.sl _ _ _ _) L') h.2⟩
    ·exact h.elim
   ·exact h.elim
 | slo sz x hi =>
   refine zX (fun s h=>?_) h
   split at h
   ·split at h
    ·rename_i ho
     simp only [ho]
     revert h
     cases hi with
     | none=>intro h;exact ⟨h.1,qO (K:=fun L'=>k (.sl _ _ _ _) L') h.2⟩
     | some y=>intro h;exact zeE (fun q h=>⟨h.1,qO (K:=fun L'=>k (.sl _ _ _ _) L') h.2⟩) h
    ·exact h.elim
   ·exact h.elim
 | call f args=>exact zgB (K:=fun l=>z8 P w0 fp0 f l L k) h
 | bld z ps=>exact zjE (fun l h=>zgA (K:=fun cs=>k (.v (.agg cs.toArray)) L) h) (zhZ h)
 | bsl key T sz n z ps=>exact zjE (fun l h=>zgA (K:=fun cs=>yq cs/\∀ b:Nat,k (.sl key (some ⟨b,0,none⟩) n n) (.own key (some ⟨b,0,none⟩) n n T sz cs::L)) h) (zhZ h)
 | box key T x=>exact zX (fun s h=>ze5 (K:=fun cs=>∀ b:Nat,k (.ptr key b 0) (.box key b cs T::L)) h) h
 | st n x y =>
   refine zX (fun s h=>zX (fun u h=>?_) h) h
   have h:=ze5 h
   refine ⟨h.1,?_⟩
   have h:=h.2
   split at h
   ·split at h
    ·rename_i hb
     simp only [hb]
     exact ⟨h.1,jD (K:=fun L'=>k (.v undef) L') (zbc (K:=fun cs'=>zaV _ cs' L fun L'=>k (.v undef) L') h.2)⟩
    ·rename_i hb
     simp only [hb]
     exact h
   ·split at h
    ·rename_i ho
     simp only [ho]
     exact ⟨h.1,qO (K:=fun L'=>k (.v undef) L') h.2⟩
    ·exact h.elim
   ·rename_i h1 h2
    split
    ·exact absurd rfl (h1 _ _ _)
    ·exact absurd rfl (h2 _ _ _)
    ·exact h
 | _=>exact h
end
structure Gop where
 d:Option Nat
 g:Option (Nat × Bool)
 i:I
def zgC (d:Option Nat) (s:SV) (e:Env):Env :=
 match d with
 | some d=>(d,s)::e
 | none=>e
inductive Tr where
 | done
 | take (i:Nat) (t:Tr)
 | alt (i:Nat) (lt:Bool) (t r:Tr)
 | bar (i:Nat) (t:Tr)
 | mov (i:Nat) (t:Tr)
 | can (t:Tr)
 | nil
inductive C where
 | skip
 | reg (l:List Gop)
 | drw (l:List Gop) (t:Tr)
 | drb (l:List Gop) (t:Tr)
 | seq (a b:C)
 | cut (a b:C)
 | cond (x:X) (a b:C)
 | blk (id:Nat) (c:C)
 | loop (c:C)
 | exit (id:Nat)
 | ret
abbrev Gop.o (d:Nat) (i:I):Gop:=⟨some d,none,i⟩
abbrev Gop.v (d n:Nat):Gop:=⟨some d,none,.mv (.t n)⟩
abbrev Gop.u (i:I):Gop:=⟨none,none,i⟩
abbrev Gop.w (d g:Nat) (b:Bool) (i:I):Gop:=⟨some d,some (g,b),i⟩
abbrev X.k (n:Int):X:=.c (.int .i64 n)
abbrev C.s (l:List Gop) (c:C):C:=.seq (.reg l) c
instance (n:Nat):OfNat X n:=⟨.t n⟩
section
variable (P:Program) (w0:World) (fp0:List Nat)
def zvX (b want:Bool) (A B:Prop):Prop :=
 match want with
 | true=>zbb b A B
 | false=>zbb b B A
def zcv (e:Env) (g:Nat) (want:Bool) (A B skip:Prop):Prop :=
 match ui e g with
 | some (.v (.bool b))=>zvX b want A B
 | some (.v (.tuple _))=>skip
 | _=>False
def zoq (L:List Ent):SV->Prop
 | .sl key a n c => match zL key L with
   | some o=>o.a=a/\o.n=n/\o.c=c
   | none=>False
 | .mp key b => match vp key L with
   | some (b',_,_)=>b'=b
   | none=>False
 | .ptr key b _ => match kn key L with
   | some (b',_,_)=>b'=b
   | none=>True
 | _=>True
def ziN (s:SV) (L:List Ent) (K:SV->Prop):Prop:=∃ s':SV,(s'.val=s.val/\zoq L s')/\K s'
theorem zg {L:List Ent} {s:SV} {K:SV->Prop} (h:K s) (t:zoq L s:=by exact trivial):∃ s':SV,(s'.val=s.val/\zoq L s')/\K s':=⟨s,⟨rfl,t⟩,h⟩
def zgD (i:I) (s:SV) (L:List Ent) (K:SV->Prop):Prop :=
 match i with
 | .ld .ptr _=>ziN s L K
 | .ld .slc _=>ziN s L K
 | .ld .map _=>ziN s L K
 | .fld _ .ptr _=>ziN s L K
 | .fld _ .slc _=>ziN s L K
 | .fld _ .map _=>ziN s L K
 | _=>K s
theorem zrU {i:I} {s:SV} {L:List Ent} {K:SV->Prop} (h:zgD i s L K):∃ s',s'.val=s.val/\K s':=by
 unfold zgD at h
 split at h<;>first|exact ⟨s,rfl,h⟩|(obtain ⟨s',h1,h2⟩:=h;exact ⟨s',h1.1,h2⟩)
def zkE (d:Option Nat) (i:I) (s:SV) (L:List Ent) (K:SV->Prop):Prop :=
 match d with
 | some _=>zgD i s L K
 | none=>K s
theorem zdh {d:Option Nat} {i:I} {s:SV} {L:List Ent} {K:SV->Prop} (h:zkE d i s L K):∃ s',s'.val=s.val/\K s':=by
 cases d with
 | none=>exact ⟨s,rfl,h⟩
 | some _=>exact zrU h
def VO (io:Gop) (e:Env) (L:List Ent) (K:Env->List Ent->Prop):Prop :=
 match io with
 | ⟨some d,none,i⟩=>WI P w0 fp0 i e L fun s L'=>zgD i s L' fun s=>K ((d,s)::e) L'
 | ⟨none,none,i⟩=>WI P w0 fp0 i e L fun _ L'=>K e L'
 | ⟨some d,some (g,want),i⟩=>zcv e g want (WI P w0 fp0 i ((g,.v (.bool want))::e) L fun s L'=>zgD i s L' fun s=>K ((d,s)::(g,.v (.bool want))::e) L')
  (K ((d,.v undef)::(g,.v (.bool (!want)))::e) L) (K ((d,.v undef)::e) L)
 | ⟨none,some (g,want),i⟩=>zcv e g want (WI P w0 fp0 i ((g,.v (.bool want))::e) L fun _ L'=>K ((g,.v (.bool want))::e) L')
  (K ((g,.v (.bool (!want)))::e) L) (K e L)
def VL:List Gop->Env->List Ent->(Env->List Ent->Prop)->Prop
 | [],e,L,K=>K e L
 | io::l,e,L,K=>VO P w0 fp0 io e L fun e' L'=>VL l e' L' K
def yN (f:Nat) (args:List Value) (L:List Ent) (K:SV->Prop):Prop :=
 ∃ s,(∀ w,R w0 fp0 L w->Calls P f args.toArray w fun x w'=>x=.returned s.val/\Ext w w')/\K s
def VQ (i:I) (e:Env) (L:List Ent) (K:SV->Prop):Prop :=
 match i with
 | .call f args=>gVs e args fun l=>yN P w0 fp0 f l L K
 | i => match isQ i with
   | true=>WI P w0 fp0 i e L fun s _=>K s
   | false=>False
def VS (io:Gop) (e:Env) (L:List Ent) (K:Env->Prop):Prop :=
 match io with
 | ⟨some d,none,i⟩=>VQ P w0 fp0 i e L fun s=>zgD i s L fun s=>K ((d,s)::e)
 | ⟨none,none,i⟩=>VQ P w0 fp0 i e L fun _=>K e
 | ⟨some d,some (g,want),i⟩=>zcv e g want (VQ P w0 fp0 i ((g,.v (.bool want))::e) L fun s=>zgD i s L fun s=>K ((d,s)::(g,.v (.bool want))::e))
  (K ((d,.v undef)::(g,.v (.bool (!want)))::e)) (K ((d,.v undef)::e))
 | ⟨none,some (g,want),i⟩=>zcv e g want (VQ P w0 fp0 i ((g,.v (.bool want))::e) L fun _=>K ((g,.v (.bool want))::e))
  (K ((g,.v (.bool (!want)))::e)) (K e)
def Ref (L' L:List Ent):Prop:=∀ w,R w0 fp0 L' w->R w0 fp0 L w
def zdi (l:List Gop) (i:Nat) (K:Gop->Prop):Prop :=
 match l,i with
 | io::_,0=>K io
 | _::l,n+1=>zdi l n K
 | [],_=>False
def zcV:Env->Env->Prop
 | [],_=>True
 | (t,s)::e',e=>gA (ui e t) (fun s'=>s'.val=s.val)/\zcV e' e
def VT (l:List Gop) (K:Env->List Ent->Prop):Tr->List Ent->Env->List Ent->Prop
 | .done,_,e,L=>K e L
 | .take i t,Lb,e,L=>zdi l i fun io=>VS P w0 fp0 io e Lb fun e'=>VT l K t Lb e' L
 | .alt i false t .nil,Lb,e,L=>zdi l i fun io=>VO P w0 fp0 io e L fun e' L'=>VT l K t Lb e' L'
 | .alt i true t .nil,Lb,e,L=>zdi l i fun io=>VO P w0 fp0 io e L fun e' L'=>Ref w0 fp0 L' Lb/\VT l K t Lb e' L'
 | .alt i lt t r,Lb,e,L=>Stop ((zdi l i fun io=>VO P w0 fp0 io e L fun e' L'=>(lt=true->Ref w0 fp0 L' Lb)/\VT l K t Lb e' L')/\VT l K r Lb e L)
 | .mov i t,Lb,e,L=>zdi l i fun io=>VS P w0 fp0 io e Lb fun e'=>VT l K t Lb e' L
 | .can t,Lb,e,L=>Stop (∃ e' L',zcV e' e/\Ref w0 fp0 L L'/\VT l K t Lb e' L')
 | .bar i t,_,e,L=>zdi l i fun io=>VO P w0 fp0 io e L fun e' L'=>VT l K t L' e' L'
 | .nil,_,_,_=>True
def zxz (f:Env->List Ent->Prop) (K:Exit->Env->List Ent->Prop):Exit->Env->List Ent->Prop
 | .normal,e,L=>f e L
 | x,e,L=>K x e L
def zwU (id:Nat) (K:Exit->Env->List Ent->Prop):Exit->Env->List Ent->Prop
 | .exit id',e,L=>if id'=id then K .normal e L else K (.exit id') e L
 | x,e,L=>K x e L
def zrV {α:Type} (E:α->Env) (H:α->List Ent) (I:α->Prop) (μ:α->Nat) (m:Nat) (K:Exit->Env->List Ent->Prop):Exit->Env->List Ent->Prop
 | .normal,e,L=>Stop (∃ x,(I x/\μ x<m)/\zcV (E x) e/\Ref w0 fp0 L (H x))
 | x,e,L=>K x e L
def zuR {α:Type} (E:α->Env) (H:α->List Ent) (I:α->Prop) (K:Exit->Env->List Ent->Prop):Exit->Env->List Ent->Prop
 | .normal,e,L=>Stop (∃ x,I x/\zcV (E x) e/\Ref w0 fp0 L (H x))
 | x,e,L=>K x e L
def VC:C->(Exit->Env->List Ent->Prop)->Env->List Ent->Prop
 | .skip,K,e,L=>K .normal e L
 | .reg l,K,e,L=>VL P w0 fp0 l e L (K .normal)
 | .drw l t,K,e,L=>VT P w0 fp0 l (K .normal) t L e L
 | .drb l t,K,e,L=>Stop (∃ Lb,Ref w0 fp0 L Lb/\VT P w0 fp0 l (K .normal) t Lb e L)
 | .seq a b,K,e,L=>VC a (zxz (VC b K) K) e L
 | .cut a b,K,e,L=>Stop (∃ (α:Type) (E:α->Env) (H:α->List Ent) (I:α->Prop),VC a (zuR w0 fp0 E H I K) e L/\∀ x,I x->VC b K (E x) (H x))
 | .cond x a b,K,e,L=>jt (ev e x) fun t=>zbb t (VC a K e L) (VC b K e L)
 | .blk id c,K,e,L=>VC c (zwU id K) e L
 | .loop c,K,e,L=>Stop (∃ (α:Type) (E:α->Env) (H:α->List Ent) (I:α->Prop) (μ:α->Nat),(∃ x,I x/\zcV (E x) e/\Ref w0 fp0 L (H x))/\∀ x,I x->VC c (zrV w0 fp0 E H I μ (μ x) K) (E x) (H x))
 | .exit id,K,e,L=>K (.exit id) e L
 | .ret,K,e,L=>K .ret e L
end
def wQ (w0:World) (fp0:List Nat) (n:Nat) (ds:List Deferred) (K:Exit->Env->List Ent->Prop):Exit->Act->World->Prop
 | .panic _,_,_=>False
 | .goto _,_,_=>False
 | .outgrown,_,_=>False
 | x,a,w=>∃ e L,Agree n ds e a/\R w0 fp0 L w/\K x e L
section
variable {P:Program} {w0:World} {fp0:List Nat} {n:Nat} {ds:List Deferred} {e:Env} {a:Act} {L:List Ent} {w:World} {o:Oper} {i:I} {fl:Bool}
def zrW (n:Nat) (d:Option Nat):Prop:=∀ x,d=some x->x<n
theorem uw {d:Option Nat} {s:SV} {v:Value} (hA:Agree n ds e a) (hd:zrW n d) (hv:s.val=v):Agree n ds (zgC d s e) (a.put d v):=by
 cases d with
 | none=>exact hA
 | some x=>exact hA.put (hd x rfl) hv
theorem zre {k:SV->List Ent->Prop} {K:Act->World->Prop} {Q:Exit->Act->World->Prop} (h:zn0 P w0 fp0 o a w i k) (hK:∀ s L' w',R w0 fp0 L' w'->k s L'->K (a.put o.dst s.val) w'):o.wp P a w K Q:=by
 unfold Oper.wp
 rcases h with ⟨v,h1,s,L',rfl,hR,hk⟩|⟨_,v,w',h1,s,L',rfl,hR,hk⟩|⟨_,w',h1,s,L',hs,hR,hk⟩|⟨_,f,args,h1,h2⟩
 ·rw [h1];exact hK s L' _ hR hk
 ·rw [h1];exact hK s L' _ hR hk
 ·rw [h1];show K (a.put o.dst undef) w';rw [←hs];exact hK s L' _ hR hk
 ·rw [h1]
  refine h2.mono fun e w' ⟨v,he,s,L',hs,hR,hk⟩=>?_
  subst he
  show K (a.put o.dst v) w'
  rw [←hs]
  exact hK s L' _ hR hk
theorem zje {ops:Array Oper} {j:Nat} {g:Nat} {want b:Bool} (hA:Agree n ds e a) (hg:o.guard=some (j,want)) (hj:(ops[j]?).bind (·.dst)=some g) (hb:ui e g=some (.v (.bool b))):Region.wanted o (yielded ops a.tmps)=(b == want):=by
 have h1:a.tmps[g]?=some (.bool b):=hA.at_ g _ hb
 simp [Region.wanted,hg,yielded,hj,h1]
theorem zh0 {ops:Array Oper} {j:Nat} {g:Nat} {want:Bool} {vs:Array Value} (hA:Agree n ds e a) (hg:o.guard=some (j,want)) (hj:(ops[j]?).bind (·.dst)=some g) (hb:ui e g=some (.v (.tuple vs))):Region.wanted o (yielded ops a.tmps)=false:=by
 have h1:a.tmps[g]?=some (.tuple vs):=hA.at_ g _ hb
 simp [Region.wanted,hg,yielded,hj,h1]
theorem zdj {g:Nat} {s:SV} (hA:Agree n ds e a) (hb:ui e g=some s):Agree n ds ((g,s)::e) a :=
 hA.congr fun t=>by
  simp only [ui]
  split
  ·rename_i h;subst h;exact hb
  ·rfl
def zgE (P:Program) (n:Nat) (ops:Array Oper) (fl:List Nat) (o:Oper) (io:Gop):Prop :=
 (∃ f,cI P f o.dst o.op=some io.i)/\io.d=o.dst/\zrW n o.dst /\
  match o.guard with
  | none=>io.g=none
  | some (j,want)=>∃ g,(ops[j]?).bind (·.dst)=some g/\io.g=some (g,want)
theorem zrX {b want:Bool} {A B:Prop} (h:zvX b want A B):(b=want->A)/\(b=!want->B):=by
 cases want
 ·exact ⟨(kM h).2,(kM h).1⟩
 ·exact kM h
theorem zjf {g:Nat} {want:Bool} {A B sk:Prop} (h:zcv e g want A B sk):(∃ b,ui e g=some (.v (.bool b))/\(b=want->A)/\(b=!want->B))∨(∃ vs,ui e g=some (.v (.tuple vs))/\sk):=by
 unfold zcv at h
 split at h
 ·rename_i hb;exact .inl ⟨_,hb,zrX h⟩
 ·rename_i hb;exact .inr ⟨_,hb,h⟩
 ·exact h.elim
theorem zvY {io:Gop} {K:Env->List Ent->Prop} (h:VO P w0 fp0 io e L K) :
 (io.g=none/\WI P w0 fp0 io.i e L fun s L'=>zkE io.d io.i s L' fun s=>K (zgC io.d s e) L') ∨
 ∃ g want,io.g = some (g,want) /\ zcv e g want (WI P w0 fp0 io.i ((g,.v (.bool want)) :: e) L fun s L' => zkE io.d io.i s L' fun s => K (zgC io.d s ((g,.v (.bool want)) :: e)) L')
   (K (zgC io.d (.v undef) ((g,.v (.bool (!want)))::e)) L) (K (zgC io.d (.v undef) e) L):=by
 obtain ⟨d,g,i⟩:=io
 cases d<;>rcases g with _|⟨g,want⟩
 ·exact .inl ⟨rfl,h⟩
 ·exact .inr ⟨_,_,rfl,h⟩
 ·exact .inl ⟨rfl,h⟩
 ·exact .inr ⟨_,_,rfl,h⟩
theorem zvZ {io:Gop} {K:Env->Prop} (h:VS P w0 fp0 io e L K) :
 (io.g=none/\VQ P w0 fp0 io.i e L fun s=>zkE io.d io.i s L fun s=>K (zgC io.d s e)) ∨
 ∃ g want,io.g = some (g,want) /\ zcv e g want (VQ P w0 fp0 io.i ((g,.v (.bool want)) :: e) L fun s => zkE io.d io.i s L fun s => K (zgC io.d s ((g,.v (.bool want)) :: e)))
   (K (zgC io.d (.v undef) ((g,.v (.bool (!want)))::e))) (K (zgC io.d (.v undef) e)):=by
 obtain ⟨d,g,i⟩:=io
 cases d<;>rcases g with _|⟨g,want⟩
 ·exact .inl ⟨rfl,h⟩
 ·exact .inr ⟨_,_,rfl,h⟩
 ·exact .inl ⟨rfl,h⟩
 ·exact .inr ⟨_,_,rfl,h⟩
theorem zwV {l:List Gop} {Lb:List Ent} {K:Env->List Ent->Prop} {i:Nat} {lt:Bool} {t r:Tr} (h:VT P w0 fp0 l K (.alt i lt t r) Lb e L) :
 ∃ X:Env->List Ent->Prop,(zdi l i fun io=>VO P w0 fp0 io e L X)/\(∀ e' L',X e' L'->(lt=true->Ref w0 fp0 L' Lb)/\VT P w0 fp0 l K t Lb e' L')/\VT P w0 fp0 l K r Lb e L:=by
 cases r with
 | nil =>
   cases lt
   ·exact ⟨_,h,fun e' L' h=>⟨fun h=>(by cases h),h⟩,trivial⟩
   ·exact ⟨_,h,fun e' L' h=>⟨fun _=>h.1,h.2⟩,trivial⟩
 | done=>cases lt<;>exact ⟨_,h.h.1,fun e' L' h=>h,h.h.2⟩
 | take j t'=>cases lt<;>exact ⟨_,h.h.1,fun e' L' h=>h,h.h.2⟩
 | mov j t'=>cases lt<;>exact ⟨_,h.h.1,fun e' L' h=>h,h.h.2⟩
 | can t'=>cases lt<;>exact ⟨_,h.h.1,fun e' L' h=>h,h.h.2⟩
 | bar j t'=>cases lt<;>exact ⟨_,h.h.1,fun e' L' h=>h,h.h.2⟩
 | alt j lt' t' r'=>cases lt<;>exact ⟨_,h.h.1,fun e' L' h=>h,h.h.2⟩
theorem zlD {ops:Array Oper} {fl:List Nat} {io:Gop} {K:Env->List Ent->Prop} {K':Act->World->Prop} {Q:Exit->Act->World->Prop} (hc:zgE P n ops fl o io) (hA:Agree n ds e a) (hR:R w0 fp0 L w) (h:VO P w0 fp0 io e L K)
 (hK:∀ e' a' L' w',Agree n ds e' a'->R w0 fp0 L' w'->K e' L'->K' a' w'):if Region.wanted o (yielded ops a.tmps) then o.wp P a w K' Q else K' (a.put o.dst undef) w:=by
 obtain ⟨⟨f,hci⟩,hd,hok,hg⟩:=hc
 cases hgo:o.guard with
 | none =>
   rw [hgo] at hg
   simp only at hg
   have hw:Region.wanted o (yielded ops a.tmps)=true:=by simp [Region.wanted,hgo]
   rw [if_pos hw]
   rcases zvY h with ⟨_,h⟩|⟨g,want,hg',_⟩
   ·exact zre (zlB hci hA hR (zrT h)) fun s L' w' hR' hk=>by
     obtain ⟨s',hs',hk⟩:=zdh hk
     exact hK _ _ _ _ (uw hA hok hs') hR' (by rw [←hd];exact hk)
   ·rw [hg] at hg';cases hg'
 | some p =>
   obtain ⟨j,want⟩:=p
   rw [hgo] at hg
   obtain ⟨g,hj,hg⟩:=hg
   rcases zvY h with ⟨hg',_⟩|⟨g',want',hg',h⟩
   ·rw [hg] at hg';cases hg'
   rw [hg] at hg'
   simp only [g3q,Prod.mk.injEq] at hg'
   obtain ⟨rfl,rfl⟩:=hg'
   rcases zjf h with ⟨b,hb,h1,h2⟩|⟨vs,hb,h⟩
   ·rw [zje hA hgo hj hb]
    by_cases hbw:b=want
    ·rw [if_pos (by simp [hbw])]
     have hA':=zdj hA (by rw [hbw] at hb;exact hb)
     exact zre (zlB hci hA' hR (zrT (h1 hbw))) fun s L' w' hR' hk=>by
      obtain ⟨s',hs',hk⟩:=zdh hk
      exact hK _ _ _ _ (uw hA' hok hs') hR' (by rw [←hd];exact hk)
    ·have hbn:b=!want:=by cases b<;>cases want<;>simp_all
     rw [if_neg (by simp [hbw])]
     have hA':=zdj hA (by rw [hbn] at hb;exact hb)
     exact hK _ _ _ _ (uw hA' hok rfl) hR (by rw [←hd];exact h2 hbn)
   ·rw [zh0 hA hgo hj hb,if_neg (by simp)]
    exact hK _ _ _ _ (uw hA hok rfl) hR (by rw [←hd];exact h)
inductive CompL (P:Program) (n:Nat) (ops:Array Oper) (fl:List Nat):List Oper->List Gop->Prop
 | nil:CompL P n ops fl [] []
 | cons {o io l l'}:zgE P n ops fl o io->CompL P n ops fl l l'->CompL P n ops fl (o::l) (io::l')
theorem zv0 {ops:Array Oper} {fl:List Nat} {K:Exit->Env->List Ent->Prop}:∀ {l:List Oper} {l':List Gop} {e:Env} {a:Act} {L:List Ent} {w:World},CompL P n ops fl l l'->Agree n ds e a->R w0 fp0 L w->VL P w0 fp0 l' e L (K .normal)->wpList P ops (wQ w0 fp0 n ds K) l a w
 | [],_,e,a,L,w,hc,hA,hR,h => by
   cases hc
   exact ⟨e,L,hA,hR,h⟩
 | o :: l,_,e,a,L,w,hc,hA,hR,h => by
   cases hc with
   | cons h1 h2 =>
     refine wpList_step fun K' hK'=>?_
     exact zlD h1 hA hR h fun e' a' L' w' hA' hR' hk=>hK' _ _ (zv0 h2 hA' hR' hk)
end
theorem zwp {P:Program} {fl:Bool} {dst:Option Nat} {op:Op} {f:Nat} {xs:List X} (h:cI P fl dst op=some (.call f xs)) :
 ∃ c:Call,op=.call c/\c.callee=.value (.func f)/\zjz P f=true/\xs=c.args.toList.map cX:=by
 cases op with
 | call c =>
   obtain ⟨callee,args,ts⟩:=c
   simp only [cI] at h
   refine ⟨_,rfl,?_⟩
   repeat' split at h
   all_goals first
    | (cases h;done)
    | (simp only [g3q,I.call.injEq] at h;obtain ⟨rfl,rfl⟩:=h;rename_i h1 h2;exact ⟨rfl,h2,rfl⟩)
    | (simp only [g3q,I.call.injEq] at h;obtain ⟨rfl,rfl⟩:=h;rename_i h2;exact ⟨rfl,h2,rfl⟩)
    | (simp at h;done)
 | _ =>
   exfalso
   simp only [cI] at h
   repeat' split at h
   all_goals first
    | (cases h;done)
    | (rename_i hx _ _ _ _;cases hx;done)
    | (rename_i hx _ _ _ _ _;cases hx;done)
    | (obtain ⟨_,_,hm⟩:=Option.map_eq_some_iff.1 h;split at hm<;>cases hm;done)
    | (unfold zt7 at h;split at h<;>(cases h);done)
    | (simp only [g3q] at h;unfold znZ at h;split at h<;>(cases h);done)
    | (simp_all;done)
section
variable {P:Program} {w0:World} {fp0:List Nat} {n:Nat} {ds:List Deferred} {e:Env} {a:Act} {L Lb:List Ent} {w:World} {o:Oper} {i:I} {ops:Array Oper} {fl:List Nat}
theorem zuS {f:Bool} {K:SV->Prop} (hc:cI P f o.dst o.op=some i) (hA:Agree n ds e a) (h:VQ P w0 fp0 i e Lb K) :
 ∃ s,K s/\∀ w,R w0 fp0 Lb w->zfM P w s.val ((execOp a.eval o).run P w):=by
 have hq:(isQ i=true/\VI P w0 fp0 i e Lb fun s _=>K s)∨∃ g xs,i=.call g xs:=by
  cases i<;>first|exact .inr ⟨_,_,rfl⟩|exact .inl ⟨rfl,zrT h⟩|exact h.elim
 rcases hq with ⟨hq,hv⟩|⟨g,xs,rfl⟩
 ·obtain ⟨s,hk,hall⟩:=zxm hq hv
  refine ⟨s,hk,fun w hR=>?_⟩
  rcases zlB hc hA hR (hall (fun s' L'=>s'=s/\L'=Lb) ⟨rfl,rfl⟩) with ⟨v,h1,s',L',hs,hR',hk1,hk2⟩|⟨h0,_⟩|⟨h0,_⟩|⟨h0,_⟩
  ·rw [h1]
   subst hk1
   exact ⟨rfl,hs.symm⟩
  ·rw [hq] at h0;cases h0
  ·rw [hq] at h0;cases h0
  ·rw [hq] at h0;cases h0
 ·obtain ⟨c,ho,hcal,hok,rfl⟩:=zwp hc
  simp only [VQ] at h
  have h:=zgB h
  simp only [yN] at h
  obtain ⟨l,hl,s,h1,hk⟩:=zaE hA h
  refine ⟨s,hk,fun w hR=>?_⟩
  have e1:c.args.map a.eval=(l.map SV.val).toArray:=zdE hl
  have:(execOp a.eval o).run P w=.ok (.enter g (l.map SV.val).toArray) w:=by
   simp [execOp,ho,resolve,hcal,Act.eval,Deferred.ofValue,invoke,e1,zhQ hok]
  rw [this]
  exact ⟨rfl,h1 w hR⟩
def zor (o:Oper):Bool :=
 match o.op with
 | .move _=>true
 | .assign _=>true
 | .extract _ _=>true
 | _=>false
theorem zwW {f:Bool} {K:SV->Prop} (hm:zor o=true) (hc:cI P f o.dst o.op=some i) (hA:Agree n ds e a) (h:VQ P w0 fp0 i e Lb K) :
 ∃ s,K s/\∀ w,True->zfM P w s.val ((execOp a.eval o).run P w):=by
 unfold zor at hm
 split at hm
 ·rename_i x ho
  rw [ho] at hc
  simp only [cI,g3q] at hc
  subst hc
  obtain ⟨s,hs,hk⟩:=zw (show gA (ev e (cX x)) K from h)
  refine ⟨s,hk,fun w _=>?_⟩
  have hx:=zk hA hs
  have:(execOp a.eval o).run P w=.ok (.value (a.eval x)) w:=by simp [execOp,ho]
  rw [this]
  exact ⟨rfl,hx⟩
 ·rename_i x ho
  rw [ho] at hc
  simp only [cI,g3q] at hc
  subst hc
  obtain ⟨s,hs,hk⟩:=zw (show gA (ev e (cX x)) K from h)
  refine ⟨s,hk,fun w _=>?_⟩
  have hx:=zk hA hs
  have:(execOp a.eval o).run P w=.ok (.value (a.eval x)) w:=by simp [execOp,ho]
  rw [this]
  exact ⟨rfl,hx⟩
 ·rename_i x j ho
  rw [ho] at hc
  simp only [cI,g3q] at hc
  subst hc
  have h:gA (ev e (cX x)) (fun s=>match s with
   | .v (.tuple vs)=>gV (nth vs.toList j) fun v=>K (.v v)
   | _=>False):=h
  obtain ⟨s,hs,h⟩:=zw h
  have hx:=zk hA hs
  split at h
  ·rename_i vs
   obtain ⟨v,hv,hk⟩:=zfJ h
   rw [zhL,Array.getElem?_toList] at hv
   simp only [SV.val] at hx
   refine ⟨.v v,hk,fun w _=>?_⟩
   have:(execOp a.eval o).run P w=.ok (.value v) w:=by simp [execOp,ho,hx,Instr.extract,hv]
   rw [this]
   exact ⟨rfl,rfl⟩
  ·exact h.elim
 ·cases hm
theorem zmG {C:World->Prop} {io:Gop} {K:Env->Prop} (hVQ:∀ {f:Bool} {e:Env} {K:SV->Prop},cI P f o.dst o.op=some io.i->Agree n ds e a->VQ P w0 fp0 io.i e Lb K->∃ s,K s/\∀ w,C w->zfM P w s.val ((execOp a.eval o).run P w)) (hc:zgE P n ops fl o io) (hA:Agree n ds e a) (h:VS P w0 fp0 io e Lb K) :
 ∃ v e',QY P ops C o v a/\Agree n ds e' (a.put o.dst v)/\K e':=by
 obtain ⟨⟨f,hci⟩,hd,hok,hg⟩:=hc
 cases hgo:o.guard with
 | none =>
   rw [hgo] at hg
   simp only at hg
   rcases zvZ h with ⟨_,h⟩|⟨g,want,hg',_⟩
   ·have hw:Region.wanted o (yielded ops a.tmps)=true:=by simp [Region.wanted,hgo]
    obtain ⟨s,hk,hall⟩:=hVQ hci hA h
    obtain ⟨s',hs',hk⟩:=zdh hk
    exact ⟨s.val,_,.inl ⟨hw,hall⟩,uw hA hok hs',by rw [←hd];exact hk⟩
   ·rw [hg] at hg';cases hg'
 | some p =>
   obtain ⟨j,want⟩:=p
   rw [hgo] at hg
   obtain ⟨g,hj,hg⟩:=hg
   rcases zvZ h with ⟨hg',_⟩|⟨g',want',hg',h⟩
   ·rw [hg] at hg';cases hg'
   rw [hg] at hg'
   simp only [g3q,Prod.mk.injEq] at hg'
   obtain ⟨rfl,rfl⟩:=hg'
   rcases zjf h with ⟨b,hb,h1,h2⟩|⟨vs,hb,h⟩
   ·have hw:=zje hA hgo hj hb
    by_cases hbw:b=want
    ·have hA':=zdj hA (by rw [hbw] at hb;exact hb)
     obtain ⟨s,hk,hall⟩:=hVQ hci hA' (h1 hbw)
     obtain ⟨s',hs',hk⟩:=zdh hk
     exact ⟨s.val,_,.inl ⟨by rw [hw];simp [hbw],hall⟩,uw hA' hok hs',by rw [←hd];exact hk⟩
    ·have hbn:b=!want:=by cases b<;>cases want<;>simp_all
     have hA':=zdj hA (by rw [hbn] at hb;exact hb)
     exact ⟨undef,_,.inr ⟨by rw [hw];simp [hbw],rfl⟩,uw hA' hok rfl,by rw [←hd];exact h2 hbn⟩
   ·exact ⟨undef,_,.inr ⟨zh0 hA hgo hj hb,rfl⟩,uw hA hok rfl,by rw [←hd];exact h⟩
theorem zuT {io:Gop} {K:Env->Prop} (hc:zgE P n ops fl o io) (hA:Agree n ds e a) (h:VS P w0 fp0 io e Lb K) :
 ∃ v e',QY P ops (R w0 fp0 Lb) o v a/\Agree n ds e' (a.put o.dst v)/\K e':=zmG (fun hci hA h=>zuS hci hA h) hc hA h
theorem zwX {io:Gop} {K:Env->Prop} (hm:zor o=true) (hc:zgE P n ops fl o io) (hA:Agree n ds e a) (h:VS P w0 fp0 io e Lb K) :
 ∃ v e',QY P ops (fun _=>True) o v a/\Agree n ds e' (a.put o.dst v)/\K e':=zmG (fun hci hA h=>zwW hm hci hA h) hc hA h
def uH:Tr->List Nat
 | .alt i _ _ r=>i::uH r
 | _=>[]
def zbM:Tr->List Nat
 | .done=>[]
 | .take i t=>i::zbM t
 | .alt _ _ t r=>zbM t++zbM r
 | .bar _ _=>[]
 | .mov _ t=>zbM t
 | .can t=>zbM t
 | .nil=>[]
def xC (ops:Array Oper):List Nat->Bool->Tr->Nat->Array Bool->Bool
 | qs,true,.done,_,listed=>(Region.ready .any ops listed).isEmpty
 | qs,true,.take i t,f+1,listed=>qs.contains i&&Region.free .any ops listed i&&(Region.ready .any ops listed).contains i&&xC ops qs true t f (listed.setIfInBounds i true)
 | qs,true,.mov i t,f+1,listed=>(match ops[i]? with|some o=>zor o|none=>false)&&Region.free .any ops listed i&&(Region.ready .any ops listed).contains i&&xC ops qs true t f (listed.setIfInBounds i true)
 | qs,true,.can t,f,listed=>xC ops qs true t f listed
 | qs,true,.bar i t,f+1,listed=>(Region.ready .any ops listed == [i])&&((List.range ops.size).all fun j=>listed.getD j true||!late .any ops qs j)&&xC ops (zbM t) true t f (listed.setIfInBounds i true)
 | qs,b,.alt i lt t r,f+1,listed=>(!late .any ops qs i||lt)&&(!b||(!(Region.ready .any ops listed).isEmpty&&(Region.ready .any ops listed).all fun j=>(i::uH r).contains j)) &&
  xC ops qs true t f (listed.setIfInBounds i true)&&xC ops qs false r (f+1) listed
 | _,false,.nil,_,_=>true
 | _,_,_,_,_=>false
theorem zbd {a:Act}:∀ {e' e:Env},Agree n ds e a->zcV e' e->Agree n ds e' a
 | [],e,hA,_=>⟨hA.size,hA.defers,fun t s h=>by cases h⟩
 | (t,s) :: e',e,hA,h => by
   obtain ⟨h1,h2⟩:=h
   have ih:=zbd hA h2
   obtain ⟨u,hu,hv⟩:=zw h1
   refine ⟨hA.size,hA.defers,fun t' s' hl=>?_⟩
   simp only [ui] at hl
   split at hl
   ·rename_i heq
    subst heq
    simp only [g3q] at hl
    subst hl
    rw [←hv]
    exact hA.at_ _ _ hu
   ·exact ih.at_ _ _ hl
theorem CompL.get:∀ {l:List Oper} {l':List Gop} {i:Nat} {K:Gop->Prop},CompL P n ops fl l l'->zdi l' i K->∃ o io,l[i]?=some o/\zgE P n ops fl o io/\K io
 | _,_,i,K,.nil,h=>by cases i<;>exact h.elim
 | _,_,0,K,.cons h1 h2,h=>⟨_,_,rfl,h1,h⟩
 | _,_,i + 1,K,.cons h1 h2,h => by
   obtain ⟨o,io,h3,h4⟩:=CompL.get h2 h
   exact ⟨o,io,by simpa using h3,h4⟩
variable {l:List Gop} {K:Env->List Ent->Prop} {Q:Exit->Act->World->Prop}
theorem zdV (hc:CompL P n ops fl ops.toList l) (hs:Region.noSelect ops=true) (hQp:∀ c a w,¬Q (.panic c) a w) (hK:∀ e a L w,Agree n ds e a->R w0 fp0 L w->K e L->Q .normal a w) :
 ∀ (t : Tr) (qs : List Nat) (Lb : List Ent) (b : Bool) (fuel : Nat) (listed : Array Bool) (e : Env) (a : Act) (L : List Ent) (w : World),xC ops qs b t fuel listed = true -> Closed .any ops listed -> Agree n ds e a -> R w0 fp0 L w ->
   ((∃ i∈qs,listed.getD i false=false)->R w0 fp0 Lb w)->VT P w0 fp0 l K t Lb e L ->
   (b=true->AnyG P .any ops Q (R w0 fp0 Lb) qs fuel listed a w) /\
   (∀ i∈uH t,i∈Region.ready .any ops listed->∃ f,fuel=f+1/\∀ w1,Ext w w1->wpOp P ops Q i (fun a' w'=>(late .any ops qs i=true->R w0 fp0 Lb w1->R w0 fp0 Lb w')/\AnyG P .any ops Q (R w0 fp0 Lb) qs f (listed.setIfInBounds i true) a' w') a w1)
 | .done,qs,Lb,b,fuel,listed,e,a,L,w,ht,hcl,hA,hR,hC,h => by
   refine ⟨fun hb=>?_,fun i hi=>by cases hi⟩
   subst hb
   simp only [xC,List.isEmpty_iff] at ht
   have h0:∀ w1,Ext w w1->Q .normal a w1:=fun w1 hx=>hK e a L w1 hA (hR.below hx) h
   cases fuel with
   | zero=>exact ⟨ht,h0⟩
   | succ f=>exact ⟨fun _=>h0,fun i hi=>by rw [ht] at hi;cases hi⟩
 | .nil,qs,Lb,b,fuel,listed,e,a,L,w,ht,hcl,hA,hR,hC,h => by
   refine ⟨fun hb=>?_,fun i hi=>by cases hi⟩
   subst hb
   cases fuel<;>simp [xC] at ht
 | .take i t,qs,Lb,b,fuel,listed,e,a,L,w,ht,hcl,hA,hR,hC,h => by
   refine ⟨fun hb=>?_,fun i hi=>by cases hi⟩
   subst hb
   cases fuel with
   | zero=>simp [xC] at ht
   | succ f =>
     simp only [xC,Bool.and_eq_true] at ht
     obtain ⟨⟨⟨h1,h2⟩,h3⟩,h4⟩:=ht
     simp only [VT] at h
     obtain ⟨o,io,ho,hcp,h⟩:=hc.get h
     obtain ⟨v,e',hy,hA',hk⟩:=zuT hcp hA h
     have hq:i∈qs:=by simpa using h1
     have hr:i∈Region.ready .any ops listed:=by simpa using h3
     have hCw:R w0 fp0 Lb w:=hC ⟨i,hq,zba (mem_ready.1 hr).1⟩
     refine AnyG.take (by simpa using ho) hs hQp hq (fun w w' h1 h2=>h1.below h2) hcl h2 h3 hy hCw ?_
     refine (zdV hc hs hQp hK t qs Lb true f _ e' _ L w h4 (hcl.set hr) hA' hR (fun _=>hCw) hk).1 rfl
 | .bar i t,qs,Lb,b,fuel,listed,e,a,L,w,ht,hcl,hA,hR,hC,h => by
   refine ⟨fun hb=>?_,fun i hi=>by cases hi⟩
   subst hb
   cases fuel with
   | zero=>simp [xC] at ht
   | succ f =>
     simp only [xC,Bool.and_eq_true,beq_iff_eq,List.all_eq_true,Bool.or_eq_true,Bool.not_eq_true'] at ht
     obtain ⟨⟨h1,h2⟩,h3⟩:=ht
     have hlate:∀ j oj,ops[j]?=some oj->listed.getD j true=false->late .any ops qs j=false:=fun j oj hj hun=>by
      have hlt:j<ops.size:=by
       rcases Nat.lt_or_ge j ops.size with h'|h'
       ·exact h'
       ·rw [Array.getElem?_eq_none h'] at hj;cases hj
      rcases h2 j (List.mem_range.2 hlt) with h'|h'
      ·rw [hun] at h';cases h'
      ·exact h'
     refine ⟨fun h0=>(by rw [h1] at h0;cases h0),fun j hj w1 hx=>?_⟩
     have hji:j=i:=by rw [h1] at hj;simpa using hj
     subst hji
     obtain ⟨hun,oi,hoi,_⟩:=mem_ready.1 hj
     simp only [VT] at h
     obtain ⟨o,io,ho,hcp,hv⟩:=hc.get h
     have ho':ops[j]?=some o:=by simpa using ho
     have hstep:=zlD (Q:=Q) (K':=fun a' w'=>(late .any ops qs j=true->R w0 fp0 Lb w1->R w0 fp0 Lb w')/\AnyG P .any ops Q (R w0 fp0 Lb) qs f (listed.setIfInBounds j true) a' w') hcp hA (hR.below hx) hv
      (fun e' a' L' w' hA' hR' hk=>by
       refine ⟨fun hlt=>(by rw [hlate j o ho' hun] at hlt;cases hlt),?_⟩
       have ih:=(zdV hc hs hQp hK t (zbM t) L' true f _ e' a' L' w' h3 (hcl.set hj) hA' hR' (fun _=>hR') hk).1 rfl
       refine AnyG.rebase _ _ _ _ (fun j' oj' hj' hun'=>hlate j' oj' hj' ?_) ih
       by_cases hij:j=j'
       ·subst hij;exact hun
       ·rw [getD_set_ne true hij] at hun';exact hun')
     unfold wpOp
     simp only [ho']
     split
     ·rename_i hw;rw [if_pos hw] at hstep;exact .inl hstep
     ·rename_i hw;rw [if_neg hw] at hstep;exact hstep
 | .mov i t,qs,Lb,b,fuel,listed,e,a,L,w,ht,hcl,hA,hR,hC,h => by
   refine ⟨fun hb=>?_,fun i hi=>by cases hi⟩
   subst hb
   cases fuel with
   | zero=>simp [xC] at ht
   | succ f =>
     simp only [xC,Bool.and_eq_true] at ht
     obtain ⟨⟨⟨h1,h2⟩,h3⟩,h4⟩:=ht
     simp only [VT] at h
     obtain ⟨o,io,ho,hcp,h⟩:=hc.get h
     have ho':ops[i]?=some o:=by simpa using ho
     simp only [ho'] at h1
     obtain ⟨v,e',hy,hA',hk⟩:=zwX h1 hcp hA h
     have hr:i∈Region.ready .any ops listed:=by simpa using h3
     refine AnyG.mov ho' hs hQp (fun w w' h1 h2=>h1.below h2) hcl h2 h3 hy ?_
     refine (zdV hc hs hQp hK t qs Lb true f _ e' _ L w h4 (hcl.set hr) hA' hR (fun ⟨q,hq,hu⟩=>hC ⟨q,hq,?_⟩) hk).1 rfl
     by_cases hqi:i=q
     ·subst hqi;exact zba (mem_ready.1 hr).1
     ·rw [getD_set_ne false hqi] at hu;exact hu
 | .can t,qs,Lb,b,fuel,listed,e,a,L,w,ht,hcl,hA,hR,hC,h => by
   refine ⟨fun hb=>?_,fun i hi=>by cases hi⟩
   subst hb
   simp only [xC] at ht
   simp only [VT] at h
   obtain ⟨e',L',hs',hr,h⟩:=h.h
   exact (zdV hc hs hQp hK t qs Lb true fuel listed e' a L' w ht hcl (zbd hA hs') (hr w hR) hC h).1 rfl
 | .alt i lt t r,qs,Lb,b,fuel,listed,e,a,L,w,ht,hcl,hA,hR,hC,h => by
   cases fuel with
   | zero=>cases b<;>simp [xC] at ht
   | succ f =>
     have ht':((!late .any ops qs i||lt)=true/\(!b||(!(Region.ready .any ops listed).isEmpty&&(Region.ready .any ops listed).all fun j=>(i::uH r).contains j))=true) /\
      xC ops qs true t f (listed.setIfInBounds i true)=true/\xC ops qs false r (f+1) listed=true:=by
      cases b<;>simp only [xC,Bool.and_eq_true,and_assoc] at ht ⊢<;>exact ht
     obtain ⟨⟨h1,h2⟩,h3,h4⟩:=ht'
     obtain ⟨X,hi,hX,hrr⟩:=zwV h
     have ih2:=(zdV hc hs hQp hK r qs Lb false (f+1) listed e a L w h4 hcl hA hR hC hrr).2
     have key:∀ j∈uH (.alt i lt t r),j∈Region.ready .any ops listed->∃ f',f+1=f'+1/\∀ w1,Ext w w1->wpOp P ops Q j (fun a' w'=>(late .any ops qs j=true->R w0 fp0 Lb w1->R w0 fp0 Lb w')/\AnyG P .any ops Q (R w0 fp0 Lb) qs f' (listed.setIfInBounds j true) a' w') a w1:=by
      intro j hj hjr
      rcases List.mem_cons.1 hj with rfl|hj
      ·refine ⟨f,rfl,fun w1 hx=>?_⟩
       obtain ⟨o,io,ho,hcp,hv⟩:=hc.get hi
       have ho':ops[j]?=some o:=by simpa using ho
       have hstep:=zlD (Q:=Q) (K':=fun a' w'=>(late .any ops qs j=true->R w0 fp0 Lb w1->R w0 fp0 Lb w')/\AnyG P .any ops Q (R w0 fp0 Lb) qs f (listed.setIfInBounds j true) a' w') hcp hA (hR.below hx) hv
        (fun e' a' L' w' hA' hR' hk=>by
         obtain ⟨hk1,hk2⟩:=hX _ _ hk
         have hl:late .any ops qs j=true->R w0 fp0 Lb w':=fun hlt=>hk1 (by rw [hlt] at h1;simpa using h1) w' hR'
         refine ⟨fun hlt _=>hl hlt,(zdV hc hs hQp hK t qs Lb true f _ e' a' L' w' h3 (hcl.set hjr) hA' hR' (fun hex=>?_) hk2).1 rfl⟩
         cases hlate:late .any ops qs j with
         | true=>exact hl hlate
         | false =>
           exfalso
           obtain ⟨x,hx,hun⟩:=hex
           have hlx:=List.any_eq_false.1 hlate x hx
           simp only [Bool.and_eq_true,bne_iff_ne,ne_eq,Bool.not_eq_true',not_and,Bool.not_eq_false] at hlx
           by_cases hxj:x=j
           ·subst hxj
            have h0:=(mem_ready.1 hjr).1
            rcases Nat.lt_or_ge x listed.size with h'|h'
            ·simp [h'] at hun
            ·simp [Array.getElem?_eq_none h'] at h0
           ·have:=getD_set_true (i:=j) (zmE hcl hjr (hlx hxj))
            rw [this] at hun
            cases hun)
       unfold wpOp
       simp only [ho']
       split
       ·rename_i hw;rw [if_pos hw] at hstep;exact .inl hstep
       ·rename_i hw;rw [if_neg hw] at hstep;exact hstep
      ·exact ih2 j hj hjr
     refine ⟨fun hb=>?_,key⟩
     subst hb
     simp only [Bool.not_true,Bool.false_or,Bool.and_eq_true,List.all_eq_true] at h2
     obtain ⟨h20,h2⟩:=h2
     refine ⟨fun h0 w1 hx=>?_,fun j hj w1 hx=>?_⟩
     ·rw [h0] at h20;cases h20
     ·obtain ⟨f',hf,hall⟩:=key j (by simpa [uH] using h2 j hj) hj
      cases hf
      exact hall w1 hx
end
def uV:List Bool->(List Bool->Bool)->Bool
 | [],k=>k []
 | true::t,k=>uV t fun l=>k (true::l)
 | false::t,k=>uV t fun l=>k (false::l)
theorem vB:∀ (l:List Bool) (k:List Bool->Bool),uV l k=k l
 | [],_=>rfl
 | true::t,k=>by rw [uV,vB t]
 | false::t,k=>by rw [uV,vB t]
def zfP:List (List Bool)->(List (List Bool)->Bool)->Bool
 | [],k=>k []
 | l::ls,k=>uV l fun l'=>zfP ls fun ls'=>k (l'::ls')
theorem zgF:∀ (l:List (List Bool)) (k:List (List Bool)->Bool),zfP l k=k l
 | [],_=>rfl
 | l::ls,k=>by rw [zfP,vB,zgF ls]
def zam:List Bool->Nat->Bool->Bool
 | [],_,d=>d
 | b::_,0,_=>b
 | _::l,i+1,d=>zam l i d
theorem zfQ:∀ (l:List Bool) (i:Nat) (d:Bool),zam l i d=l.getD i d
 | [],_,_=>by simp [zam]
 | b::l,0,d=>by simp [zam]
 | b::l,i+1,d=>by rw [zam,zfQ l i d];simp
def jn:List (List Bool)->Nat->List Bool
 | [],_=>[]
 | l::_,0=>l
 | _::ls,i+1=>jn ls i
theorem uk:∀ (l:List (List Bool)) (i:Nat),jn l i=l.getD i []
 | [],_=>by simp [jn]
 | b::l,0=>by simp [jn]
 | b::l,i+1=>by rw [jn,uk l i];simp
def zcf:List Bool->List Bool->Bool
 | a::as,b::bs=>(a||b)&&zcf as bs
 | _,_=>true
theorem zgG:∀ {as bs:List Bool},zcf as bs=true->∀ j,j<as.length->j<bs.length->as.getD j false=true∨bs.getD j false=true
 | [],_,_,j,h,_=>by simp at h
 | _::_,[],_,j,_,h=>by simp at h
 | a :: as,b :: bs,h,0,_,_ => by
   simp only [zcf,Bool.and_eq_true,Bool.or_eq_true] at h
   simpa using h.1
 | a :: as,b :: bs,h,j + 1,h1,h2 => by
   simp only [zcf,Bool.and_eq_true] at h
   have:=zgG h.2 j (by simpa using h1) (by simpa using h2)
   simpa using this
theorem zjg:∀ {as bs:List Bool},(∀ j,j<as.length->j<bs.length->as.getD j false=true∨bs.getD j false=true)->zcf as bs=true
 | [],_,_=>by simp [zcf]
 | _::_,[],_=>by simp [zcf]
 | a :: as,b :: bs,h => by
   simp only [zcf,Bool.and_eq_true,Bool.or_eq_true]
   refine ⟨by simpa using h 0 (by simp) (by simp),zjg fun j h1 h2=>?_⟩
   simpa using h (j+1) (by simpa using h1) (by simpa using h2)
def zdk (n:Nat) (f:Nat->Nat->Bool):List (List Bool):=(List.range n).map fun i=>(List.range n).map (f i)
theorem zjF {n:Nat} {f:Nat->Nat->Bool} {i j:Nat} (hi:i<n) (hj:j<n) (d:Bool):((zdk n f).getD i []).getD j d=f i j:=by
 simp [zdk,g1q,hi,hj]
theorem zmH {n:Nat} {f:Nat->Nat->Bool} {i:Nat} (hi:i<n):((zdk n f).getD i []).length=n:=by
 simp [zdk,g1q,hi]
def zgH (ops:Array Oper) (i j:Nat):Bool :=
 match ops[i]? with
 | some o=>o.after.all fun e=>!(Region.binds .any e)||!(e.on == j)
 | none=>true
def znS (ops:Array Oper) (i j:Nat):Bool :=
 j == i||match ops[i]?,ops[j]? with
 | some oi,some oj=>oj.after.any (fun e=>Region.binds .any e&&e.on == i)||oi.apart ops oj
 | _,_=>true
def inB (ops:Array Oper):Bool:=ops.toList.all fun o=>o.after.all fun e=>!(Region.binds .any e)||decide (e.on<ops.size)
def jE (A:List (List Bool)) (listed:List Bool) (i:Nat):Bool:=!zam listed i true&&zcf (jn A i) listed
def zrY (F:List (List Bool)) (listed:List Bool) (i:Nat):Bool:=zcf (jn F i) listed
def zrZ (A:List (List Bool)) (n:Nat):Nat->List (List Bool)->(List (List Bool)->Bool)->Bool
 | 0,acc,k=>k acc
 | m+1,acc,k=>uV ((List.range n).map fun j=>(List.range n).any fun x=>!zam (jn A acc.length) x true&&(x == j||zam (jn acc x) j false)) fun r=>zrZ A n m (acc++[r]) k
def zkF (T:List (List Bool)) (qs:List Nat) (j:Nat):Bool:=qs.any fun i=>i != j&&!zam (jn T j) i false
def zcW:List Bool->Nat->List Bool
 | [],_=>[]
 | _::l,0=>true::l
 | b::l,i+1=>b::zcW l i
theorem zlE:∀ (l:List Bool) (i:Nat),zcW l i=l.set i true
 | [],_=>by simp [zcW]
 | _::_,0=>by simp [zcW]
 | b::l,i+1=>by rw [zcW,zlE l i];simp
def yA (ops:Array Oper) (A F T:List (List Bool)):List Nat->Bool->Tr->Nat->List Bool->Bool
 | qs,true,.done,_,listed=>(List.range ops.size).all fun i=>!jE A listed i
 | qs,true,.take i t,f+1,listed=>qs.contains i&&zrY F listed i&&(decide (i<ops.size)&&jE A listed i)&&uV (zcW listed i) fun l=>yA ops A F T qs true t f l
 | qs,true,.mov i t,f+1,listed=>(match ops[i]? with|some o=>zor o|none=>false)&&zrY F listed i&&(decide (i<ops.size)&&jE A listed i)&&uV (zcW listed i) fun l=>yA ops A F T qs true t f l
 | qs,true,.can t,f,listed=>yA ops A F T qs true t f listed
 | qs,true,.bar i t,f+1,listed=>((List.range ops.size).all fun j=>jE A listed j == (j == i))&&decide (i<ops.size)&&((List.range ops.size).all fun j=>zam listed j true||!zkF T qs j)&&uV (zcW listed i) fun l=>yA ops A F T (zbM t) true t f l
 | qs,b,.alt i la t r,f+1,listed=>(decide (i<ops.size)&&(!zkF T qs i||la))&&(!b||(((List.range ops.size).any fun j=>jE A listed j)&&(List.range ops.size).all fun j=>!jE A listed j||(i::uH r).contains j)) &&
  (uV (zcW listed i) fun l=>yA ops A F T qs true t f l)&&yA ops A F T qs false r (f+1) listed
 | _,false,.nil,_,_=>true
 | _,_,_,_,_=>false
structure Tabs (ops:Array Oper) (A F T:List (List Bool)):Prop where
 inb:inB ops=true
 wait:A=zdk ops.size (zgH ops)
 free:F=zdk ops.size (znS ops)
 anc:∀ j i,j<ops.size->zam (jn T j) i false=true->anc .any ops ops.size j i=true
section
variable {ops:Array Oper} {A F T:List (List Bool)}
theorem Tabs.ready (h:Tabs ops A F T) {listed:List Bool} (hl:listed.length=ops.size) {i:Nat} (hi:i<ops.size):jE A listed i=true↔i∈Region.ready .any ops ⟨listed⟩:=by
 have hrow:(jn A i).length=ops.size:=by rw [uk,h.wait,zmH hi]
 have hat:∀ j,j<ops.size->(jn A i).getD j false=zgH ops i j:=fun j hj=>by rw [uk,h.wait,zjF hi hj]
 obtain ⟨o,ho⟩:∃ o,ops[i]?=some o:=⟨ops[i],by simp [hi]⟩
 have hin:=h.inb
 simp only [inB,List.all_eq_true] at hin
 have hmem:o∈ops.toList:=by
  obtain ⟨_,h2⟩:=Array.getElem?_eq_some_iff.1 ho
  rw [←h2];simp
 have hin:=hin o hmem
 rw [mem_ready]
 unfold jE
 rw [zfQ,Bool.and_eq_true]
 have e1:(!listed.getD i true)=true↔(⟨listed⟩:Array Bool).getD i true=false:=by
  simp [Array.getD_eq_getD_getElem?,g1q]
 rw [e1]
 refine and_congr Iff.rfl ⟨fun hall=>⟨o,ho,fun e he hb=>?_⟩,fun ⟨o',ho',hall⟩=>zjg fun j h1 h2=>?_⟩
 ·have hlt:e.on<ops.size:=by
   have:=Array.all_eq_true'.1 hin e he
   simpa [hb] using this
  rcases zgG hall e.on (by omega) (by omega) with h1|h1
  ·rw [hat _ hlt] at h1
   simp only [zgH,ho] at h1
   have:=Array.all_eq_true'.1 h1 e he
   simp [hb] at this
  ·simpa [Array.getD_eq_getD_getElem?,g1q] using h1
 ·rw [hrow] at h1
  rw [hat _ h1]
  have:o'=o:=Option.some.inj (ho'.symm.trans ho)
  subst this
  by_cases hj:listed.getD j false=true
  ·exact .inr hj
  ·left
   simp only [zgH,ho]
   refine Array.all_eq_true'.2 fun e he=>?_
   by_cases hb:Region.binds .any e=true
   ·have h3:=hall e he hb
    have:e.on≠j:=by
     rintro rfl
     apply hj
     simpa [Array.getD_eq_getD_getElem?,g1q] using h3
    simp [hb,this]
   ·simp [hb]
theorem Tabs.freeOk (h:Tabs ops A F T) {listed:List Bool} (hl:listed.length=ops.size) {i:Nat} (hi:i<ops.size) (hf:zrY F listed i=true):Region.free .any ops ⟨listed⟩ i=true:=by
 have hrow:(jn F i).length=ops.size:=by rw [uk,h.free,zmH hi]
 have hat:∀ j,j<ops.size->(jn F i).getD j false=znS ops i j:=fun j hj=>by rw [uk,h.free,zjF hi hj]
 obtain ⟨o,ho⟩:∃ o,ops[i]?=some o:=⟨ops[i],by simp [hi]⟩
 simp only [Region.free,ho,List.all_eq_true,List.mem_range]
 intro j hj
 rcases zgG hf j (by omega) (by omega) with h1|h1
 ·rw [hat _ hj] at h1
  obtain ⟨oj,hoj⟩:∃ oj,ops[j]?=some oj:=⟨ops[j],by simp [hj]⟩
  simp only [znS,ho,hoj] at h1
  simp only [hoj]
  rw [Bool.or_assoc]
  rcases Bool.or_eq_true_iff.1 h1 with h1|h1
  ·rw [h1];rfl
  ·rw [h1];simp
 ·have:(⟨listed⟩:Array Bool).getD j true=true:=by
   have hjl:j<listed.length:=by omega
   simp [Array.getD_eq_getD_getElem?,g1q,hjl] at h1 ⊢
   exact h1
  rw [this];simp
theorem Tabs.late (h:Tabs ops A F T) {qs:List Nat} {j:Nat} (hj:j<ops.size) (hl:zkF T qs j=false):EG.late .any ops qs j=false:=by
 unfold EG.late
 unfold zkF at hl
 rw [List.any_eq_false] at hl ⊢
 intro x hx
 have:=hl x hx
 simp only [Bool.and_eq_true,bne_iff_ne,ne_eq,Bool.not_eq_true',not_and,Bool.not_eq_false] at this ⊢
 intro hne
 exact h.anc j x hj (this hne)
theorem zgI (listed:List Bool) (i:Nat):(⟨zcW listed i⟩:Array Bool)=(⟨listed⟩:Array Bool).setIfInBounds i true:=by
 rw [zlE];simp
theorem zgJ (listed:List Bool) (i:Nat):(zcW listed i).length=listed.length:=by rw [zlE];simp
theorem zjG {listed:Array Bool} {i:Nat} (h:i∈Region.ready .any ops listed):i<ops.size:=by
 obtain ⟨_,o,ho,_⟩:=mem_ready.1 h
 exact (Array.getElem?_eq_some_iff.1 ho).1
theorem zaF (h:Tabs ops A F T):∀ (t:Tr) (qs:List Nat) (b:Bool) (f:Nat) (listed:List Bool),listed.length=ops.size->yA ops A F T qs b t f listed=true->xC ops qs b t f ⟨listed⟩=true
 | .done,qs,b,f,listed,hl,ht => by
   cases b
   ·simp [yA] at ht
   ·have ht:((List.range ops.size).all fun i=>!jE A listed i)=true:=by cases f<;>simpa only [yA] using ht
    have hg:(Region.ready .any ops ⟨listed⟩).isEmpty=true:=by
     rw [List.isEmpty_iff,List.eq_nil_iff_forall_not_mem]
     intro i hi
     have hlt:=zjG hi
     have:=List.all_eq_true.1 ht i (List.mem_range.2 hlt)
     rw [(h.ready hl hlt).2 hi] at this
     cases this
    cases f<;>simpa only [xC] using hg
 | .nil,qs,b,f,listed,hl,ht => by
   cases b
   ·cases f<;>rfl
   ·cases f<;>simp [yA] at ht
 | .take i t,qs,b,f,listed,hl,ht => by
   cases b
   ·cases f<;>simp [yA] at ht
   cases f with
   | zero=>simp [yA] at ht
   | succ f =>
     simp only [yA,vB,Bool.and_eq_true,decide_eq_true_eq] at ht
     obtain ⟨⟨⟨h1,h2⟩,h3,h4⟩,h5⟩:=ht
     have ih:=zaF h t qs true f _ ((zgJ _ _).trans hl) h5
     rw [zgI] at ih
     simp only [xC,Bool.and_eq_true]
     exact ⟨⟨⟨h1,h.freeOk hl h3 h2⟩,by simpa using (h.ready hl h3).1 h4⟩,ih⟩
 | .mov i t,qs,b,f,listed,hl,ht => by
   cases b
   ·cases f<;>simp [yA] at ht
   cases f with
   | zero=>simp [yA] at ht
   | succ f =>
     simp only [yA,vB,Bool.and_eq_true,decide_eq_true_eq] at ht
     obtain ⟨⟨⟨h1,h2⟩,h3,h4⟩,h5⟩:=ht
     have ih:=zaF h t qs true f _ ((zgJ _ _).trans hl) h5
     rw [zgI] at ih
     simp only [xC,Bool.and_eq_true]
     exact ⟨⟨⟨h1,h.freeOk hl h3 h2⟩,by simpa using (h.ready hl h3).1 h4⟩,ih⟩
 | .can t,qs,b,f,listed,hl,ht => by
   cases b
   ·cases f<;>simp [yA] at ht
   ·simp only [yA] at ht
    simp only [xC]
    exact zaF h t qs true f listed hl ht
 | .bar i t,qs,b,f,listed,hl,ht => by
   cases b
   ·cases f<;>simp [yA] at ht
   cases f with
   | zero=>simp [yA] at ht
   | succ f =>
     simp only [yA,vB,Bool.and_eq_true,decide_eq_true_eq,List.all_eq_true,List.mem_range,Bool.or_eq_true,Bool.not_eq_true',beq_iff_eq] at ht
     obtain ⟨⟨⟨h1,h2⟩,h3⟩,h4⟩:=ht
     have ih:=zaF h t (zbM t) true f _ ((zgJ _ _).trans hl) h4
     rw [zgI] at ih
     simp only [xC,Bool.and_eq_true,beq_iff_eq,List.all_eq_true,List.mem_range,Bool.or_eq_true,Bool.not_eq_true']
     refine ⟨⟨?_,fun j hj=>?_⟩,ih⟩
     ·have hnd:(Region.ready .any ops ⟨listed⟩).Nodup:=List.nodup_range.filter _
      have hiff:∀ j,j∈Region.ready .any ops ⟨listed⟩↔j=i:=fun j=>by
       constructor
       ·intro hj
        have hlt:=zjG hj
        have:=h1 j hlt
        rw [(h.ready hl hlt).2 hj] at this
        simpa using this.symm
       ·rintro rfl
        have:=h1 j h2
        rw [beq_self_eq_true] at this
        exact (h.ready hl h2).1 this
      generalize Region.ready .any ops ⟨listed⟩=l at hnd hiff
      match l,hnd,hiff with
      | [],_,hiff=>exact absurd ((hiff i).2 rfl) (by simp)
      | [x],_,hiff=>rw [(hiff x).1 (by simp)]
      | x :: y :: l,hnd,hiff =>
        have hx:=(hiff x).1 (by simp)
        have hy:=(hiff y).1 (by simp)
        rw [hx,hy] at hnd
        simp at hnd
     ·rcases h3 j hj with h3|h3
      ·left
       rw [zfQ] at h3
       simpa [Array.getD_eq_getD_getElem?,g1q] using h3
      ·exact .inr (h.late hj h3)
 | .alt i la t r,qs,b,f,listed,hl,ht => by
   cases f with
   | zero=>cases b<;>simp [yA] at ht
   | succ f =>
     have ht':((i<ops.size/\(!zkF T qs i||la)=true)/\(!b||(((List.range ops.size).any fun j=>jE A listed j)&&(List.range ops.size).all fun j=>!jE A listed j||(i::uH r).contains j))=true)/\yA ops A F T qs true t f (zcW listed i)=true/\yA ops A F T qs false r (f+1) listed=true:=by
      cases b<;>simp only [yA,vB,Bool.and_eq_true,and_assoc,decide_eq_true_eq] at ht ⊢<;>exact ht
     obtain ⟨⟨⟨hi,h1⟩,h2⟩,h3,h4⟩:=ht'
     have ih1:=zaF h t qs true f _ ((zgJ _ _).trans hl) h3
     rw [zgI] at ih1
     have ih2:=zaF h r qs false (f+1) listed hl h4
     have g1:(!EG.late .any ops qs i||la)=true:=by
      cases hla:la with
      | true=>simp
      | false =>
        rw [hla] at h1
        simp only [Bool.or_false,Bool.not_eq_true'] at h1 ⊢
        exact h.late hi h1
     have g2:(!b||(!(Region.ready .any ops ⟨listed⟩).isEmpty&&(Region.ready .any ops ⟨listed⟩).all fun j=>(i::uH r).contains j))=true:=by
      cases b with
      | false=>rfl
      | true =>
        simp only [Bool.not_true,Bool.false_or,Bool.and_eq_true,List.any_eq_true,List.all_eq_true,List.mem_range,Bool.or_eq_true,Bool.not_eq_true'] at h2 ⊢
        obtain ⟨⟨j,hj,hr⟩,hall⟩:=h2
        refine ⟨?_,fun x hx=>?_⟩
        ·have:=(h.ready hl hj).1 hr
         cases hre:Region.ready .any ops ⟨listed⟩ with
         | nil=>rw [hre] at this;simp at this
         | cons a l=>rfl
        ·have hlt:=zjG hx
         rcases hall x hlt with h5|h5
         ·rw [(h.ready hl hlt).2 hx] at h5;cases h5
         ·exact h5
     cases b<;>simp only [xC,Bool.and_eq_true]<;>exact ⟨⟨⟨g1,g2⟩,ih1⟩,ih2⟩
theorem zrf (hA:A=zdk ops.size (zgH ops)):∀ (m:Nat) (acc:List (List Bool)) (k:List (List Bool)->Bool),acc.length+m<=ops.size ->
 (∀ j i,j<ops.size->zam (jn acc j) i false=true->∃ f,f<=j+1/\anc .any ops f j i=true)->zrZ A ops.size m acc k=true ->
 ∃ T,k T=true/\∀ j i,j<ops.size->zam (jn T j) i false=true->∃ f,f<=j+1/\anc .any ops f j i=true
 | 0,acc,k,_,hacc,h=>⟨acc,h,hacc⟩
 | m + 1,acc,k,hl,hacc,h => by
   simp only [zrZ,vB] at h
   refine zrf hA m _ k (by simp;omega) (fun j i hj hji=>?_) h
   by_cases hlt:j<acc.length
   ·refine hacc j i hj ?_
    rw [uk,g1q,List.getElem?_append_left hlt,←g1q,←uk] at hji
    exact hji
   ·by_cases hje:j=acc.length
    ·rw [uk,g1q,hje,List.getElem?_append_right (Nat.le_refl _),Nat.sub_self] at hji
     simp only [List.getElem?_cons_zero,Option.getD_some] at hji
     rw [zfQ] at hji
     by_cases hi:i<ops.size
     ·simp only [g1q,List.getElem?_map,List.getElem?_range hi,Option.map_some,Option.getD_some,List.any_eq_true,List.mem_range,Bool.and_eq_true,Bool.not_eq_true',Bool.or_eq_true,beq_iff_eq] at hji
      obtain ⟨x,hx,hw,hor⟩:=hji
      rw [zfQ,uk,hA,zjF (by omega) hx] at hw
      unfold zgH at hw
      split at hw
      ·rename_i o ho
       rw [←hje] at ho
       have hex:∃ e∈o.after,Region.binds .any e=true/\e.on=x:=by
        apply Decidable.byContradiction
        intro hno
        have:(o.after.all fun e=>!(Region.binds .any e)||!(e.on == x))=true:=by
         refine Array.all_eq_true'.2 fun e he=>?_
         by_cases hb:Region.binds .any e=true
         ·have:e.on≠x:=fun h=>hno ⟨e,he,hb,h⟩
          simp [hb,this]
         ·simp [hb]
        rw [this] at hw;cases hw
       obtain ⟨e,he,hb,hon⟩:=hex
       rcases hor with rfl|hor
       ·refine ⟨1,by omega,?_⟩
        simp only [anc,ho]
        refine Array.any_eq_true'.2 ⟨e,he,?_⟩
        simp [hb,hon]
       ·have hxl:x<acc.length:=by
         rcases Nat.lt_or_ge x acc.length with h'|h'
         ·exact h'
         ·rw [uk,g1q,List.getElem?_eq_none h'] at hor
          simp [zam] at hor
        obtain ⟨f,hf,hanc⟩:=hacc x i hx hor
        refine ⟨f+1,by omega,?_⟩
        simp only [anc,ho]
        refine Array.any_eq_true'.2 ⟨e,he,?_⟩
        simp [hb,hon,hanc]
      ·cases hw
     ·rw [g1q,List.getElem?_eq_none (by simp;omega)] at hji
      cases hji
    ·rw [uk,g1q,List.getElem?_eq_none (by simp;omega)] at hji
     simp [zam] at hji
theorem zos {md:Region.Mode}:∀ {f f' j i:Nat},f<=f'->anc md ops f j i=true->anc md ops f' j i=true
 | 0,f',j,i,_,h=>by simp [anc] at h
 | f+1,0,j,i,hle,_=>by omega
 | f + 1,f' + 1,j,i,hle,h => by
   simp only [anc] at h ⊢
   split at h
   ·rename_i oj hoj
    obtain ⟨e,he,hb⟩:=Array.any_eq_true'.1 h
    refine Array.any_eq_true'.2 ⟨e,he,?_⟩
    simp only [Bool.and_eq_true,Bool.or_eq_true] at hb ⊢
    exact ⟨hb.1,hb.2.imp_right fun h=>zos (by omega) h⟩
   ·cases h
def zot (ops:Array Oper) (t:Tr):Bool :=
 inB ops&&zfP (zdk ops.size (zgH ops)) fun A=>zfP (zdk ops.size (znS ops)) fun F=>zrZ A ops.size ops.size [] fun T=>uV (List.replicate ops.size false) fun l=>yA ops A F T (zbM t) true t ops.size l
theorem zth {t:Tr} (h:zot ops t=true):xC ops (zbM t) true t ops.size (Array.replicate ops.size false)=true:=by
 unfold zot at h
 rw [Bool.and_eq_true,zgF,zgF] at h
 obtain ⟨h1,h2⟩:=h
 obtain ⟨T,hT,hanc⟩:=zrf rfl ops.size [] _ (by simp) (fun j i hj h=>by simp [jn,zam] at h) h2
 rw [vB] at hT
 have:=zaF (ops:=ops) ⟨h1,rfl,rfl,fun j i hj hji=>by
  obtain ⟨f,hf,ha⟩:=hanc j i hj hji
  exact zos (by omega) ha⟩ t (zbM t) true ops.size _ (by simp) hT
 have e:(⟨List.replicate ops.size false⟩:Array Bool)=Array.replicate ops.size false:=by simp
 rw [←e]
 exact this
end
def zou (n:Nat):Option Nat->Bool
 | some d=>decide (d<n)
 | none=>true
theorem zqj {n:Nat} {d:Option Nat} (h:zou n d=true):zrW n d:=by
 intro x hx
 subst hx
 simpa [zou] using h
def zxA (fl:List Nat):Option Nat->Bool
 | some d=>fl.contains d
 | none=>fl.contains 3000000
def zuU (P:Program) (n:Nat) (ops:Array Oper) (fl:List Nat) (o:Oper):Option Gop :=
 if zou n o.dst=true then
  match cI P (zxA fl o.dst) o.dst o.op with
  | some i => match o.guard with
    | none=>some ⟨o.dst,none,i⟩
    | some (j,want) => match (ops[j]?).bind (·.dst) with
      | some g=>some ⟨o.dst,some (g,want),i⟩
      | none=>none
  | none=>none
 else none
def ziO (P:Program) (n:Nat) (ops:Array Oper) (fl:List Nat):List Oper->Option (List Gop)
 | []=>some []
 | o :: l => match zuU P n ops fl o with
   | some io => match ziO P n ops fl l with
     | some l'=>some (io::l')
     | none=>none
   | none=>none
def zwY (ts:List (Nat × Tr)) (id:Nat):Option Tr :=
 match ts with
 | []=>none
 | (k,t)::ts=>if k=id then some t else zwY ts id
def ziP:Code->Option Nat
 | .region _ ops _=>(ops[0]?).bind (·.dst)
 | .seq a _=>ziP a
 | .block _ c=>ziP c
 | .loop c=>ziP c
 | _=>none
def zxn (fl:List Nat) (b:Code):Bool :=
 match ziP b with
 | some d=>fl.contains (1000000+d)
 | none=>false
def cC (P:Program) (n:Nat) (fl:List Nat) (ts:List (Nat × Tr)):Code->Option C
 | .skip=>some .skip
 | .region id ops false=>(ziO P n ops fl ops.toList).map .reg
 | .region id ops true => match zwY ts id,ziO P n ops fl ops.toList with
   | some t,some l=>if (P.follows .mixedOrders&&Region.noSelect ops&&zot ops t)=true then some (match fl.contains (2000000+id) with|true=>.drb l t|false=>.drw l t) else none
   | _,_=>none
 | .seq a b => match cC P n fl ts a,cC P n fl ts b with
   | some a',some b'=>some (match zxn fl b with|true=>.cut a' b'|false=>.seq a' b')
   | _,_=>none
 | .cond x a b => match cC P n fl ts a,cC P n fl ts b with
   | some a,some b=>some (.cond (cX x) a b)
   | _,_=>none
 | .block id c=>(cC P n fl ts c).map (.blk id)
 | .loop c=>(cC P n fl ts c).map .loop
 | .exit id=>some (.exit id)
 | .label _=>some .skip
 | .ret=>some .ret
 | _=>none
section
variable {P:Program} {w0:World} {fp0:List Nat} {n:Nat} {ds:List Deferred} {fl:List Nat} {ts:List (Nat × Tr)}
theorem zti {ops:Array Oper} {o:Oper} {io:Gop} (h:zuU P n ops fl o=some io):zgE P n ops fl o io:=by
 unfold zuU at h
 split at h
 ·rename_i hd
  split at h
  ·rename_i i hi
   have hok:=zqj hd
   split at h
   ·rename_i hg
    simp only [g3q] at h;subst h
    exact ⟨⟨_,hi⟩,rfl,hok,by rw [hg]⟩
   ·rename_i j want hg
    split at h
    ·rename_i g hj
     simp only [g3q] at h;subst h
     exact ⟨⟨_,hi⟩,rfl,hok,by rw [hg];exact ⟨g,hj,rfl⟩⟩
    ·cases h
  ·cases h
 ·cases h
theorem zgK {ops:Array Oper}:∀ {l:List Oper} {l':List Gop},ziO P n ops fl l=some l'->CompL P n ops fl l l'
 | [],l',h=>by simp only [ziO,g3q] at h;subst h;exact .nil
 | o :: l,l',h => by
   simp only [ziO] at h
   split at h
   ·rename_i io h1
    split at h
    ·rename_i l'' h2
     simp only [g3q] at h;subst h
     exact .cons (zti h1) (zgK h2)
    ·cases h
   ·cases h
theorem zdl:∀ {c:Code} {c':C} {K:Exit->Env->List Ent->Prop} {e:Env} {a:Act} {L:List Ent} {w:World},cC P n fl ts c=some c'->Agree n ds e a->R w0 fp0 L w ->
 VC P w0 fp0 c' K e L->c.wp P (wQ w0 fp0 n ds K) a w
 | .skip,c',K,e,a,L,w,hc,hA,hR,h => by
   simp only [cC,g3q] at hc;subst hc
   exact wp_skip ⟨e,L,hA,hR,h⟩
 | .label _,c',K,e,a,L,w,hc,hA,hR,h => by
   simp only [cC,g3q] at hc;subst hc
   exact wp_label ⟨e,L,hA,hR,h⟩
 | .ret,c',K,e,a,L,w,hc,hA,hR,h => by
   simp only [cC,g3q] at hc;subst hc
   exact wp_ret ⟨e,L,hA,hR,h⟩
 | .exit id,c',K,e,a,L,w,hc,hA,hR,h => by
   simp only [cC,g3q] at hc;subst hc
   exact wp_exit ⟨e,L,hA,hR,h⟩
 | .region id ops false,c',K,e,a,L,w,hc,hA,hR,h => by
   simp only [cC,Option.map_eq_some_iff] at hc
   obtain ⟨l,hl,rfl⟩:=hc
   exact wp_region_list (zv0 (zgK hl) hA hR h)
 | .region id ops true,c',K,e,a,L,w,hc,hA,hR,h => by
   simp only [cC] at hc
   split at hc
   ·rename_i t l ht hl
    split at hc
    ·rename_i hok
     simp only [Bool.and_eq_true] at hok
     obtain ⟨⟨h1,h2⟩,h3⟩:=hok
     have hb:∃ Lb,Ref w0 fp0 L Lb/\VT P w0 fp0 l (K .normal) t Lb e L:=by
      split at hc<;>(simp only [g3q] at hc;subst hc)
      ·exact h.h
      ·exact ⟨L,fun w h=>h,h⟩
     obtain ⟨Lb,hLb,h⟩:=hb
     refine wp_region_any h1 (AnyG.any _ _ _ _ ((zdV (K:=K .normal) (zgK hl) h2 (fun c a w hq=>hq) (fun e a L w hA hR hk=>⟨e,L,hA,hR,hk⟩) t (zbM t) Lb true _ _ e a L _ (zth h3) (Closed.start _) hA hR.drew (fun _=>hLb _ hR.drew) h).1 rfl))
    ·cases hc
   ·cases hc
 | .seq x y,c',K,e,a,L,w,hc,hA,hR,h => by
   simp only [cC] at hc
   split at hc
   ·rename_i cx cy hx hy
    split at hc
    ·simp only [g3q] at hc;subst hc
     simp only [VC] at h
     obtain ⟨α,E,H,I,h1,h2⟩:=h.h
     refine wp_seq (Code.wp_mono (fun x a w hq=>?_) (zdl hx hA hR h1))
     cases x with
     | normal =>
       obtain ⟨e',L',hA',hR',hk⟩:=hq
       obtain ⟨x,hI,hs,hr⟩:=hk.h
       exact zdl hy (zbd hA' hs) (hr _ hR') (h2 x hI)
     | exit id=>exact hq
     | ret=>exact hq
     | goto l=>exact hq
     | panic ch=>exact hq
     | outgrown=>exact hq
    ·simp only [g3q] at hc;subst hc
     refine wp_seq (Code.wp_mono (fun x a w hq=>?_) (zdl hx hA hR h))
     cases x with
     | normal =>
       obtain ⟨e',L',hA',hR',hk⟩:=hq
       exact zdl hy hA' hR' hk
     | exit id=>exact hq
     | ret=>exact hq
     | goto l=>exact hq
     | panic ch=>exact hq
     | outgrown=>exact hq
   ·cases hc
 | .cond x y z,c',K,e,a,L,w,hc,hA,hR,h => by
   simp only [cC] at hc
   split at hc
   ·rename_i cy cz hy hz
    simp only [g3q] at hc;subst hc
    simp only [VC] at h
    obtain ⟨t,ht,h⟩:=uC h
    obtain ⟨h1,h2⟩:=kM h
    exact wp_cond_split (t:=t) (zk hA ht) (fun htt=>zdl hy hA hR (h1 htt)) (fun htt=>zdl hz hA hR (h2 htt))
   ·cases hc
 | .block id x,c',K,e,a,L,w,hc,hA,hR,h => by
   simp only [cC,Option.map_eq_some_iff] at hc
   obtain ⟨cx,hx,rfl⟩:=hc
   refine wp_block (Code.wp_mono (fun x a w hq=>?_) (zdl hx hA hR h))
   cases x with
   | exit id' =>
     obtain ⟨e',L',hA',hR',hk⟩:=hq
     simp only [Exit.inBlock]
     simp only [zwU] at hk
     split
     ·rename_i hid;rw [if_pos hid] at hk;exact ⟨e',L',hA',hR',hk⟩
     ·rename_i hid;rw [if_neg hid] at hk;exact ⟨e',L',hA',hR',hk⟩
   | normal=>exact hq
   | ret=>exact hq
   | goto l=>exact hq
   | panic ch=>exact hq
   | outgrown=>exact hq
 | .loop x,c',K,e,a,L,w,hc,hA,hR,h => by
   simp only [cC,Option.map_eq_some_iff] at hc
   obtain ⟨cx,hx,rfl⟩:=hc
   simp only [VC] at h
   obtain ⟨α,E,H,I,μ,⟨x0,hI0,hs0,hr0⟩,hround⟩:=h.h
   refine wp_loop_ghost (fun m a w=>∃ x,I x/\μ x=m/\Agree n ds (E x) a/\R w0 fp0 (H x) w) (μ x0) ⟨x0,hI0,rfl,zbd hA hs0,hr0 w hR⟩ ?_
   rintro m a w ⟨x,hI,rfl,hA',hR'⟩
   refine Code.wp_mono (fun ex a w hq=>?_) (zdl hx hA' hR' (hround x hI))
   cases ex with
   | normal =>
     obtain ⟨e',L',hA2,hR2,⟨y,⟨hI2,hlt⟩,hs,hr⟩⟩:=hq
     exact ⟨μ y,hlt,y,hI2,rfl,zbd hA2 hs,hr w hR2⟩
   | exit id=>exact hq
   | ret=>exact hq
   | goto l=>exact hq
   | panic ch=>exact hq
   | outgrown=>exact hq
 | .rangeFunc ..,c',K,e,a,L,w,hc,hA,hR,h=>by simp [cC] at hc
 | .scope ..,c',K,e,a,L,w,hc,hA,hR,h=>by simp [cC] at hc
 | .goto ..,c',K,e,a,L,w,hc,hA,hR,h=>by simp [cC] at hc
 | .refuse ..,c',K,e,a,L,w,hc,hA,hR,h=>by simp [cC] at hc
inductive RV where
 | t (n:Nat)
 | c (t n:Nat)
def zh1 (P:Program):List ResultVar->Option (List RV)
 | []=>some []
 | .tmp t :: rs => match zh1 P rs with
   | some l=>some (.t t::l)
   | none=>none
 | .cell t ty :: rs => match P.underlying ty,P.info? ty,zh1 P rs with
   | some (.struct _),some j,some l=>if 0<j.size then some (.c t j.size::l) else none
   | some (.array _ _),some j,some l=>if 0<j.size then some (.c t j.size::l) else none
   | _,_,_=>none
def zlF:List RV->Env->List Ent->(List Value->Prop)->Prop
 | [],e,L,K=>K []
 | .t t::rs,e,L,K=>gA (ui e t) fun s=>svK s fun v=>zlF rs e L fun l=>K (v::l)
 | .c t m :: rs,e,L,K => gA (ui e t) fun s => match s with
   | .ptr key b off => match kn key L with
     | some (b',cs,_)=>(b'=b/\off+m<=cs.length)/\zlF rs e L fun l=>K (.agg ((cs.drop off).take m).toArray::l)
     | none=>False
   | _=>False
def zov:List Value->Value
 | [v]=>v
 | l=>.tuple l.toArray
def zr0 (l:List Value) (K:Value->Prop):Prop :=
 match l with
 | [v]=>K v
 | l=>K (.tuple l.toArray)
def fnK (rs:List RV) (K:Value->List Ent->Prop):Exit->Env->List Ent->Prop
 | .normal,e,L=>zlF rs e L fun l=>zr0 l fun v=>Stop (K v L)
 | .ret,e,L=>zlF rs e L fun l=>zr0 l fun v=>Stop (K v L)
 | _,_,_=>False
theorem ztj {l:List Value} {K:Value->Prop} (h:zr0 l K):K (zov l):=by
 match l,h with
 | [],h=>exact h
 | [_],h=>exact h
 | _::_::_,h=>exact h
def vC:Nat->List SV->Env
 | _,[]=>[]
 | k,s::l=>(k,s)::vC (k+1) l
theorem zjh:∀ (l:List SV) (k t:Nat) (s:SV),ui (vC k l) t=some s->k<=t/\l[t - k]?=some s
 | [],k,t,s,h=>by cases h
 | x :: l,k,t,s,h => by
   simp only [vC,ui] at h
   split at h
   ·rename_i hk
    subst hk
    simp only [g3q] at h
    subst h
    simp
   ·rename_i hk
    obtain ⟨h1,h2⟩:=zjh l (k+1) t s h
    refine ⟨by omega,?_⟩
    have:t - k=(t - (k+1))+1:=by omega
    rw [this]
    simpa using h2
theorem zqk {l:List SV} (h:l.length<=n):Agree n [] (vC 0 l) { tmps:=(l.map SV.val).toArray++Array.replicate (n - (l.map SV.val).toArray.size) undef,defers:=[] }:=by
 refine ⟨by simp;omega,rfl,fun t s hl=>?_⟩
 obtain ⟨_,h2⟩:=zjh l 0 t s hl
 simp only [Nat.sub_zero] at h2
 have hlt:t<l.length:=(List.getElem?_eq_some_iff.1 h2).1
 simp [Array.getElem?_append,hlt]
 have h3:=(List.getElem?_eq_some_iff.1 h2).2
 rw [h3]
def zow (a:Act):ResultVar->Sem Value
 | .tmp t=>pure (a.tmps.getD t undef)
 | .cell c t=>do loadVar t (←asAddr (a.tmps.getD c undef))
theorem zgL {a:Act} {w:World} {e:Env} {L:List Ent} (hA:Agree n ds e a) (hR:R w0 fp0 L w):∀ {rs:List ResultVar} {l':List RV} {K:List Value->Prop},zh1 P rs=some l'->zlF l' e L K ->
 ∃ l,K l/\(rs.mapM (zow a):Sem (List Value)).run P w=.ok l w
 | [],l',K,hc,h => by
   simp only [zh1,g3q] at hc;subst hc
   exact ⟨[],h,by simp [List.mapM_nil,Sem.run_pure]⟩
 | .tmp t :: rs,l',K,hc,h => by
   simp only [zh1] at hc
   split at hc
   ·rename_i l0 h0
    simp only [g3q] at hc;subst hc
    obtain ⟨s,hs,h⟩:=zw h
    obtain ⟨l,hk,hl⟩:=zgL hA hR h0 (zdS h)
    refine ⟨_,hk,?_⟩
    have:=hA.getD hs
    simp only [List.mapM_cons,zow,Sem.run_bind,Sem.run_pure,Result.andThen_ok,this]
    rw [hl]
    rfl
   ·cases hc
 | .cell t ty :: rs,l',K,hc,h => by
   simp only [zh1] at hc
   split at hc
   ·rename_i fs j l0 h1 h2 h0
    split at hc
    ·rename_i hpos
     simp only [g3q] at hc;subst hc
     obtain ⟨s,hs,h⟩:=zw h
     split at h
     ·rename_i key b off
      split at h
      ·rename_i b' cs T hb
       obtain ⟨⟨rfl,hle⟩,h⟩:=h
       obtain ⟨l,hk,hl⟩:=zgL hA hR h0 h
       refine ⟨_,hk,?_⟩
       have:=hA.getD hs
       have hload:=zhP (P:=P) (w:=w) (b:=b') (off:=off) (vs:=(cs.drop off).take j.size) (.inl ⟨_,h1⟩) h2 (by simp;omega) (fun i v hv=>by
        rw [zdL hR hb]
        rw [List.getElem?_take] at hv
        split at hv
        ·simpa using hv
        ·cases hv)
       simp only [List.mapM_cons,zow,Sem.run_bind,Sem.run_pure,this,SV.val,asAddr,Result.andThen_ok]
       rw [hload]
       simp only [Result.andThen_ok]
       rw [hl]
       rfl
      ·exact h.elim
     ·exact h.elim
    ·cases hc
   ·rename_i m el j l0 h1 h2 h0
    split at hc
    ·rename_i hpos
     simp only [g3q] at hc;subst hc
     obtain ⟨s,hs,h⟩:=zw h
     split at h
     ·rename_i key b off
      split at h
      ·rename_i b' cs T hb
       obtain ⟨⟨rfl,hle⟩,h⟩:=h
       obtain ⟨l,hk,hl⟩:=zgL hA hR h0 h
       refine ⟨_,hk,?_⟩
       have:=hA.getD hs
       have hload:=zhP (P:=P) (w:=w) (b:=b') (off:=off) (vs:=(cs.drop off).take j.size) (.inr ⟨_,_,h1⟩) h2 (by simp;omega) (fun i v hv=>by
        rw [zdL hR hb]
        rw [List.getElem?_take] at hv
        split at hv
        ·simpa using hv
        ·cases hv)
       simp only [List.mapM_cons,zow,Sem.run_bind,Sem.run_pure,this,SV.val,asAddr,Result.andThen_ok]
       rw [hload]
       simp only [Result.andThen_ok]
       rw [hl]
       rfl
      ·exact h.elim
     ·exact h.elim
    ·cases hc
   ·cases hc
theorem zuV {f:FuncId} {fn:Func} {c:Code} {c':C} {l:List SV} {w:World} {L:List Ent} {K:Value->List Ent->Prop} {rs:List RV}
 (hf:P.funcs[f]?=some fn) (hb:fn.body=some c) (hn:fn.ntmps=n) (hc:cC P n fl ts c=some c') (hrs:zh1 P fn.results.toList=some rs) (hl:l.length<=n) (hR:R w0 fp0 L w)
 (h:VC P w0 fp0 c' (fnK rs K) (vC 0 l) L) :
 Calls P f (l.map SV.val).toArray w fun x w'=>∃ v L',x=.returned v/\R w0 fp0 L' w'/\K v L':=by
 refine calls_of_wp hf hb ?_
 subst hn
 refine Code.wp_mono (fun x a w hq=>?_) (zdl hc (zqk hl) hR h)
 have key:∀ e L,Agree fn.ntmps [] e a->R w0 fp0 L w->zlF rs e L (fun l=>zr0 l fun v=>Stop (K v L)) ->
  a.defers=[]/\∃ v,(results fn a.tmps).run P w=.ok v w/\∃ v' L',Ending.returned v=.returned v'/\R w0 fp0 L' w/\K v' L':=by
  intro e L hA hR hk
  obtain ⟨l,hkl,hrun⟩:=zgL (P:=P) (w:=w) hA hR hrs hk
  refine ⟨hA.defers,zov l,?_,_,L,rfl,hR,(ztj hkl).h⟩
  have e1:results fn a.tmps=(do let vs ←fn.results.mapM (zow a);pure (if h:vs.size=1 then vs[0] else .tuple vs)):=rfl
  rw [e1,Array.mapM_eq_mapM_toList]
  simp only [map_eq_pure_bind,bind_assoc,pure_bind,Sem.run_bind]
  rw [hrun]
  simp only [Result.andThen_ok,Sem.run_pure]
  match l with
  | []=>rfl
  | [v]=>rfl
  | v::v'::l=>simp [zov]
 cases x with
 | normal=>obtain ⟨e,L,hA,hR,hk⟩:=hq;exact key e L hA hR hk
 | ret=>obtain ⟨e,L,hA,hR,hk⟩:=hq;exact key e L hA hR hk
 | exit id=>obtain ⟨e,L,hA,hR,hk⟩:=hq;exact hk.elim
 | goto l=>exact hq
 | panic ch=>exact hq.elim
 | outgrown=>exact hq.elim
end
def zu (P:Program) (f:Nat) (fl:List Nat) (ts:List (Nat × Tr)):Option (Nat × List RV × C) :=
 match P.funcs[f]? with
 | some fn => match fn.body with
   | some c => match cC P fn.ntmps fl ts c,zh1 P fn.results.toList with
     | some c',some rs=>some (fn.ntmps,rs,c')
     | _,_=>none
   | none=>none
 | none=>none
theorem jF {P:Program} {f:Nat} {fl:List Nat} {ts:List (Nat × Tr)} {n:Nat} {rs:List RV} {c':C} {w0 w:World} {fp0:List Nat} {L:List Ent} {K:Value->List Ent->Prop} (l:List SV)
 (hir:zu P f fl ts=some (n,rs,c')) (hl:l.length<=n) (hR:R w0 fp0 L w) (h:VC P w0 fp0 c' (fnK rs K) (vC 0 l) L) :
 Calls P f (l.map SV.val).toArray w fun x w'=>∃ v L',x=.returned v/\R w0 fp0 L' w'/\K v L':=by
 unfold zu at hir
 split at hir
 ·rename_i fn hf
  split at hir
  ·rename_i c hb
   split at hir
   ·rename_i c1 rs1 hc hrs
    simp only [g3q,Prod.mk.injEq] at hir
    obtain ⟨h1,h2,h3⟩:=hir
    subst h1 h2 h3
    exact zuV hf hb rfl hc hrs hl hR h
   ·cases hir
  ·cases hir
 ·cases hir
section
variable {P:Program} {w0:World} {fp0:List Nat} {K:Exit->Env->List Ent->Prop} {e:Env} {L:List Ent}
theorem zP {c:C} (α:Type) (E:α->Env) (H:α->List Ent) (I:α->Prop) (μ:α->Nat) (x0:α) (h0:I x0) (hs:zcV (E x0) e) (hr:Ref w0 fp0 L (H x0))
 (h:∀ x,I x->VC P w0 fp0 c (zrV w0 fp0 E H I μ (μ x) K) (E x) (H x)):Stop (∃ (α:Type) (E:α->Env) (H:α->List Ent) (I:α->Prop) (μ:α->Nat),(∃ x,I x/\zcV (E x) e/\Ref w0 fp0 L (H x))/\∀ x,I x->VC P w0 fp0 c (zrV w0 fp0 E H I μ (μ x) K) (E x) (H x)) :=
 ⟨α,E,H,I,μ,⟨x0,h0,hs,hr⟩,h⟩
theorem zcw {a b:C} (α:Type) (E:α->Env) (H:α->List Ent) (I:α->Prop)
 (h:VC P w0 fp0 a (zuR w0 fp0 E H I K) e L) (k:∀ x,I x->VC P w0 fp0 b K (E x) (H x)):Stop (∃ (α:Type) (E:α->Env) (H:α->List Ent) (I:α->Prop),VC P w0 fp0 a (zuR w0 fp0 E H I K) e L/\∀ x,I x->VC P w0 fp0 b K (E x) (H x)) :=
 ⟨α,E,H,I,h,k⟩
theorem qh {α:Type} {E:α->Env} {H:α->List Ent} {I:α->Prop} (x:α) (h1:I x) (h3:zcV (E x) e) (h4:Ref w0 fp0 L (H x)) :
 Stop (∃ x,I x/\zcV (E x) e/\Ref w0 fp0 L (H x)):=⟨x,h1,h3,h4⟩
theorem zm {α:Type} {E:α->Env} {H:α->List Ent} {I:α->Prop} {μ:α->Nat} {m:Nat} (x:α) (h1:I x) (h2:μ x<m) (h3:zcV (E x) e) (h4:Ref w0 fp0 L (H x)) :
 Stop (∃ x,(I x/\μ x<m)/\zcV (E x) e/\Ref w0 fp0 L (H x)):=⟨x,⟨h1,h2⟩,h3,h4⟩
theorem zd {k:IntKind} {a b:Int} (h:a=b):(SV.v (.int k a)).val=(SV.v (.int k b)).val:=by rw [h]
theorem ze {k k':Nat} {a:Option Addr} {n n' c:Nat} (h:n=n'):(SV.sl k a n c).val=(SV.sl k' a n' c).val:=by rw [h];rfl
theorem Ref.refl (L:List Ent):Ref w0 fp0 L L:=fun _ h=>h
theorem Ref.ownNil (key T sz:Nat):Ref w0 fp0 L (.own key none 0 0 T sz []::L):=fun _ h=>h.ownNil key T sz
theorem Ref.sub {L':List Ent} (h:L'.Sublist L):Ref w0 fp0 L L':=fun _ k=>k.sub h
theorem Ref.perm {L':List Ent} (h:L.Perm L'):Ref w0 fp0 L L':=fun _ k=>k.perm h
theorem Ref.trans {L' L'':List Ent} (h:Ref w0 fp0 L L') (k:Ref w0 fp0 L' L''):Ref w0 fp0 L L'':=fun _ q=>k _ (h _ q)
def In (w0:World) (fp0:List Nat) (a:Option Addr) (xs:List Value):Prop :=
 xs=[]∨∃ b off,a=some ⟨b,off,none⟩/\b<w0.heap.size/\b∉fp0/\∀ j v,xs[j]?=some v->w0.cell? ⟨b,off+j,none⟩=some v
theorem zjH {w w':World} {a:Addr} (h:w'.heap[a.block]?=w.heap[a.block]?):w'.cell? a=w.cell? a:=by
 simp only [World.cell?,h]
theorem In.ne {a:Option Addr} {xs:List Value} (h:In w0 fp0 a xs) (hx:xs≠[]):a≠Option.none:=by
 rcases h with h|⟨b,off,rfl,_⟩
 ·exact absurd h hx
 ·simp
theorem In.ne' {a:Option Addr} {xs:List Value} (h:In w0 fp0 a xs) {k:Nat} (hx:k<xs.length):a≠Option.none:=h.ne (by rintro rfl;simp at hx)
theorem In.rd {a:Option Addr} {xs:List Value} {k:Nat} {v:Value} (h:In w0 fp0 a xs) (hv:xs[k]?=some v):Rd w0 fp0 L (.el a k) [v]:=by
 intro w hR
 rcases h with rfl|⟨b,off,rfl,h1,h2,h3⟩
 ·simp at hv
 ·refine ⟨b,off+k,by simp [SV.val,yR],fun j u hu=>?_⟩
  have:j=0/\u=v:=by
   cases j with
   | zero=>simpa [eq_comm] using hu
   | succ j=>simp at hu
  obtain ⟨rfl,rfl⟩:=this
  rw [zjH (w:=w0) (hR.old b h1 h2)]
  exact h3 k u hv
theorem In.cast {w:World} {fp:List Nat} {a:Option Addr} {xs:List Value} (h:In w0 fp0 a xs) (hR:R w0 fp0 L w) (hf:∀ b∈fp,b∈fps L):In w fp a xs:=by
 rcases h with rfl|⟨b,off,rfl,h1,h2,h3⟩
 ·exact .inl rfl
 ·refine .inr ⟨b,off,rfl,Nat.lt_of_lt_of_le h1 hR.size,fun hb=>?_,fun j v hv=>?_⟩
  ·rcases (hR.range b (hf b hb)).1 with h|h
   ·exact h2 h
   ·omega
  ·rw [zjH (w:=w0) (hR.old b h1 h2)]
   exact h3 j v hv
def zt (k:IntKind) (xs:List Int):List Value:=xs.map (.int k)
theorem y7 {k:IntKind} {xs:List Int}:(zt k xs).length=xs.length:=by simp [zt]
theorem zv {f:FuncId} {args:List Value} {k:SV->List Ent->Prop} (s:SV) (h:∀ w,R w0 fp0 L w->Calls P f args.toArray w fun x w'=>x=.returned s.val/\Ext w w') (hk:k s L):z8 P w0 fp0 f args L k :=
 fun w hR=>(h w hR).mono fun x w' ⟨hx,he⟩=>⟨s.val,s,L,hx,rfl,hR.below he,hk⟩
theorem xg {f:FuncId} {args:List Value} {k:SV->Prop} (s:SV) (h:∀ w,R w0 fp0 L w->Calls P f args.toArray w fun x w'=>x=.returned s.val/\Ext w w') (hk:k s):yN P w0 fp0 f args L k :=
 ⟨s,h,hk⟩
theorem zN {f:Nat} {fl:List Nat} {ts:List (Nat × Tr)} {n:Nat} {rs:List RV} {c:C} {r:Value} (l:List SV) (w:World) (hir:zu P f fl ts=some (n,rs,c)) (hl:l.length<=n)
 (h:VC P w [] c (fnK rs fun v L=>v=r) (vC 0 l) []):Calls P f (l.map SV.val).toArray w fun x w'=>x=.returned r/\Ext w w' :=
 (jF l hir hl (R.start0 w) h).mono fun x w' ⟨v,L',hx,hR,hv⟩=>by
  subst hv
  have h0:R w [] [] w':=hR.sub (List.nil_sublist _)
  exact ⟨hx,h0.toExt⟩
inductive Thin:List Ent->List Ent->Prop
 | nil (L:List Ent):Thin L []
 | skip {e:Ent} {L L':List Ent}:Thin L L'->Thin (e::L) L'
 | keep {e e':Ent} {L L':List Ent}:e.fp=e'.fp->(∀ w,e.ok w->e'.ok w)->Thin L L'->Thin (e::L) (e'::L')
theorem Thin.ok {L L':List Ent} (h:Thin L L') (w:World):(∀ e∈L,e.ok w)->∀ e∈L',e.ok w:=by
 induction h with
 | nil L=>intro _ e he;cases he
 | skip h ih=>exact fun k=>ih fun e he=>k e (g4q _ he)
 | keep h1 h2 h ih =>
   intro k e he
   rcases List.mem_cons.1 he with rfl|he
   ·exact h2 w (k _ g5q)
   ·exact ih (fun e he=>k e (g4q _ he)) e he
theorem Thin.fps {L L':List Ent} (h:Thin L L'):(fps L').Sublist (fps L):=by
 induction h with
 | nil L=>exact List.nil_sublist _
 | skip h ih=>rw [qd];exact ih.trans (List.sublist_append_right _ _)
 | keep h1 h2 h ih=>rw [qd,qd,h1];exact (List.append_sublist_append_left _).2 ih
theorem Thin.ref {L L':List Ent} (h:Thin L L'):Ref w0 fp0 L L':=fun w k =>
 ⟨k.os,k.tape,k.output,k.drawn,k.size,k.old,h.fps.nodup k.nodup,fun b hb=>k.range b (h.fps.subset hb),h.ok w k.ok⟩
theorem Thin.refl:∀ L:List Ent,Thin L L
 | []=>.nil _
 | _::L=>.keep rfl (fun _ h=>h) (Thin.refl L)
theorem Thin.own {k k':Nat} {a:Option Addr} {n n' c T sz:Nat} {xs xs':List Value} {L L':List Ent} (hn:n=n') (hx:xs=xs') (h:Thin L L'):Thin (.own k a n c T sz xs::L) (.own k' a n' c T sz xs'::L'):=by
 subst hn hx
 exact .keep rfl (fun _ h=>h) h
theorem Thin.box {k k' b T:Nat} {cs cs':List Value} {L L':List Ent} (hx:cs=cs') (h:Thin L L'):Thin (.box k b cs T::L) (.box k' b cs' T::L'):=by
 subst hx
 exact .keep rfl (fun _ h=>h) h
def zlG (T sz n:Nat) (xs:List Value) (w:World) (x:Ending) (w':World):Prop :=
 ∃ a c,x=.returned (.slice a n c)/\R w [] [.own 0 a n c T sz xs] w'
def zr1 (w0:World) (T sz n:Nat) (xs:List Value) (v:Value) (L:List Ent):Prop :=
 ∃ a c,v=.slice a n c/\Ref w0 [] L [.own 0 a n c T sz xs]
theorem zdm {f:Nat} {fl:List Nat} {ts:List (Nat × Tr)} {n:Nat} {rs:List RV} {c:C} {T sz m:Nat} {xs:List Value} (l:List SV) (w:World) (hir:zu P f fl ts=some (n,rs,c)) (hl:l.length<=n)
 (h:VC P w [] c (fnK rs (zr1 w T sz m xs)) (vC 0 l) []):Calls P f (l.map SV.val).toArray w (zlG T sz m xs w) :=
 (jF l hir hl (R.start0 w) h).mono fun x w' ⟨v,L',hx,hR,a,c,hv,hr⟩=>by
  subst hv
  exact ⟨a,c,hx,hr w' hR⟩
theorem R.rekey {key key':Nat} {a:Option Addr} {n c T sz:Nat} {xs:List Value} {w':World} (h:R w0 fp0 (.own key a n c T sz xs::L) w'):R w0 fp0 (.own key' a n c T sz xs::L) w' :=
 (Thin.own rfl rfl (Thin.refl L)).ref w' h
theorem zcg {f:FuncId} {args:List Value} {k:SV->List Ent->Prop} {T sz n:Nat} {xs:List Value} (key:Nat) (h:∀ w,R w0 fp0 L w->Calls P f args.toArray w (zlG T sz n xs w))
 (hk:∀ a c,k (.sl key a n c) (.own key a n c T sz xs::L)):z8 P w0 fp0 f args L k :=
 fun w hR=>(h w hR).mono fun x w' ⟨a,c,hx,hR'⟩ =>
  ⟨_,.sl key a n c,.own key a n c T sz xs::L,hx,rfl,R.call (L0:=[]) (L1:=[.own key a n c T sz xs]) (Lr:=L) hR hR'.rekey,hk a c⟩
theorem In.own {key:Nat} {o:Own} {w:World} (hR:R w0 fp0 L w) (h:zL key L=some o):In w [] o.a o.xs:=by
 by_cases hx:o.xs=[]
 ·exact .inl hx
 ·have h0:0<o.xs.length:=List.length_pos_iff.2 hx
  obtain ⟨v0,hv0⟩:∃ v,o.xs[0]?=some v:=⟨o.xs[0],by simp [h0]⟩
  obtain ⟨g,ha,hc0⟩:=kz hR h hv0
  refine .inr ⟨g,0,ha,?_,by simp,fun j v hv=>?_⟩
  ·obtain ⟨g',cur,ha',hg,_⟩:=kT (qW hR h) h0
   rw [ha] at ha'
   simp only [g3q,Addr.mk.injEq,and_true] at ha'
   subst ha'
   exact (Array.getElem?_eq_some_iff.1 hg).1
  ·obtain ⟨g',ha',hc⟩:=kz hR h hv
   rw [ha] at ha'
   simp only [g3q,Addr.mk.injEq,and_true] at ha'
   subst ha'
   rw [Nat.zero_add];exact hc
theorem In.ownR {key:Nat} {a:Option Addr} {n c T sz:Nat} {xs:List Value} {w:World} (hR:R w0 fp0 L w) (h:zL key L=some ⟨a,n,c,T,sz,xs⟩):In w [] a xs:=In.own hR h
theorem xY {k:IntKind} {zs:List Int} {i:Nat} (h:i<zs.length):(zt k zs)[i]?=some (.int k (zs.getD i 0)):=by
 simp [zt,h]
theorem rdI {k:IntKind} {a:Option Addr} {zs:List Int} {i:Nat} (hx:In w0 fp0 a (zt k zs)) (h:i<zs.length):Rd w0 fp0 L (.el a i) [.int k (zs.getD i 0)] :=
 hx.rd (xY h)
theorem neI {k:IntKind} {a:Option Addr} {zs:List Int} (hx:In w0 fp0 a (zt k zs)) (h:0<zs.length):a≠Option.none:=hx.ne' (k:=0) (by rw [y7];exact h)
theorem zjI {k:IntKind} {zs:List Int} {i:Nat} (h:i<zs.length):isK (.int k) (zt k zs) i:=by
 simp only [isK,zdR,atL,xY h,Option.getD_some,intOf]
theorem zgM {k:IntKind} {zs:List Int} {i:Nat} (h:i<zs.length):intOf (atL (zt k zs) i)=zs.getD i 0:=by
 simp only [atL,xY h,Option.getD_some,intOf]
theorem ints_snoc {k:IntKind} {zs:List Int} {z:Int}:zt k zs++[.int k z]=zt k (zs++[z]):=by simp [zt]
def prs (k:IntKind) (l:List (Int × Int)):List Value:=l.flatMap fun g=>[.int k g.1,.int k g.2]
theorem zkG {k:IntKind}:∀ {l:List (Int × Int)},(prs k l).length=l.length*2
 | []=>rfl
 | g :: l => by
   have:=zkG (k:=k) (l:=l)
   simp only [prs,List.flatMap_cons,g6q,List.length_cons,List.length_nil] at this ⊢
   omega
theorem zgN {k:IntKind} {l:List (Int × Int)} {x y:Int}:prs k l++[.int k x,.int k y]=prs k (l++[(x,y)]):=by simp [prs]
theorem zfR {k:IntKind}:∀ {l:List (Int × Int)} {i:Nat} (h:i<l.length),(prs k l)[i*2]?=some (.int k (l.getD i (0,0)).1)/\(prs k l)[i*2+1]?=some (.int k (l.getD i (0,0)).2)
 | g::l,0,_=>by simp [prs]
 | g :: l,i + 1,h => by
   have:=zfR (k:=k) (l:=l) (i:=i) (by simpa using h)
   simp only [prs,List.flatMap_cons] at this ⊢
   rw [show (i+1)*2=(i*2)+1+1 from by omega,show (i*2+1+1+1)=(i*2+1)+1+1 from by omega]
   simpa using this
theorem zbN {k:IntKind} {l:List (Int × Int)} {i:Nat} (h:i<l.length):isK (.int k) (prs k l) (i*2):=by
 simp only [isK,zdR,atL,(zfR h).1,Option.getD_some,intOf]
theorem jG {k:IntKind} {l:List (Int × Int)} {i:Nat} (h:i<l.length):isK (.int k) (prs k l) (i*2+1):=by
 simp only [isK,zdR,atL,(zfR h).2,Option.getD_some,intOf]
theorem zkH {k:IntKind} {l:List (Int × Int)} {i:Nat} (h:i<l.length):intOf (atL (prs k l) (i*2))=(l.getD i (0,0)).1:=by
 simp only [atL,(zfR h).1,Option.getD_some,intOf]
theorem zgO {k:IntKind} {l:List (Int × Int)} {i:Nat} (h:i<l.length):intOf (atL (prs k l) (i*2+1))=(l.getD i (0,0)).2:=by
 simp only [atL,(zfR h).2,Option.getD_some,intOf]
theorem zji {k:IntKind} {y:Int}:∀ {l:List (Int × Int)} {i:Nat} (h:i<l.length),zD (prs k l) (i*2+1) [.int k y]=prs k (l.set i ((l.getD i (0,0)).1,y))
 | g::l,0,_=>by simp [prs,zD]
 | g :: l,i + 1,h => by
   have:=zji (k:=k) (y:=y) (l:=l) (i:=i) (by simpa using h)
   simp only [prs,zD,List.flatMap_cons,List.length_cons,List.length_nil,List.set_cons_succ,List.getD_cons_succ] at this ⊢
   rw [show (i+1)*2+1=(i*2+1)+1+1 from by omega,show (i*2+1+1+1+(0+1))=(i*2+1+(0+1))+1+1 from by omega]
   rw [←this]
   rfl
theorem jH {α:Type} {l:List α} {g d:α} {n:Nat} (h:n=l.length):(l++[g]).getD n d=g:=by
 subst h;simp
theorem zox {k:IntKind} {l:List (Int × Int)} {g:Int × Int} {n:Nat} (h:n=l.length+1):intOf (atL (prs k (l++[g])) (((n:Int) - 1).toNat*2+1))=g.2:=by
 rw [zgO (by simp;omega),jH (by omega)]
theorem zrg {k:IntKind} {l:List (Int × Int)} {g:Int × Int} {n:Nat} {z:Int} (h:n=l.length+1):zD (prs k (l++[g])) (((n:Int) - 1).toNat*2+1) [.int k z]=prs k (l++[(g.1,z)]):=by
 rw [zji (by simp;omega),jH (by omega),show ((n:Int) - 1).toNat=l.length from by omega]
 congr 1
 simp
end
theorem vS {a b:Prop} (k:b) (h:a:=by first|exact rfl|exact zd (by omega)|exact zd (by (dsimp only;omega))|exact ze (by omega)|exact ze (by first|(dsimp only;omega)|(simp;done)|(simp;omega))):a/\b:=⟨h,k⟩
theorem pay {a b:Prop} (k:b) (h:a:=by first|omega|exact rfl|assumption|exact ⟨rfl,rfl,rfl,rfl,rfl⟩|exact ⟨rfl,rfl,rfl,rfl⟩|exact ⟨rfl,by omega⟩|exact zcu rfl|exact ⟨rfl,zcu rfl⟩|exact Ref.refl _|exact Thin.ref (.skip (.refl _))|exact Thin.ref (.skip (.skip (.refl _)))|exact ⟨rfl,Nat.le_of_ble_eq_true rfl⟩|((try unfold maxLen);(try simp only [List.length_nil,List.length_cons,g6q]);omega)|(refine ⟨rfl,?_⟩;(try simp only [List.length_nil,List.length_cons,g6q]);omega)):a/\b:=⟨h,k⟩
theorem puK {P:Program} {w0:World} {fp0:List Nat} {L:List Ent} {f:FuncId} {args:List Value} {k:SV->List Ent->Prop} {v:Value} (c:∀ w,Calls P f args.toArray w fun x w'=>x=.returned v/\Ext w w') (hk:k (.v v) L):z8 P w0 fp0 f args L k:=zv (.v v) (fun w _=>c w) hk
theorem quK {P:Program} {w0:World} {fp0:List Nat} {L:List Ent} {f:FuncId} {args:List Value} {k:SV->Prop} {v:Value} (c:∀ w,Calls P f args.toArray w fun x w'=>x=.returned v/\Ext w w') (hk:k (.v v)):yN P w0 fp0 f args L k:=xg (.v v) (fun w _=>c w) hk
section
variable {P:Program} {w0 w w':World} {fp0:List Nat} {L:List Ent}
def packE (key:Nat) (fp:List Nat) {α:Type} (f:α->List Ent):Ent:=.abs key fp fun w=>∃ x,fps (f x)=fp/\∀ e∈f x,e.ok w
theorem R.unpack {key:Nat} {fp:List Nat} {α:Type} {f:α->List Ent} (h:R w0 fp0 (packE key fp f::L) w):∃ x,fps (f x)=fp/\R w0 fp0 (f x++L) w:=by
 obtain ⟨x,hx,hok⟩:=Ent.abs_ok (h.ok _ g5q)
 have hnd:=h.nodup
 have hrg:=h.range
 rw [qd] at hnd hrg
 simp only [packE,Ent.fp] at hnd hrg
 refine ⟨x,hx,h.os,h.tape,h.output,h.drawn,h.size,h.old,?_,?_,?_⟩
 ·rw [yK,hx];exact hnd
 ·intro b hb
  rw [yK,hx] at hb
  exact hrg b hb
 ·intro e he
  rcases List.mem_append.1 he with he|he
  ·exact hok e he
  ·exact h.ok e (g4q _ he)
theorem zwq {key:Nat} {α:Type} {f:α->List Ent} (x:α) (h:∀ e∈f x,e.ok w):(packE key (fps (f x)) f).ok w:=by
 intro w' hs
 exact ⟨x,rfl,fun e he=>Ent.ok_same (h e he) fun b hb=>hs b (List.mem_flatMap.2 ⟨e,he,hb⟩)⟩
theorem R.pack {key:Nat} {α:Type} {f:α->List Ent} (x:α) (h:R w0 fp0 (f x++L) w):R w0 fp0 (packE key (fps (f x)) f::L) w:=by
 have hnd:=h.nodup
 have hrg:=h.range
 rw [yK] at hnd hrg
 refine ⟨h.os,h.tape,h.output,h.drawn,h.size,h.old,?_,?_,?_⟩
 ·rw [qd];exact hnd
 ·intro b hb;rw [qd] at hb;exact hrg b hb
 ·intro e he
  rcases List.mem_cons.1 he with rfl|he
  ·exact zwq x fun e he=>h.ok e (List.mem_append_left _ he)
  ·exact h.ok e (List.mem_append_right _ he)
def zax (key:Nat):List Ent->Option (Ent × List Ent)
 | []=>none
 | .abs k fp ok::L=>if k=key then some (.abs k fp ok,L) else (zax key L).map fun p=>(p.1,.abs k fp ok::p.2)
 | e::L=>(zax key L).map fun p=>(p.1,e::p.2)
theorem j5 {key:Nat}:∀ {L:List Ent} {e:Ent} {Lr:List Ent},zax key L=some (e,Lr)->L.Perm (e::Lr):=by
 intro L
 induction L with
 | nil=>intro e Lr h;cases h
 | cons e0 L ih =>
   have gen:∀ {e Lr},((zax key L).map fun p=>(p.1,e0::p.2))=some (e,Lr)->(e0::L).Perm (e::Lr):=fun {e Lr} h=>by
    obtain ⟨p,hp,h⟩:=Option.map_eq_some_iff.1 h
    simp only [Prod.mk.injEq] at h
    obtain ⟨rfl,rfl⟩:=h
    exact ((ih hp).cons _).trans (.swap _ _ _)
   intro e Lr h
   cases e0 with
   | abs k fp ok =>
     simp only [zax] at h
     split at h
     ·simp only [g3q,Prod.mk.injEq] at h
      obtain ⟨rfl,rfl⟩:=h
      exact .refl _
     ·exact gen h
   | box=>exact gen h
   | own=>exact gen h
   | mapE=>exact gen h
theorem zbe {f:FuncId} {args:List Value} {k:SV->List Ent->Prop} {L0 Lr:List Ent} {Q:Value->List Ent->Prop} (hp:L.Perm (L0++Lr))
 (h:∀ w,R w0 fp0 (L0++Lr) w->R w (fps L0) L0 w->Calls P f args.toArray w fun e w'=>∃ v L1,e=.returned v/\R w (fps L0) L1 w'/\Q v L1)
 (hk:∀ v L1,Q v L1->∃ s:SV,s.val=v/\k s (L1++Lr)):z8 P w0 fp0 f args L k:=fun w hR =>
 (h w (hR.perm hp) (hR.perm hp).restart).mono fun e w' ⟨v,L1,he,hR',hq⟩=>by
  obtain ⟨s,hs,hk⟩:=hk v L1 hq
  exact ⟨v,s,L1++Lr,he,hs,R.call (hR.perm hp) hR',hk⟩
theorem qx {f:FuncId} {args:List Value} {k:SV->List Ent->Prop} {key:Nat} {fp:List Nat} {α:Type} {fA:α->List Ent} {Lr:List Ent} {Q:Value->List Ent->Prop} (hp:zax key L=some (packE key fp fA,Lr))
 (h:∀ w,R w0 fp0 (packE key fp fA::Lr) w->R w fp [packE key fp fA] w->Calls P f args.toArray w fun e w'=>∃ v L1,e=.returned v/\R w fp L1 w'/\Q v L1)
 (hk:∀ v L1,Q v L1->∃ s:SV,s.val=v/\k s (L1++Lr)):z8 P w0 fp0 f args L k:=by
 have e1:fps [packE key fp fA]=fp:=by simp [packE,Ent.fp,fps]
 refine zbe (L0:=[packE key fp fA]) (j5 hp) (fun w hR hR0=>?_) hk
 rw [e1] at hR0 ⊢
 exact h w hR hR0
theorem zaX {f:Nat} {fl:List Nat} {ts:List (Nat × Tr)} {n:Nat} {rs:List RV} {c:C} {key:Nat} {fp:List Nat} {α:Type} {fA:α->List Ent} {Q:Value->List Ent->Prop} (l:List SV) (hir:zu P f fl ts=some (n,rs,c)) (hl:l.length<=n)
 (hR:R w fp [packE key fp fA] w) (h:∀ x,fps (fA x)=fp->R w fp (fA x) w->VC P w fp c (fnK rs fun v L'=>∃ L1,Ref w fp L' L1/\Q v L1) (vC 0 l) (fA x)) :
 Calls P f (l.map SV.val).toArray w fun e w'=>∃ v L1,e=.returned v/\R w fp L1 w'/\Q v L1:=by
 obtain ⟨x,hx,hR'⟩:=hR.unpack
 rw [List.append_nil] at hR'
 exact (jF l hir hl hR' (h x hx hR')).mono fun e w' ⟨v,L',he,hR2,L1,href,hq⟩=>⟨v,L1,he,href w' hR2,hq⟩
theorem zf {f:Nat} {fl:List Nat} {ts:List (Nat × Tr)} {n:Nat} {rs:List RV} {c:C} {fp:List Nat} {L0:List Ent} {Q:Value->List Ent->Prop} (l:List SV) (hir:zu P f fl ts=some (n,rs,c)) (hl:l.length<=n)
 (hR:R w fp L0 w) (h:VC P w fp c (fnK rs fun v L'=>∃ L1,Ref w fp L' L1/\Q v L1) (vC 0 l) L0) :
 Calls P f (l.map SV.val).toArray w fun e w'=>∃ v L1,e=.returned v/\R w fp L1 w'/\Q v L1 :=
 (jF l hir hl hR h).mono fun e w' ⟨v,L',he,hR2,L1,href,hq⟩=>⟨v,L1,he,href w' hR2,hq⟩
theorem zbO {f:Nat} {fl:List Nat} {ts:List (Nat × Tr)} {n:Nat} {rs:List RV} {c:C} {Q:Value->List Ent->Prop} (l:List SV) (hir:zu P f fl ts=some (n,rs,c)) (hl:l.length<=n)
 (h:VC P w [] c (fnK rs fun v L'=>∃ L1,Ref w [] L' L1/\Q v L1) (vC 0 l) []) :
 Calls P f (l.map SV.val).toArray w fun e w'=>∃ v L1,e=.returned v/\R w [] L1 w'/\Q v L1 :=
 (jF l hir hl (R.start0 w) h).mono fun e w' ⟨v,L',he,hR2,L1,href,hq⟩=>⟨v,L1,he,href w' hR2,hq⟩
theorem vD {f:FuncId} {args:List Value} {k:SV->List Ent->Prop} {Q:Value->List Ent->Prop}
 (h:∀ w,R w0 fp0 L w->Calls P f args.toArray w fun e w'=>∃ v L1,e=.returned v/\R w [] L1 w'/\Q v L1)
 (hk:∀ v L1,Q v L1->∃ s:SV,s.val=v/\k s (L1++L)):z8 P w0 fp0 f args L k :=
 zbe (L0:=[]) (Lr:=L) (.refl _) (fun w hR _=>h w hR) hk
theorem Ref.pack {key:Nat} {α:Type} {f:α->List Ent} (x:α) (h:Thin L (f x)):Ref w0 fp0 L [packE key (fps (f x)) f]:=fun w hR=>by
 have:=h.ref w hR
 rw [←List.append_nil (f x)] at this
 exact this.pack x
theorem Ref.packs {key:Nat} {α:Type} {f:α->List Ent} {Lr:List Ent} (x:α) (h:Thin L (f x++Lr)):Ref w0 fp0 L (packE key (fps (f x)) f::Lr):=fun w hR=>(h.ref w hR).pack x
theorem Thin.cut {k k':Nat} {a:Option Addr} {n m c T sz:Nat} {xs xs':List Value} {L L':List Ent} (hm:m<=n) (hx:xs.take (m*sz)=xs') (h:Thin L L'):Thin (.own k a n c T sz xs::L) (.own k' a m c T sz xs'::L'):=by
 subst hx
 refine .keep ?_ (fun w hw=>zjc hw hm) h
 simp only [Ent.fp]
 cases a<;>simp [Value.ownBlock]
theorem Thin.packE {k k':Nat} {fp:List Nat} {α:Type} {f:α->List Ent} {L L':List Ent} (h:Thin L L'):Thin (packE k fp f::L) (packE k' fp f::L') :=
 .keep rfl (fun _ h=>h) h
theorem j6 {o:Option Value} {v:Value} {A:Value->Prop} {B:Prop} (h:o=some v) (hA:A v):Stop ((∀ v,o=some v->A v)/\(o=none->B)) :=
 ⟨(fun v' hv=>by rw [h] at hv;cases hv;exact hA),fun hn=>by rw [h] at hn;cases hn⟩
theorem zfS {o:Option Value} {A:Value->Prop} {B:Prop} (h:o=none) (hB:B):Stop ((∀ v,o=some v->A v)/\(o=none->B)) :=
 ⟨(fun v' hv=>by rw [h] at hv;cases hv),fun _=>hB⟩
theorem Rd.own {key:Nat} {a:Option Addr} {n c T sz i:Nat} {xs vs:List Value} (h:zL key L=some ⟨a,n,c,T,sz,xs⟩) (h0:0<vs.length) (hv:(xs.drop i).take vs.length=vs):Rd w0 fp0 L (.el a i) vs:=by
 intro w hR
 have hget:∀ j v,vs[j]?=some v->xs[i+j]?=some v:=fun j v hj=>by
  rw [←hv,List.getElem?_take] at hj
  split at hj
  ·simpa using hj
  ·cases hj
 obtain ⟨v0,hv0⟩:∃ v,vs[0]?=some v:=⟨vs[0],by simp [h0]⟩
 obtain ⟨g,ha,_⟩:=kz hR h (hget 0 v0 hv0)
 refine ⟨g,i,by simp only at ha;simp [SV.val,ha,yR],fun j v hj=>?_⟩
 obtain ⟨g',ha',hc⟩:=kz hR h (hget j v hj)
 rw [ha] at ha'
 simp only [g3q,Addr.mk.injEq,and_true] at ha'
 subst ha'
 exact hc
theorem xZ {key:Nat} {a:Option Addr} {n c T sz:Nat} {xs:List Value} (hR:R w0 fp0 L w) (h:zL key L=some ⟨a,n,c,T,sz,xs⟩) (hx:0<n):a≠none:=by
 have:=qW hR h
 rcases this.2 with ⟨_,h3⟩|⟨g,cap,cur,h2,_⟩
 ·simp only at h3;omega
 ·simp only [Value.slice.injEq] at h2
  rw [h2.1];simp
theorem In.beside {key kp:Nat} {fp:List Nat} {ok:World->Prop} {a:Option Addr} {n c T sz:Nat} {xs:List Value} {Lr:List Ent} (hR:R w0 fp0 (.abs kp fp ok::Lr) w) (h:zL key Lr=some ⟨a,n,c,T,sz,xs⟩):In w fp a xs:=by
 have h1:In w [] a xs:=In.ownR (key:=key) hR.tail h
 rcases h1 with h1|⟨b,off,ha,hb,_,hc⟩
 ·exact .inl h1
 ·refine .inr ⟨b,off,ha,hb,fun hm=>?_,hc⟩
  obtain ⟨L',h1,_⟩:=yj h
  have hnd:=hR.nodup
  rw [qd] at hnd
  have hin:b∈fps Lr:=by
   refine (zjy h1).mem_iff.2 ?_
   rw [qd]
   refine List.mem_append_left _ ?_
   simp [Ent.fp,Value.ownBlock,ha]
  exact (List.nodup_append.1 hnd).2.2 b hm b hin rfl
end
section
variable {P:Program} {w0 w w':World} {fp0:List Nat} {L:List Ent}
theorem zql {f:FuncId} {args:List Value} {k:SV->List Ent->Prop} {key key':Nat} {fp:List Nat} {α β:Type} {fA:α->List Ent} {fB:β->List Ent} {Lr:List Ent} {r:Value} (hp:zax key L=some (packE key fp fA,Lr))
 (h:∀ w,R w0 fp0 (packE key fp fA::Lr) w->R w fp [packE key fp fA] w->Calls P f args.toArray w fun e w'=>∃ v L1,e=.returned v/\R w fp L1 w'/\v=r/\∃ fp',L1=[packE key' fp' fB])
 (hk:∀ x w',R w0 fp0 (fB x++Lr) w'->∃ s:SV,s.val=r/\k s (fB x++Lr)):z8 P w0 fp0 f args L k:=fun w hR=>by
 have e1:fps [packE key fp fA]=fp:=by simp [packE,Ent.fp,fps]
 have hR1:R w0 fp0 ([packE key fp fA]++Lr) w:=hR.perm (j5 hp)
 have h0:=hR1.restart
 rw [e1] at h0
 refine (h w hR1 h0).mono fun e w' ⟨v,L1,he,hR',hv,fp',hL1⟩=>?_
 subst hv hL1
 rw [←e1] at hR'
 obtain ⟨x,_,hR2⟩:=(R.call hR1 hR').unpack
 obtain ⟨s,hs,hk⟩:=hk x w' hR2
 exact ⟨v,s,fB x++Lr,he,hs,hR2,hk⟩
theorem In.rdn {a:Option Addr} {xs vs:List Value} {k:Nat} (h:In w0 fp0 a xs) (h0:0<vs.length) (hv:(xs.drop k).take vs.length=vs):Rd w0 fp0 L (.el a k) vs:=by
 have hget:∀ j v,vs[j]?=some v->xs[k+j]?=some v:=fun j v hj=>by
  rw [←hv,List.getElem?_take] at hj
  split at hj
  ·simpa using hj
  ·cases hj
 intro w hR
 rcases h with rfl|⟨b,off,rfl,h1,h2,h3⟩
 ·have:=hget 0 vs[0] (by simp [h0])
  simp at this
 ·refine ⟨b,off+k,by simp [SV.val,yR],fun j u hu=>?_⟩
  rw [zjH (w:=w0) (hR.old b h1 h2),Nat.add_assoc]
  exact h3 _ u (hget j u hu)
theorem zeL {f:FuncId} {args:List Value} {k:SV->List Ent->Prop} {L':List Ent} (hr:Ref w0 fp0 L L') (h:z8 P w0 fp0 f args L' k):z8 P w0 fp0 f args L k:=fun w hR=>h w (hr w hR)
theorem zr2 {f:FuncId} {args:List Value} {k:SV->List Ent->Prop} (h:z8 P w0 fp0 f args L fun s L'=>∃ L'',Ref w0 fp0 L' L''/\k s L''):z8 P w0 fp0 f args L k:=fun w hR =>
 (h w hR).mono fun e w' ⟨v,s,L',he,hs,hR',L'',href,hk⟩=>⟨v,s,L'',he,hs,href w' hR',hk⟩
theorem zmI {f:FuncId} {args:List Value} {k:SV->List Ent->Prop} {key n c T sz n':Nat} {a:Option Addr} {xs xs':List Value} (hp:zL key L=some ⟨a,n,c,T,sz,xs⟩)
 (h:∀ w,R w0 fp0 L w->R w (fps [.own key a n c T sz xs]) [.own key a n c T sz xs] w->Calls P f args.toArray w fun e w'=>∃ a' c',e=.returned (.slice a' n' c')/\R w (fps [.own key a n c T sz xs]) [.own key a' n' c' T sz xs'] w')
 (hk:∀ a' c',k (.sl key a' n' c') (qp key a' n' c' xs' L)):z8 P w0 fp0 f args L k:=fun w hR=>by
 obtain ⟨L',h1,h2⟩:=yj hp
 have hR1:R w0 fp0 ([.own key a n c T sz xs]++L') w:=hR.perm h1
 refine (h w hR hR1.restart).mono fun e w' ⟨a',c',he,hR'⟩=>?_
 exact ⟨_,.sl key a' n' c',qp key a' n' c' xs' L,he,rfl,(R.call hR1 hR').perm (h2 a' n' c' xs').symm,hk a' c'⟩
theorem zZ {f:FuncId} {args:List Value} {k:SV->List Ent->Prop} {key1 key2:Nat} {fp1 fp2:List Nat} {α β:Type} {fA:α->List Ent} {fB:β->List Ent} {Lr1 Lr:List Ent} {Q:Value->List Ent->Prop} (hp1:zax key1 L=some (packE key1 fp1 fA,Lr1)) (hp2:zax key2 Lr1=some (packE key2 fp2 fB,Lr))
 (h:∀ w,R w0 fp0 (packE key1 fp1 fA::packE key2 fp2 fB::Lr) w->R w (fp1++fp2) [packE key1 fp1 fA,packE key2 fp2 fB] w->Calls P f args.toArray w fun e w'=>∃ v L1,e=.returned v/\R w (fp1++fp2) L1 w'/\Q v L1)
 (hk:∀ v L1,Q v L1->∃ s:SV,s.val=v/\k s (L1++Lr)):z8 P w0 fp0 f args L k:=by
 have e1:fps [packE key1 fp1 fA,packE key2 fp2 fB]=fp1++fp2:=by simp [packE,Ent.fp,fps]
 refine zbe (L0:=[packE key1 fp1 fA,packE key2 fp2 fB]) ((j5 hp1).trans ((j5 hp2).cons _)) (fun w hR hR0=>?_) hk
 rw [e1] at hR0 ⊢
 exact h w hR hR0
theorem xJ {A B:Prop} (h:A) (k:B):Stop (A/\B):=⟨⟨h,k⟩⟩
def znT:LK->Value->Bool
 | .int k,.int k' _=>decide (k=k')
 | .bool,.bool _=>true
 | .str,.string _=>true
 | .ptr,.pointer _=>true
 | .slc,.slice ..=>true
 | .map,.map _=>true
 | .raw,_=>true
 | _,_=>false
theorem zeM {lk:LK} {v:Value} (h:znT lk v=true):zdR lk v=v:=by
 unfold znT at h
 split at h
 ·simp only [decide_eq_true_eq] at h;subst h;rfl
 ·rfl
 ·rfl
 ·rfl
 ·rfl
 ·rfl
 ·rfl
 ·cases h
def zkI:List LK->List Value->Bool
 | [],[]=>true
 | k::ks,v::vs=>znT k v&&zkI ks vs
 | _,_=>false
theorem zjj {lk:LK} {v:Value} {K:Value->Prop} (h:K (zdR lk v)):zkz lk v K:=by cases lk<;>exact h
theorem zkJ:∀ {ks:List LK} {xs vs:List Value} {i:Nat},(xs.drop i).take ks.length=vs->zkI ks vs=true->zky ks xs i/\∀ {K:List Value->Prop},K vs->zgy ks xs i K
 | [],xs,vs,i,h,hk => by
   simp at h;subst h
   exact ⟨trivial,fun h=>h⟩
 | k :: ks,xs,vs,i,h,hk => by
   cases vs with
   | nil=>cases hk
   | cons v vs =>
     simp only [zkI,Bool.and_eq_true] at hk
     have hv:xs[i]?=some v:=by
      have:=congrArg (fun l=>l[0]?) h
      simpa using this
     have hlt:i<xs.length:=(List.getElem?_eq_some_iff.1 hv).1
     have hvs:(xs.drop (i+1)).take ks.length=vs:=by
      rw [List.drop_eq_getElem_cons hlt,List.length_cons,List.take_succ_cons] at h
      exact (List.cons.inj h).2
     obtain ⟨h1,h2⟩:=zkJ hvs hk.2
     have ha:atL xs i=v:=by simp [atL,hv]
     refine ⟨⟨?_,h1⟩,fun hK=>?_⟩
     ·unfold isK;rw [ha,zeM hk.1,hv]
     ·refine zjj (K:=fun v=>zgy ks xs (i+1) fun l=>_) ?_
      rw [ha,zeM hk.1]
      exact h2 hK
theorem ue {ks:List LK} {xs vs:List Value} {i n:Nat} {oa a:Option Addr} {K:List Value->Prop} (h:(xs.drop i).take n=vs) (hK:K vs) (ha:oa=a:=by rfl) (hn:ks.length=n:=by rfl) (hk:zkI ks vs=true:=by rfl):oa=a/\ks.length=n/\zky ks xs i/\zgy ks xs i K:=by
 subst hn
 obtain ⟨h1,h2⟩:=zkJ h hk
 exact ⟨ha,rfl,h1,h2 hK⟩
theorem zB {lk:LK} {xs:List Value} {v:Value} {i:Nat} {oa a:Option Addr} {K:Value->Prop} (h:xs[i]?=some v) (hK:K v) (ha:oa=a:=by rfl) (hk:znT lk v=true:=by rfl):oa=a/\isK lk xs i/\zkz lk (atL xs i) K:=by
 have hv:atL xs i=v:=by simp [atL,h]
 refine ⟨ha,?_,?_⟩
 ·unfold isK;rw [hv,zeM hk,h]
 ·refine zjj ?_
  rw [hv,zeM hk];exact hK
theorem In.box {key b T:Nat} {cs:List Value} (hR:R w0 fp0 L w) (h:kn key L=some (b,cs,T)):In w [] (some ⟨b,0,none⟩) cs:=by
 by_cases hx:cs=[]
 ·exact .inl hx
 ·refine .inr ⟨b,0,rfl,?_,by simp,fun j v hv=>?_⟩
  ·obtain ⟨L',h1,_⟩:=uB h
   exact ((hR.perm h1).range b (by rw [qd];exact List.mem_append_left _ (by simp [Ent.fp]))).2
  ·rw [Nat.zero_add,zdL hR h];exact hv
end
end
section
open Go.ChangeShapes Go.WideShapes Go.ChangeAt Go.RowKit
theorem zh2 {n:Int} (h:(Lit.int .i64 n).wf=true):-9223372036854775808<=n/\n<=9223372036854775807:=by
 simp only [Lit.wf,Bool.and_eq_true,decide_eq_true_eq] at h
 exact h
section
variable {H:Type} {enc:TypeId × Value->H} {P:Program} {w:World} {base:Nat} {spare:Nat->Bool} {held:Bool}
end
theorem zjk {n:Nat} (hn:0<n):∀ {rows:List (List Value)} {k:Nat},(∀ vs∈rows,vs.length=n)->rows.flatten[k]?=(rows[k/n]?).bind (·[k%n]?)
 | [],k,_=>by simp
 | r :: rows,k,h => by
   have hr:=h r g5q
   rw [List.flatten_cons]
   by_cases hk:k<n
   ·rw [List.getElem?_append_left (by omega),Nat.div_eq_of_lt hk,Nat.mod_eq_of_lt hk];rfl
   ·rw [List.getElem?_append_right (by omega),hr,zjk hn fun vs hv=>h vs (g4q _ hv)]
    have e1:k/n=(k - n)/n+1:=by
     conv=>lhs;rw [show k=(k - n)+n by omega]
     rw [Nat.add_div_right _ hn]
    have e2:k%n=(k - n)%n:=by
     conv=>lhs;rw [show k=(k - n)+n by omega]
     rw [Nat.add_mod_right]
    rw [e1,e2,List.getElem?_cons_succ]
end
end Go.EG
