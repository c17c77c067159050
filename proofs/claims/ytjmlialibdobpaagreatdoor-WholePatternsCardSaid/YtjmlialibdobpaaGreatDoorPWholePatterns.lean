/-
  WholePatterns: for every input the Go function returns true, and each argument reads as it did. No condition.
-/
import Derived.Test.YtjmlialibdobpaaGreatDoorRows
import Derived.Test.YtjmlialibdobpaaGreatDoorCards
import Derived.Test.YtjmlialibdobpaaGreatDoorTie
import Derived.SevenTiedAt
import Derived.Test.YtjmlialibdobpaaGreatDoorK2
import Derived.Test.YtjmlialibdobpaaGreatDoorK16
import Derived.Test.YtjmlialibdobpaaGreatDoorK17
namespace Go.Proofs.YtjmlialibdobpaaGreatDoor.wholePatternsDone
open Go.ChangeShapes Go.WideShapes Go.ChangeAt Go.RowKit Go.EG
open Go.ChangeMaps (open_string shut_string)
set_option linter.unusedVariables false
theorem own:ownKnob Tryz.prog.godebug=none:=by kernel_rfl
theorem zu3:laidOutB Tryz.prog=true:=by kernel_rfl
set_option maxRecDepth 100000 in
theorem zwy (os:Os) (started:os.Started) (H:Type) (enc:TypeId × Value→H) :
 ReturnsInHanded {} Tryz.checked os 3 .any (fun w args=>(Rows.wholePatternsSpec.pre enc Tryz.prog Tryz.f3 Rows.wholePatternsRow.domain false w args∧laidMetH Tryz.prog zc5 w)∧sizedMet enc Tryz.prog Tryz.f3 (OpenSpec.ofChange Rows.wholePatternsSpec) false w args) (Rows.wholePatternsSpec.post enc Tryz.prog Tryz.f3 false true false false):=by
 refine returnsInHanded_of_change_and (C:=Tryz.checked) (X:=fun w _=>laidMetH Tryz.prog zc5 w) (fun _ _ _ hh h=>h.of_heap hh) own started (by kernel_rfl) Tryz.func3
  (ChangeSpec.witness_at (enc:=enc) (C:=Tryz.checked) (os:=os) (X:=fun w _=>laidMetH Tryz.prog zc5 w) false (zlp os) #[.slice none 0 0] 8 rfl (by kernel_rfl) (by kernel_rfl) (by kernel_rfl) (by kernel_rfl) (by kernel_rfl) (zlT os _)) ?_
 intro W base args ds gs before hval0 hW hcnd hsz0 hL _
 have hval:∀ (j:Nat) t v,Tryz.f3.params[j]?=some t→args[j]?=some v→Value.okWide Tryz.prog W .any base t v:=hval0
 have hW':=hW
 obtain ⟨p,q,hA0,hV,rfl,hfz,hnd⟩:=hW
 have hA:DataW.TrodAll enc Tryz.prog W 0 (fun _=>true) true Tryz.f3.params.toList args.toList ds p:=hA0
 have hsz:(DataW.weightsEach Tryz.prog (Tryz.f3.params.toList++Rows.wholePatternsSpec.plain.varTypes Tryz.prog) (ds++gs)).all (·≤reachBytes)=true:=hsz0
 rw [Tryz.params3] at hA hval hsz
 obtain ⟨v0,vs0,d0,ds0,p0,q0,hargs,rfl,rfl,h0,r0⟩:=trodAll_cons hA
 obtain ⟨rfl,rfl,rfl⟩:=trodAll_nil r0
 obtain rfl:args=#[v0]:=by cases args;simp_all
 obtain ⟨rfl,rfl⟩:=trodVars_none hV
 obtain ⟨a0,len0,cap0,rfl⟩:=okWide_slice Tryz.underlying22 (hval 0 22 v0 rfl rfl)
 have k0:=h0
 have lt0:∀ x∈p0,x.block<W.heap.size:=by obtain ⟨m,hm⟩:=k0;exact DataW.trod_lt m _ _ _ hm
 obtain ⟨ps0,hl0,hx0,hm0⟩:∃ ps:List PA,ps.length=len0∧PIn W [] ps a0∧ps.length≤9223372036854775807:=by
  obtain ⟨fuel,hf⟩:=h0
  obtain ⟨a,c,ps,e,q1,q2⟩:=zsc Tryz.underlying22 Tryz.underlying34 Tryz.underlying5 (by kernel_rfl) (by kernel_rfl) hf
  simp [Value.cells] at e
  obtain ⟨rfl,rfl,rfl⟩:=e
  exact ⟨ps,rfl,q1,q2⟩
 subst hl0
 clear hA0 hval0 hsz0
 refine (zgW W (zoH hL) ps0 a0 cap0 hx0 hm0).mono fun e W' ⟨he,⟨bel,_⟩⟩=>?_
 subst he
 exact ⟨_,rfl,_,_,_,[],_,[],hW',trodAll_mk1 (shut_bool Tryz.underlying4 _),(trodAll_cons_mk (Below.trod zu3 (by kernel_rfl) (of_decide_eq_true (by kernel_rfl)) k0 bel lt0) trodAll_mk0),rfl,bel.frame _,fun h=>by cases h⟩
theorem zjM:Rows.wholePatternsRow.holds Tryz.pinned (OpenSpec.ofChange Rows.wholePatternsSpec) :=
 OpenClaim.holds_of_wide 3 Tryz.f3 rfl rfl rfl rfl rfl rfl rfl ⟨rfl,rfl,rfl,rfl,rfl⟩ rfl rfl rfl rfl rfl (by kernel_rfl) Tryz.func3 (by kernel_rfl)
  (of_decide_eq_true (by kernel_rfl)) (by unfold Func.isWrapper;first|(rw [if_pos (by decide +kernel)];kernel_rfl)|(rw [if_neg (by decide +kernel)];exact ⟨rfl,rfl⟩))
  (fun os started H enc _=>zwy os started H enc)
/-- The statement. -/
theorem card:Rows.WholePatternsCardSaid :=
 Claim7.holds_tied_plain_at .later [] [.data] true (true, "7820a988a6e2512cef60335709c5835dd2e028c67908f2bd23818461a1a536e5") false
  zjM (fun _ h=>by cases h) (by kernel_rfl) (fun _ h=>by cases h) wholePatterns_row_tie rfl ⟨rfl,rfl⟩ (by kernel_rfl) rfl
  (fun f fn hf hfn=>by
   obtain rfl:f=3:=Option.some.inj ((show Tryz.prog.funcNamed Rows.wholePatternsRow.func=some 3 by kernel_rfl).symm.trans hf) |>.symm
   obtain rfl:fn=Tryz.f3:=(Option.some.inj (Tryz.func3.symm.trans hfn)).symm
   have hall:(Tryz.f3.params.all fun t=>Tryz.prog.wantsStandIn t == false)=true:=by kernel_rfl
   exact ⟨by kernel_rfl,fun j t ht=>by
    have h2:Tryz.prog.wantsStandIn t=false:=by simpa using (Array.all_eq_true_iff_forall_mem.1 hall) t (Array.mem_of_getElem? ht)
    exact h2⟩)
  (by kernel_rfl)
end Go.Proofs.YtjmlialibdobpaaGreatDoor.wholePatternsDone
namespace Go.Proofs.YtjmlialibdobpaaGreatDoor
theorem wholePatterns_holds:Rows.WholePatternsCardSaid:=wholePatternsDone.card
#print axioms wholePatterns_holds
end Go.Proofs.YtjmlialibdobpaaGreatDoor
