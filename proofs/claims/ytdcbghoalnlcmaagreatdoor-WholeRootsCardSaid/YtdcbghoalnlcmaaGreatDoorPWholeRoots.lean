/-
  WholeRoots: for every input the Go function returns true, and each argument reads as it did. No condition.
-/
import Derived.Test.YtdcbghoalnlcmaaGreatDoorRows
import Derived.Test.YtdcbghoalnlcmaaGreatDoorCards
import Derived.Test.YtdcbghoalnlcmaaGreatDoorTie
import Derived.SevenTiedAt
import Derived.Test.YtdcbghoalnlcmaaGreatDoorK2
import Derived.Test.YtdcbghoalnlcmaaGreatDoorK12
import Derived.Test.YtdcbghoalnlcmaaGreatDoorK11
namespace Go.Proofs.YtdcbghoalnlcmaaGreatDoor.wholeRootsDone
open Go.ChangeShapes Go.WideShapes Go.ChangeAt Go.RowKit Go.EG
open Go.ChangeMaps (open_string shut_string)
theorem own:ownKnob Tryz.prog.godebug=none:=by kernel_rfl
theorem zwO:laidOutB Tryz.prog=true:=by kernel_rfl
set_option maxRecDepth 100000 in
theorem zxk (os:Os) (started:os.Started) (H:Type) (enc:TypeId × Value->H) :
 ReturnsInHanded {} Tryz.checked os 3 .any (fun w args=>(Rows.wholeRootsSpec.pre enc Tryz.prog Tryz.f3 Rows.wholeRootsRow.domain false w args/\laidMetH Tryz.prog ze0 w)/\sizedMet enc Tryz.prog Tryz.f3 (OpenSpec.ofChange Rows.wholeRootsSpec) false w args) (Rows.wholeRootsSpec.post enc Tryz.prog Tryz.f3 false true false false):=by
 refine returnsInHanded_of_change_and (C:=Tryz.checked) (X:=fun w _=>laidMetH Tryz.prog ze0 w) (fun _ _ _ hh h=>h.of_heap hh) own started (by kernel_rfl) Tryz.func3
  (ChangeSpec.witness_at (enc:=enc) (C:=Tryz.checked) (os:=os) (X:=fun w _=>laidMetH Tryz.prog ze0 w) false (znd os) #[.slice none 0 0] 8 rfl (by kernel_rfl) (by kernel_rfl) (by kernel_rfl) (by kernel_rfl) (by kernel_rfl) (znL os _)) ?_
 intro W base args ds gs before hval0 hW hcnd hsz0 hL _
 have hval:∀ (j:Nat) t v,Tryz.f3.params[j]?=some t->args[j]?=some v->Value.okWide Tryz.prog W .any base t v:=hval0
 have hW':=hW
 obtain ⟨p,q,hA0,hV,rfl,hfz,hnd⟩:=hW
 have hA:DataW.TrodAll enc Tryz.prog W 0 (fun _=>true) true Tryz.f3.params.toList args.toList ds p:=hA0
 have hsz:(DataW.weightsEach Tryz.prog (Tryz.f3.params.toList++Rows.wholeRootsSpec.plain.varTypes Tryz.prog) (ds++gs)).all (·<=reachBytes)=true:=hsz0
 rw [Tryz.params3] at hA hval hsz
 obtain ⟨v0,vs0,d0,ds0,p0,q0,hargs,rfl,rfl,h0,r0⟩:=trodAll_cons hA
 obtain ⟨rfl,rfl,rfl⟩:=trodAll_nil r0
 obtain rfl:args=#[v0]:=by cases args;simp_all
 obtain ⟨rfl,rfl⟩:=trodVars_none hV
 obtain ⟨a0,len0,cap0,rfl⟩:=okWide_slice Tryz.underlying22 (hval 0 22 v0 rfl rfl)
 have k0:=h0
 have lt0:∀ x∈p0,x.block<W.heap.size:=by obtain ⟨m,hm⟩:=k0;exact DataW.trod_lt m _ _ _ hm
 obtain ⟨g0,hl0,hx0,hg0,hm0⟩:∃ g:List Mk,g.length=len0/\In W [] a0 (zbD g)/\(∀ i,i<g.length->MkOk (g.getD i mk0))/\g.length<=9223372036854775807:=by
  obtain ⟨fuel,hf⟩:=h0
  rcases zvQ (ks:=mkK) Tryz.underlying22 Tryz.underlying43 (by kernel_rfl) (by kernel_rfl) hf with ⟨hcs,_⟩|⟨x,l,c,hcs,hl,hm,hrec⟩
  ·simp [Value.cells] at hcs
   obtain ⟨rfl,rfl,rfl⟩:=hcs
   exact ⟨[],rfl,.inl rfl,fun i h=>absurd h (Nat.not_lt_zero i),Nat.zero_le _⟩
  ·simp [Value.cells] at hcs
   obtain ⟨rfl,rfl,rfl⟩:=hcs
   obtain ⟨rows,r1,r2,r3⟩:=zxi (by decide) hrec
   obtain ⟨g,e1,e2,e3⟩:=zrJ r2
   rw [e1] at r3
   exact ⟨g,by omega,r3,e3,by rw [e2,r1];exact Nat.le_trans hl (Nat.le_trans hm (by decide))⟩
 subst hl0
 clear hA0 hval0 hsz0
 refine (zmy zw9 zxa W (zq4 hL) g0 hg0 hm0 a0 cap0 hx0).mono fun e W' ⟨he,⟨bel,_⟩⟩=>?_
 subst he
 exact ⟨_,rfl,_,_,_,[],_,[],hW',trodAll_mk1 (shut_bool Tryz.underlying4 _),(trodAll_cons_mk (Below.trod zwO (by kernel_rfl) (of_decide_eq_true (by kernel_rfl)) k0 bel lt0) trodAll_mk0),rfl,bel.frame _,fun h=>by cases h⟩
theorem zt2:Rows.wholeRootsRow.holds Tryz.pinned (OpenSpec.ofChange Rows.wholeRootsSpec) :=
 OpenClaim.holds_of_wide 3 Tryz.f3 rfl rfl rfl rfl rfl rfl rfl ⟨rfl,rfl,rfl,rfl,rfl⟩ rfl rfl rfl rfl rfl (by kernel_rfl) Tryz.func3 (by kernel_rfl)
  (of_decide_eq_true (by kernel_rfl)) (by unfold Func.isWrapper;first|(rw [if_pos (by decide +kernel)];kernel_rfl)|(rw [if_neg (by decide +kernel)];exact ⟨rfl,rfl⟩))
  (fun os started H enc _=>zxk os started H enc)
/-- The statement. -/
theorem card:Rows.WholeRootsCardSaid :=
 Claim7.holds_tied_plain_at .later [] [.data] true (true, "5e2bf01cb632741154f8dd5bd30dfba268fc46f3fdf5c4810a6f17472836a735") false
  zt2 (fun _ h=>by cases h) (by kernel_rfl) (fun _ h=>by cases h) wholeRoots_row_tie rfl ⟨rfl,rfl⟩ (by kernel_rfl) rfl
  (fun f fn hf hfn=>by
   obtain rfl:f=3:=Option.some.inj ((show Tryz.prog.funcNamed Rows.wholeRootsRow.func=some 3 by kernel_rfl).symm.trans hf) |>.symm
   obtain rfl:fn=Tryz.f3:=(Option.some.inj (Tryz.func3.symm.trans hfn)).symm
   have hall:(Tryz.f3.params.all fun t=>Tryz.prog.wantsStandIn t == false)=true:=by kernel_rfl
   exact ⟨by kernel_rfl,fun j t ht=>by
    have h2:Tryz.prog.wantsStandIn t=false:=by simpa using (Array.all_eq_true_iff_forall_mem.1 hall) t (Array.mem_of_getElem? ht)
    exact h2⟩)
  (by kernel_rfl)
end Go.Proofs.YtdcbghoalnlcmaaGreatDoor.wholeRootsDone
namespace Go.Proofs.YtdcbghoalnlcmaaGreatDoor
theorem wholeRoots_holds:Rows.WholeRootsCardSaid:=wholeRootsDone.card
#print axioms wholeRoots_holds
end Go.Proofs.YtdcbghoalnlcmaaGreatDoor
