/-
  WholeBackward, where what it reads is of bulk at most 1048576: the Go function returns true, and each argument reads as it did. No other condition.
-/
import Derived.Test.YtjmlialibdobpaaGreatDoorRows
import Derived.Test.YtjmlialibdobpaaGreatDoorCards
import Derived.Test.YtjmlialibdobpaaGreatDoorTie
import Derived.SevenTiedAt
import Derived.Deep.DeepHandedRow
import Derived.Test.YtjmlialibdobpaaGreatDoorK20
namespace Go.Proofs.YtjmlialibdobpaaGreatDoor.wholeBackwardUptoDone
open Go.ChangeShapes Go.WideShapes Go.ChangeAt Go.RowKit Go.EG
theorem own:ownKnob Tryz.prog.godebug=none:=by kernel_rfl
theorem zlE:laidOutB Tryz.prog=true:=by kernel_rfl
abbrev wit:Array Value:=#[.slice none 0 0,.agg #[.int .i64 0,.int .i64 0],.agg #[.int .i64 0,.int .u64 0,.int .u64 0,.int .u64 0,.int .u64 0,.int .i64 0,.int .i64 0,.slice none 0 0]]
abbrev zym (H:Type):List (DataW H):=[.nil,.agg [.lit (.int .i64 0),.lit (.int .i64 0)],.agg [.lit (.int .i64 0),.agg [.lit (.int .u64 0),.lit (.int .u64 0),.lit (.int .u64 0),.lit (.int .u64 0)],.lit (.int .i64 0),.lit (.int .i64 0),.nil]]
theorem zrD (os:Os) {H:Type} (enc:TypeId × Value->H):∃ places,DataW.whole enc Tryz.prog ((zmi os).forCall (fun _ _=>0) ⟨#[],wit,[]⟩).memory Tryz.f4.params.toList Rows.wholeBackwardSpec.vars false wit.toList 8=some (zym H,[],places) :=
 ⟨[],by kernel_rfl⟩
theorem zxV {H:Type} {a b c:DataW H} (h:Rows.uptoSmall H ([a,b,c]++[])=true):Rows.uptoBulk c<=1048576:=by
 have h:=of_decide_eq_true h
 simp only [List.append_nil,Rows.uptoBulkAll] at h
 omega
set_option maxRecDepth 100000 in
theorem zxy (os:Os) (started:os.Started) (H:Type) (enc:TypeId × Value->H) (F:Stop.Interp) :
 ReturnsInHanded {} Tryz.checked os 4 .any ((Rows.OpenSpec.upto Rows.wholeBackwardSpec).preRow enc Tryz.prog Tryz.f4 Rows.wholeBackwardUptoRow.domain false Rows.wholeBackwardUptoRow.laid) (((Rows.OpenSpec.upto Rows.wholeBackwardSpec).at F).post enc Tryz.prog Tryz.f4 false true false false):=by
 obtain ⟨places,hx⟩:=zrD os enc
 refine returnsInHanded_of_row (C:=Tryz.checked) (s:=Rows.OpenSpec.upto Rows.wholeBackwardSpec) own started (by kernel_rfl) Tryz.func4
  (witness_row_at (enc:=enc) (C:=Tryz.checked) false (zmi os) wit rfl (by kernel_rfl) (by kernel_rfl) (by kernel_rfl)
   (OpenSpec.preRow_of_cond 8 hx (by kernel_rfl) (fun k hk=>by cases hk;kernel_rfl) (by kernel_rfl) (laidMet_of_run' 8 (by kernel_rfl) (by kernel_rfl)))) ?_
 intro W base args ds gs before hval0 hW _ hcond _ hL _ _
 have hval:∀ (j:Nat) t v,Tryz.f4.params[j]?=some t->args[j]?=some v->Value.okWide Tryz.prog W .any base t v:=hval0
 have hW':=hW
 obtain ⟨p,q,hA0,hV,rfl,hfz,hnd⟩:=hW
 have hA:DataW.TrodAll enc Tryz.prog W 0 (fun _=>true) true Tryz.f4.params.toList args.toList ds p:=hA0
 rw [Tryz.params4] at hA hval
 obtain ⟨v0,vs0,d0,ds0,p0,q0,hargs,rfl,rfl,h0,r0⟩:=trodAll_cons hA
 obtain ⟨v1,vs1,d1,ds1,p1,q1,rfl,rfl,rfl,h1,r1⟩:=trodAll_cons r0
 obtain ⟨v2,vs2,d2,ds2,p2,q2,rfl,rfl,rfl,h2,r2⟩:=trodAll_cons r1
 obtain ⟨rfl,rfl,rfl⟩:=trodAll_nil r2
 obtain rfl:args=#[v0,v1,v2]:=by cases args;simp_all
 obtain ⟨rfl,rfl⟩:=trodVars_none hV
 obtain ⟨a0,len0,cap0,rfl⟩:=okWide_slice Tryz.underlying34 (hval 0 34 v0 rfl rfl)
 have k0:=h0
 have lt0:∀ x∈p0,x.block<W.heap.size:=by obtain ⟨m,hm⟩:=k0;exact DataW.trod_lt m _ _ _ hm
 obtain ⟨xs0,hl0,hx0,hc0,hm0,hw0⟩:∃ xs:List Nat,xs.length=len0/\In W [] a0 (byL xs)/\xs.length<=cap0/\cap0<=9223372036854775807/\∀ z∈xs,z<256:=by
  obtain ⟨fuel,hf⟩:=h0
  obtain ⟨a,c,xs,e,q1,q2,q3,q4⟩:=zpi Tryz.underlying34 Tryz.underlying5 (by kernel_rfl) hf
  simp [Value.cells] at e
  obtain ⟨rfl,rfl,rfl⟩:=e
  exact ⟨xs,rfl,q1,q2,q3,q4⟩
 subst hl0
 have k1:=h1
 have lt1:∀ x∈p1,x.block<W.heap.size:=by obtain ⟨m,hm⟩:=k1;exact DataW.trod_lt m _ _ _ hm
 obtain ⟨k1x,n1x,rfl⟩:=zuW Tryz.underlying48 Tryz.underlying3 (by kernel_rfl) (by kernel_rfl) (hval 1 48 v1 rfl rfl) h1
 have k2:=h2
 have lt2:∀ x∈p2,x.block<W.heap.size:=by obtain ⟨m,hm⟩:=k2;exact DataW.trod_lt m _ _ _ hm
 have hb2:=zxV (hcond _ rfl)
 have ok2:=hval 2 29 v2 rfl rfl
 unfold Value.okWide at ok2
 rw [Tryz.underlying29] at ok2
 obtain ⟨cs2,rfl,_,_⟩:=ok2
 obtain ⟨r2x,hr2,hi2,hs2,hz2⟩:∃ r:RT,cs2.toList=r.cells/\RIn W [] r/\RSf W r/\r.size<=1048576:=by
  obtain ⟨fuel,hf⟩:=h2
  obtain ⟨r,e1,e2,e3,e4⟩:=zpk Tryz.underlying29 (ti:=3) (ta:=26) (tu:=24) (tp:=27) (by kernel_rfl) Tryz.underlying3 Tryz.underlying26 Tryz.underlying24 Tryz.underlying27 (by kernel_rfl) (by kernel_rfl) (by kernel_rfl) (by kernel_rfl) (by kernel_rfl) fuel fuel (Nat.le_refl _) _ _ hf
   (fun b off hb=>hfz b off (List.mem_append_left _ (List.mem_append_right _ (List.mem_append_right _ (List.mem_append_left _ hb)))))
  exact ⟨r,e1,e2,e3,Nat.le_trans e4 hb2⟩
 have hv2:Value.agg cs2=r2x.v:=by unfold RT.v;rw [←hr2]
 rw [hv2] at k2 hW' ⊢
 clear hA0 hval0 hfz hA hval hcond
 refine (zhM W (zpU hL) xs0 a0 cap0 hx0 hw0 hc0 hm0 k1x n1x r2x (by omega) hi2 hs2).mono fun e W' ⟨he,⟨bel,_⟩⟩=>?_
 subst he
 exact ⟨_,rfl,_,_,_,[],_,[],hW',trodAll_mk1 (shut_bool Tryz.underlying4 _),(trodAll_cons_mk (Below.trod zlE (by kernel_rfl) (of_decide_eq_true (by kernel_rfl)) k0 bel lt0) (trodAll_cons_mk (Below.trod zlE (by kernel_rfl) (of_decide_eq_true (by kernel_rfl)) k1 bel lt1) (trodAll_cons_mk (Below.trod zlE (by kernel_rfl) (of_decide_eq_true (by kernel_rfl)) k2 bel lt2) trodAll_mk0))),rfl,bel.frame _,fun h=>by cases h⟩
theorem zyn:Rows.WholeBackwardUptoSaid :=
 OpenClaim.holds_of_cond 4 Tryz.f4 rfl rfl rfl rfl rfl rfl rfl ⟨rfl,rfl,rfl,rfl,rfl⟩ rfl rfl rfl rfl rfl (by kernel_rfl) Tryz.func4 (by kernel_rfl)
  (of_decide_eq_true (by kernel_rfl)) (by unfold Func.isWrapper;first|(rw [if_pos (by decide +kernel)];kernel_rfl)|(rw [if_neg (by decide +kernel)];exact ⟨rfl,rfl⟩))
  (fun os started H enc _ F=>by rw [OpenClaim.pre_eq_preRow];exact zxy os started H enc F)
/-- No parameter wants a stand-in. -/
theorem plain (f:FuncId) (fn:Func) (hf:Tryz.pinned.checked.prog.funcNamed Rows.wholeBackwardUptoRow.func=some f) (hfn:Tryz.pinned.checked.prog.funcs[f]?=some fn) :
 false=Tryz.pinned.checked.prog.looks []/\∀ (j:Nat) t,fn.params[j]?=some t->Tryz.pinned.checked.prog.wantsStandIn t=false:=by
 obtain rfl:f=4:=Option.some.inj ((show Tryz.prog.funcNamed Rows.wholeBackwardUptoRow.func=some 4 by kernel_rfl).symm.trans hf) |>.symm
 obtain rfl:fn=Tryz.f4:=(Option.some.inj (Tryz.func4.symm.trans hfn)).symm
 have hall:(Tryz.f4.params.all fun t=>Tryz.prog.wantsStandIn t == false)=true:=by kernel_rfl
 exact ⟨by kernel_rfl,fun j t ht=>by
  have h2:Tryz.prog.wantsStandIn t=false:=by simpa using (Array.all_eq_true_iff_forall_mem.1 hall) t (Array.mem_of_getElem? ht)
  exact h2⟩
/-- The statement. -/
theorem card:Rows.WholeBackwardUptoCardSaid :=
 Claim7.holds_tied_plain_at .later [] _ _ _ _ zyn (fun _ h=>by cases h) (by kernel_rfl) (fun _ h=>by cases h) wholeBackwardUpto_row_tie rfl ⟨rfl,rfl⟩ (by kernel_rfl) rfl plain (by kernel_rfl)
end Go.Proofs.YtjmlialibdobpaaGreatDoor.wholeBackwardUptoDone
namespace Go.Proofs.YtjmlialibdobpaaGreatDoor
theorem wholeBackward_holds:Rows.WholeBackwardUptoCardSaid:=wholeBackwardUptoDone.card
#print axioms wholeBackward_holds
end Go.Proofs.YtjmlialibdobpaaGreatDoor
