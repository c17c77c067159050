/- Sequences are those of the reference's parse: the program. -/
import Derived.Test.YtkkhpdkfploodaaGreatDoorK22
import Derived.Test.YtkkhpdkfploodaaGreatDoorK16
import Derived.Test.YtkkhpdkfploodaaGreatDoorK23
namespace Go.Proofs.YtkkhpdkfploodaaGreatDoor
open Go.EG
attribute [local irreducible] CallK QCall Go.Calls
set_option linter.unusedSimpArgs false
set_option linter.unusedVariables false
set_option maxRecDepth 20000
set_option maxHeartbeats 4000000
structure SqG where
  i : Nat
  f : List Nat
theorem law_SignatureSequences (hs : SortsI Tryz.prog fn_slices_Sort_Sl_api_ID_api_ID) (w : World) (hG : TabF w []) (t : List Nat) (hbt : ∀ x ∈ t,x < 256) (htl : t.length ≤ 4611686018427387904) (a : Option Addr) (c : Nat) (hia : In w [] a (bytesV t)) (level : Int) (hlv : -9223372036854775808 ≤ level ∧ level ≤ 9223372036854775807) :
    Calls Tryz.prog fn_evergreenlaw22_SignatureSequences #[.slice a t.length c,.int .i64 level] w fun e w' => e = .returned (.bool true) ∧ Ext w w' := by
  refine pure_call [.v (.slice a t.length c),.v (.int .i64 level)] w ok_evergreenlaw22_SignatureSequences (by simp) ?_
  by_cases hsz : t.length ≤ 60 ∧ 0 < t.length
  case neg =>
    (repeat' ((conv => whnf); first | (refine bcase_prop (fun h => ?_) (fun h => ?_) <;> try (exfalso; omega)) | (refine bcase_nprop (fun h => ?_) (fun h => ?_) <;> try (exfalso; omega)) | (refine bcase_intro (fun h => ?_) (fun h => ?_) <;> (try simp only [Bool.not_eq_true',Bool.not_eq_false',decide_eq_true_eq,decide_eq_false_iff_not,Bool.not_eq_true,Bool.not_eq_false,Decidable.not_not] at h)) | refine And.intro (by first | omega | exact rfl | assumption | exact ⟨rfl,rfl,rfl,rfl,rfl⟩ | exact ⟨rfl,rfl,rfl,rfl⟩ | exact ⟨rfl,by omega⟩ | exact oneAll_of rfl | exact ⟨rfl,oneAll_of rfl⟩ | exact Ref.refl _ | exact Thin.ref (.skip (Thin.refl _)) | exact Thin.ref (.skip (.skip (Thin.refl _))) | exact ⟨rfl,Nat.le_of_ble_eq_true rfl⟩ | ((try unfold maxLen); (try simp only [List.length_nil,List.length_cons,List.length_append]); omega) | (refine ⟨rfl,?_⟩; (try simp only [List.length_nil,List.length_cons,List.length_append]); omega)) ?_ | intro _)); (all_goals (conv => whnf))
    all_goals first | (exfalso; omega) | exact ⟨rfl⟩
  obtain ⟨hsz,hpos⟩ := hsz
  have ht : t ≠ [] := fun h => by subst h; simp at hpos
  have c0 := fun w h => calls_awake22 w h
  have hw1 : WF ⟨5000,[]⟩ := WF.new 5000 (by decide)
  have cT := fun w h => calls_copied t (by omega) a c w h
  (repeat' ((conv => whnf); first | (refine CallK_new (fun w hR => calls_New 5000 77 w) ?_; rintro _ _ ⟨bs,fps,rfl,rfl⟩; refine ⟨.v _,rfl,?_⟩) | (refine CallK_new (fun w hR => calls_newP bs ⟨5000,[]⟩ w) ?_; rintro _ _ ⟨bp,bts,f2,rfl,rfl⟩; refine ⟨.v _,rfl,?_⟩) | refine CallK_slice 901 (fun w' hR => cT w' (hia.cast hR (by simp))) ?_ | (refine CallK_sub [78,77,3000] rfl (fun w hR h0 => calls_OfG bp bts bs ⟨5000,[]⟩ hw1 t hbt (by omega) (by dsimp only [List.length_nil]; omega) _ _ _ _ _ w h0 (hG.castL hR) (In.besideL (key := 901) hR rfl)) ?_; rintro _ _ ⟨B,x,g3,g4,hwB,hgB,hx,hx0,hx1,hln1,hout1,rfl,rfl⟩; refine ⟨.v _,rfl,?_⟩) | (refine bcase_prop (fun h => ?_) (fun h => ?_) <;> try (exfalso; omega)) | (refine bcase_nprop (fun h => ?_) (fun h => ?_) <;> try (exfalso; omega)) | (refine bcase_intro (fun h => ?_) (fun h => ?_) <;> (try simp only [Bool.not_eq_true',Bool.not_eq_false',decide_eq_true_eq,decide_eq_false_iff_not,Bool.not_eq_true,Bool.not_eq_false,Decidable.not_not] at h)) | refine And.intro (by first | omega | exact rfl | assumption | exact ⟨rfl,rfl,rfl,rfl,rfl⟩ | exact ⟨rfl,rfl,rfl,rfl⟩ | exact ⟨rfl,by omega⟩ | exact oneAll_of rfl | exact ⟨rfl,oneAll_of rfl⟩ | exact Ref.refl _ | exact Thin.ref (.skip (Thin.refl _)) | exact Thin.ref (.skip (.skip (Thin.refl _))) | exact ⟨rfl,Nat.le_of_ble_eq_true rfl⟩ | ((try unfold maxLen); (try simp only [List.length_nil,List.length_cons,List.length_append]); omega) | (refine ⟨rfl,?_⟩; (try simp only [List.length_nil,List.length_cons,List.length_append]); omega)) ?_ | intro _)); (all_goals (conv => whnf))
  all_goals first | (exfalso; omega) | skip
  obtain ⟨x1,hsg⟩ := hx1 ht
  have hsmB := hwB.small
  by_cases hneg : level < 0
  · have cB := fun f1 f2 fp w h h' => calls_SeqBad bp bts bs B hwB x level (.inr (.inr hneg)) f1 f2 fp w h h'
    have i1 := calls_Is 1 1 (by decide)
    (repeat' ((conv => whnf); first | (refine CallK_sub [78,77,3000] rfl (fun w hR h0 => cB _ _ _ w h0 (hG.castL hR)) ?_; rintro _ _ ⟨rfl,k3,k4,rfl⟩; refine ⟨.v _,rfl,?_⟩) | (refine CallK_pure (.v _) (fun w hR => c0 w (hG.cast hR (by simp))) ?_) | (first | refine CallK_pure (.v _) (fun w hR => i1 w) ?_ | refine QCall_pure (.v _) (fun w hR => i1 w) ?_) | (refine bcase_prop (fun h => ?_) (fun h => ?_) <;> try (exfalso; omega)) | (refine bcase_nprop (fun h => ?_) (fun h => ?_) <;> try (exfalso; omega)) | (refine bcase_intro (fun h => ?_) (fun h => ?_) <;> (try simp only [Bool.not_eq_true',Bool.not_eq_false',decide_eq_true_eq,decide_eq_false_iff_not,Bool.not_eq_true,Bool.not_eq_false,Decidable.not_not] at h)) | refine And.intro (by first | omega | exact rfl | assumption | exact ⟨rfl,rfl,rfl,rfl,rfl⟩ | exact ⟨rfl,rfl,rfl,rfl⟩ | exact ⟨rfl,by omega⟩ | exact oneAll_of rfl | exact ⟨rfl,oneAll_of rfl⟩ | exact Ref.refl _ | exact Thin.ref (.skip (Thin.refl _)) | exact Thin.ref (.skip (.skip (Thin.refl _))) | exact ⟨rfl,Nat.le_of_ble_eq_true rfl⟩ | ((try unfold maxLen); (try simp only [List.length_nil,List.length_cons,List.length_append]); omega) | (refine ⟨rfl,?_⟩; (try simp only [List.length_nil,List.length_cons,List.length_append]); omega)) ?_ | intro _)); (all_goals (conv => whnf))
    all_goals first | (exfalso; omega) | skip
    all_goals exact ⟨rfl⟩
  · obtain ⟨n,rfl⟩ : ∃ n : Nat,level = (n : Int) := ⟨level.toNat,by omega⟩
    have cB := fun f1 f2 fp w h h' => calls_SeqT 861 bp bts bs B hwB x n t (by omega) x1 hx.2 hsg f1 f2 fp w h h'
    (repeat' ((conv => whnf); first | (refine CallK_sub [78,77,3000] rfl (fun w hR h0 => cB _ _ _ w h0 (hG.castL hR)) ?_; rintro _ _ ⟨k3,k4,gl,a1,d1,q1,q2,q3,q4,rfl,rfl⟩; refine ⟨.v _,rfl,?_⟩) | (refine CallK_pure (.v _) (fun w hR => c0 w (hG.cast hR (by simp))) ?_) | (refine CallK_new (fun w' hR => calls_Begin t hbt (by omega) a c w' (hia.cast hR (by simp))) ?_; rintro _ _ ⟨b,S,ids,ai,ci,ar,cr,hrow,hlen,rfl,rfl⟩; refine ⟨.v _,rfl,?_⟩) | (refine bcase_prop (fun h => ?_) (fun h => ?_) <;> try (exfalso; omega)) | (refine bcase_nprop (fun h => ?_) (fun h => ?_) <;> try (exfalso; omega)) | (refine bcase_intro (fun h => ?_) (fun h => ?_) <;> (try simp only [Bool.not_eq_true',Bool.not_eq_false',decide_eq_true_eq,decide_eq_false_iff_not,Bool.not_eq_true,Bool.not_eq_false,Decidable.not_not] at h)) | refine And.intro (by first | omega | exact rfl | assumption | exact ⟨rfl,rfl,rfl,rfl,rfl⟩ | exact ⟨rfl,rfl,rfl,rfl⟩ | exact ⟨rfl,by omega⟩ | exact oneAll_of rfl | exact ⟨rfl,oneAll_of rfl⟩ | exact Ref.refl _ | exact Thin.ref (.skip (Thin.refl _)) | exact Thin.ref (.skip (.skip (Thin.refl _))) | exact ⟨rfl,Nat.le_of_ble_eq_true rfl⟩ | ((try unfold maxLen); (try simp only [List.length_nil,List.length_cons,List.length_append]); omega) | (refine ⟨rfl,?_⟩; (try simp only [List.length_nil,List.length_cons,List.length_append]); omega)) ?_ | intro _)); (all_goals (conv => whnf))
    all_goals first | (exfalso; omega) | skip
    have hids : ids.length = t.length := by
      have := congrArg List.length hrow.tms
      simpa [tms] using this
    have hout0 : Out ⟨1048576,[]⟩ S t := (Out.refl _ t).next hrow.grow hrow.news (k := 0) hrow.tms
    have h0 : ∃ to,OfI ⟨1048576,[]⟩ t (2 * t.length) ⟨1,S,ids,none,none,0,0,[],[],to⟩ := by
      by_cases h2 : 2 ≤ ids.length
      · obtain ⟨T,k1,k2,k3⟩ := soonT (ts := seqT t 0) (by rw [seqT,List.length_map]; omega) 1 (Nat.le_refl _)
        exact ⟨T,hrow.wf,hrow.grow,hrow.seq,hrow.tms,⟨Nat.le_refl _,k1⟩,hlen,fun j hj => absurd hj (by simp),by dsimp only; omega,k2,fun _ => k3,hout0⟩
      · exact ⟨1,hrow.wf,hrow.grow,hrow.seq,hrow.tms,⟨Nat.le_refl _,Nat.le_refl _⟩,hlen,fun j hj => absurd hj (by simp),by dsimp only; omega,by dsimp only; omega,fun h => absurd h h2,hout0⟩
    obtain ⟨to,h0⟩ := h0
    refine VC_loop OrG (fun x => [(0,.v (.slice a t.length c)),(1,.v (.int .i64 n)),(5,.v (pS bs)),(9,.v (.slice a1 gl.length d1)),(10,.v .nilIface),(11,.ptr 4000 b 0)]) (fun x => pL b x.g.S x.g.ids ((x.g.lev - 1 : Nat) : Int) x.ai x.ci x.ar x.cr ++ [packE 77 k4 (fS bs B),.own 861 a1 gl.length d1 ty_api_Group 2 (prs .i64 gl)]) (fun x => OfI ⟨1048576,[]⟩ t (2 * t.length) x.g ∧ x.g.lev - 1 ≤ n) (fun x => x.g.ids.length * 1000 + (x.g.to - x.g.lev)) ⟨⟨1,S,ids,none,none,0,0,[],[],to⟩,ai,ci,ar,cr⟩ ⟨h0,Nat.zero_le _⟩ (by (repeat ((conv => whnf); refine And.intro (by first | exact rfl | exact vint_eq (by omega) | exact vint_eq (by (dsimp only; omega)) | exact vsl_eq (by omega) | exact vsl_eq (by first | (dsimp only; omega) | (simp; done) | (simp; omega))) ?_)); exact trivial) (Ref.takes [4000,4001,4002,77,861] rfl (Thin.refl _)) ?_
    clear h0 hrow hlen hids hout0
    rintro ⟨⟨lev,S,ids,u1,u2,u3,u4,u5,u6,to⟩,ai,ci,ar,cr⟩ ⟨hI,hln⟩
    dsimp only at hI hln ⊢
    have hnx := fun (S2 : Sto) (ids2 : List Int) h => OfI.next (S2 := S2) (ids2 := ids2) hI h
    have htt := hI.tms
    have hll := hI.len
    have hps := seqT_pos hpos (lev - 1)
    have hsl := hI.pos
    have hto := hI.to_
    have hmm := hI.most
    have hgr := hI.grow.most
    have htx : (txtOf (tms S ids)).length ≤ 65536 := by rw [htt,seqT_txt]; omega
    dsimp only at hnx htt hll hps hsl hto hmm hgr ⊢
    have hlv2 : lev - 1 + 1 = lev := by omega
    have hidl : ids.length ≤ t.length := by rw [hll]; exact seqT_len t _
    by_cases h2 : lev - 1 < n ∧ 2 ≤ ids.length
    · obtain ⟨h2a,h2⟩ := h2
      have cN := fun fp w h => calls_Next b S hI.wf ids hI.seq (by omega) (by omega) htx (2 * t.length) hmm (by omega) (lev - 1) (by omega) ai ci ar cr fp w h
      rw [hlv2,htt] at cN
      (repeat' ((conv => whnf); first | refine ⟨.sl 4002 _ _ _,⟨rfl,rfl,rfl,rfl⟩,?_⟩ | refine ⟨_,⟨rfl,trivial⟩,?_⟩ | (refine CallK_sub [4000,4001,4002] rfl (fun w hR h0 => cN _ w h0) ?_; rintro _ _ ⟨S2,ids2,ai2,ci2,ar2,cr2,hrow,hlen,rfl,rfl⟩; refine ⟨.v _,rfl,?_⟩) | (refine bcase_prop (fun h => ?_) (fun h => ?_) <;> try (exfalso; omega)) | (refine bcase_nprop (fun h => ?_) (fun h => ?_) <;> try (exfalso; omega)) | (refine bcase_intro (fun h => ?_) (fun h => ?_) <;> (try simp only [Bool.not_eq_true',Bool.not_eq_false',decide_eq_true_eq,decide_eq_false_iff_not,Bool.not_eq_true,Bool.not_eq_false,Decidable.not_not] at h)) | refine And.intro (by first | omega | exact rfl | assumption | exact ⟨rfl,rfl,rfl,rfl,rfl⟩ | exact ⟨rfl,rfl,rfl,rfl⟩ | exact ⟨rfl,by omega⟩ | exact oneAll_of rfl | exact ⟨rfl,oneAll_of rfl⟩ | exact Ref.refl _ | exact Thin.ref (.skip (Thin.refl _)) | exact Thin.ref (.skip (.skip (Thin.refl _))) | exact ⟨rfl,Nat.le_of_ble_eq_true rfl⟩ | ((try unfold maxLen); (try simp only [List.length_nil,List.length_cons,List.length_append]); omega) | (refine ⟨rfl,?_⟩; (try simp only [List.length_nil,List.length_cons,List.length_append]); omega)) ?_ | intro _)); (all_goals (conv => whnf))
      all_goals first | (exfalso; omega) | skip
      obtain ⟨to2,hn⟩ := hnx S2 ids2 h2 hrow hlen
      exact loop_next ⟨⟨lev + 1,S2,ids2,none,none,0,0,[],[],to2⟩,ai2,ci2,ar2,cr2⟩ ⟨(hn _ _ _ _ _ _).1,by ((try dsimp only); omega)⟩ (hn none none 0 0 [] []).2 (by (repeat ((conv => whnf); refine And.intro (by first | exact rfl | exact vint_eq (by omega) | exact vint_eq (by (dsimp only; omega)) | exact vsl_eq (by omega) | exact vsl_eq (by first | (dsimp only; omega) | (simp; done) | (simp; omega))) ?_)); exact trivial) (Ref.takes [4000,4001,4002,77,861] rfl (Thin.refl _))
    · have hseq : seqT t n = seqT t (lev - 1) := by
        by_cases he : lev - 1 = n
        · rw [he]
        · have h1 : ids.length = 1 := by omega
          obtain ⟨y,rfl⟩ := List.length_eq_one_iff.1 h1
          have := seqT_stay (k := lev - 1) (m := tm S.E y) htt.symm n (by omega)
          rw [this,← htt]; rfl
      rw [hseq,← htt,runs_tms hI.wf hI.seq] at q2
      have hgl := congrArg List.length q2
      rw [List.length_map,List.length_map] at hgl
      dsimp only at q2 hgl
      have cG := fun w h => calls_Groups w ai ci ids h (by omega)
      (repeat' ((conv => whnf); first | refine ⟨.sl 4002 _ _ _,⟨rfl,rfl,rfl,rfl⟩,?_⟩ | refine ⟨_,⟨rfl,trivial⟩,?_⟩ | refine CallK_slice 900 (fun w' hR => cG w' (In.ownR (key := 4002) hR rfl)) ?_ | (refine bcase_prop (fun h => ?_) (fun h => ?_) <;> try (exfalso; omega)) | (refine bcase_nprop (fun h => ?_) (fun h => ?_) <;> try (exfalso; omega)) | (refine bcase_intro (fun h => ?_) (fun h => ?_) <;> (try simp only [Bool.not_eq_true',Bool.not_eq_false',decide_eq_true_eq,decide_eq_false_iff_not,Bool.not_eq_true,Bool.not_eq_false,Decidable.not_not] at h)) | refine And.intro (by first | omega | exact rfl | assumption | exact ⟨rfl,rfl,rfl,rfl,rfl⟩ | exact ⟨rfl,rfl,rfl,rfl⟩ | exact ⟨rfl,by omega⟩ | exact oneAll_of rfl | exact ⟨rfl,oneAll_of rfl⟩ | exact Ref.refl _ | exact Thin.ref (.skip (Thin.refl _)) | exact Thin.ref (.skip (.skip (Thin.refl _))) | exact ⟨rfl,Nat.le_of_ble_eq_true rfl⟩ | ((try unfold maxLen); (try simp only [List.length_nil,List.length_cons,List.length_append]); omega) | (refine ⟨rfl,?_⟩; (try simp only [List.length_nil,List.length_cons,List.length_append]); omega)) ?_ | intro _)); (all_goals (conv => whnf))
      all_goals first | (exfalso; omega) | skip
      all_goals (
        rename_i ag cg
        refine VC_loop SqG (fun y => [(5,.v (pS bs)),(9,.v (.slice a1 gl.length d1)),(11,.ptr 4000 b 0),(12,.sl 900 ag (runs ids).length cg),(13,.v (.int .i64 y.i))]) (fun y => pL b S ids ((lev - 1 : Nat) : Int) ai ci ar cr ++ [packE 77 y.f (fS bs B),.own 861 a1 gl.length d1 ty_api_Group 2 (prs .i64 gl),.own 900 ag (runs ids).length cg ty_api_Group 2 (prs .i64 (runs ids))]) (fun y => y.i ≤ gl.length) (fun y => gl.length - y.i) ⟨0,k4⟩ (Nat.zero_le _) (by (repeat ((conv => whnf); refine And.intro (by first | exact rfl | exact vint_eq (by omega) | exact vint_eq (by (dsimp only; omega)) | exact vsl_eq (by omega) | exact vsl_eq (by first | (dsimp only; omega) | (simp; done) | (simp; omega))) ?_)); exact trivial) (Ref.takes [4000,4001,4002,77,861,900] rfl (Thin.refl _)) ?_
        rintro ⟨i,f⟩ hi
        dsimp only at hi ⊢
        by_cases hlt : i < gl.length
        · have hlt2 : i < (runs ids).length := by omega
          obtain ⟨y1,y2⟩ := prs_get (k := .i64) hlt
          obtain ⟨z1,z2⟩ := prs_get (k := .i64) hlt2
          have hne1 := q4 (by omega)
          have hmg : gl.getD i (0,0) ∈ gl := by
            rw [List.getD_eq_getElem?_getD,List.getElem?_eq_getElem hlt]; exact List.getElem_mem _
          have hmr : (runs ids).getD i (0,0) ∈ runs ids := by
            rw [List.getD_eq_getElem?_getD,List.getElem?_eq_getElem hlt2]; exact List.getElem_mem _
          have hgk := q1.ok _ hmg
          have hrp := runs_pos ids _ hmr
          have hrk := (atR_next hlt2).2.2.2
          have hat : atR ids i < ids.length := by have := atR_next hlt2; omega
          have hrs := hI.seq.get hat
          dsimp only at hrs
          rw [hrk] at hrs
          have he : (tm B.E (gl.getD i (0,0)).1,(gl.getD i (0,0)).2.toNat) = (tm S.E ((runs ids).getD i (0,0)).1,((runs ids).getD i (0,0)).2.toNat) := by
            have : (gl.map (grT B)).getD i (.nil,0) = ((runs ids).map fun g => (tm S.E g.1,g.2.toNat)).getD i (.nil,0) := by rw [q2]
            rw [getD_map (d := (0,0)) hlt,getD_map (d := (0,0)) hlt2] at this
            exact this
          generalize gl.getD i (0,0) = g at *
          generalize (runs ids).getD i (0,0) = r at *
          simp only [Prod.mk.injEq] at he
          have heq : g.2 = r.2 := by omega
          have c6 := fun f fp w h => calls_lCanonK 77 881 hs bs B hwB g.1 ⟨by omega,hgk.1.2⟩ f fp w h
          have c7 := fun w h => calls_refCanonS S hI.wf ar cr r.1 (by omega) hrs.2 w h
          rw [he.1] at c6
          unfold lcK at c6
          unfold cnQ at c7
          rw [heq] at y2
          generalize canT (tm S.E r.1) = can at *
          (repeat' ((conv => whnf); first | rw [Int.toNat_natCast] | refine ⟨_,rdO 861 rfl y1,?_⟩ | refine ⟨_,rdO 861 rfl y2,?_⟩ | refine ldCell z1 ?_ | refine ldCell z2 ?_ | (refine CallK_sub [77] rfl (fun w hR h0 => c6 _ _ w h0) ?_; rintro _ _ ⟨hz9,a9,c9,f9,rfl,rfl⟩; have cSm := fun a a' c c' w h1 h2 => calls_Same can hz9 a a' c c' w h1 h2; refine ⟨.v _,rfl,?_⟩) | (refine CallK_new (fun w' hR => c7 w' (In.ownR (key := 4001) hR rfl)) ?_; rintro _ _ ⟨hz8,a8,c8,rfl,rfl⟩; refine ⟨.v _,rfl,?_⟩) | (refine QCall_pure (.v _) (fun w hR => cSm _ _ _ _ w (In.ownR (key := 881) hR rfl) (In.ownR (key := 880) hR rfl)) ?_) | refine ⟨.sl 4001 _ _ _,⟨rfl,rfl,rfl,rfl⟩,?_⟩ | refine ⟨.sl 4002 _ _ _,⟨rfl,rfl,rfl,rfl⟩,?_⟩ | refine ⟨_,⟨rfl,trivial⟩,?_⟩ | refine stop_and ?_ ?_ | (refine bcase_prop (fun h => ?_) (fun h => ?_) <;> try (exfalso; omega)) | (refine bcase_nprop (fun h => ?_) (fun h => ?_) <;> try (exfalso; omega)) | (refine bcase_intro (fun h => ?_) (fun h => ?_) <;> (try simp only [Bool.not_eq_true',Bool.not_eq_false',decide_eq_true_eq,decide_eq_false_iff_not,Bool.not_eq_true,Bool.not_eq_false,Decidable.not_not] at h)) | refine And.intro (by first | omega | exact rfl | assumption | exact ⟨rfl,rfl,rfl,rfl,rfl⟩ | exact ⟨rfl,rfl,rfl,rfl⟩ | exact ⟨rfl,by omega⟩ | exact oneAll_of rfl | exact ⟨rfl,oneAll_of rfl⟩ | exact Ref.refl _ | exact Thin.ref (.skip (Thin.refl _)) | exact Thin.ref (.skip (.skip (Thin.refl _))) | exact hne1 | exact fun h => Bool.noConfusion h | exact fun _ => Ref.refl _ | exact ⟨rfl,Nat.le_of_ble_eq_true rfl⟩ | ((try unfold maxLen); (try simp only [List.length_nil,List.length_cons,List.length_append]); omega) | (refine ⟨rfl,?_⟩; (try simp only [List.length_nil,List.length_cons,List.length_append]); omega)) ?_ | intro _)); (all_goals (conv => whnf))
          all_goals first | (exfalso; omega) | skip
          all_goals exact loop_next ⟨i + 1,f9⟩ (by ((try dsimp only); omega)) (by ((try dsimp only); omega)) (by (repeat ((conv => whnf); refine And.intro (by first | exact rfl | exact vint_eq (by omega) | exact vint_eq (by (dsimp only; omega)) | exact vsl_eq (by omega) | exact vsl_eq (by first | (dsimp only; omega) | (simp; done) | (simp; omega))) ?_)); exact trivial) (Ref.takes [4000,4001,4002,77,861,900] rfl (Thin.refl _))
        · (repeat' ((conv => whnf); first | (refine bcase_prop (fun h => ?_) (fun h => ?_) <;> try (exfalso; omega)) | (refine bcase_nprop (fun h => ?_) (fun h => ?_) <;> try (exfalso; omega)) | (refine bcase_intro (fun h => ?_) (fun h => ?_) <;> (try simp only [Bool.not_eq_true',Bool.not_eq_false',decide_eq_true_eq,decide_eq_false_iff_not,Bool.not_eq_true,Bool.not_eq_false,Decidable.not_not] at h)) | refine And.intro (by first | omega | exact rfl | assumption | exact ⟨rfl,rfl,rfl,rfl,rfl⟩ | exact ⟨rfl,rfl,rfl,rfl⟩ | exact ⟨rfl,by omega⟩ | exact oneAll_of rfl | exact ⟨rfl,oneAll_of rfl⟩ | exact Ref.refl _ | exact Thin.ref (.skip (Thin.refl _)) | exact Thin.ref (.skip (.skip (Thin.refl _))) | exact ⟨rfl,Nat.le_of_ble_eq_true rfl⟩ | ((try unfold maxLen); (try simp only [List.length_nil,List.length_cons,List.length_append]); omega) | (refine ⟨rfl,?_⟩; (try simp only [List.length_nil,List.length_cons,List.length_append]); omega)) ?_ | intro _)); (all_goals (conv => whnf))
          all_goals first | (exfalso; omega) | skip
          all_goals exact ⟨rfl⟩)
theorem law_SignatureSequencesI (w : World) (hG : TabF w []) (xs : List Int) (hx : ∀ n ∈ xs,(Lit.int .u8 n).wf = true) (hxl : xs.length ≤ 140737488351232) (a : Option Addr) (c : Nat) (hia : In w [] a (ints .u8 xs)) (level : Int) (hlv : -9223372036854775808 ≤ level ∧ level ≤ 9223372036854775807) :
    Calls Tryz.prog fn_evergreenlaw22_SignatureSequences #[.slice a xs.length c,.int .i64 level] w fun e w' => e = .returned (.bool true) ∧ Ext w w' := by
  obtain ⟨e1,b1⟩ := bytes_ints hx
  rw [e1] at hia
  have := law_SignatureSequences sortsI w hG (xs.map Int.toNat) b1 (by simp; omega) a c hia level hlv
  rwa [List.length_map] at this
end Go.Proofs.YtkkhpdkfploodaaGreatDoor
