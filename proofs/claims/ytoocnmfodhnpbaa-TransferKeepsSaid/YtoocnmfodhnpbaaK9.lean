/- A run over a range: the program. -/
import Derived.Test.YtoocnmfodhnpbaaK8
import Derived.Test.YtoocnmfodhnpbaaK5
namespace Go.Proofs.Ytoocnmfodhnpbaa
open Go.EG
attribute [local irreducible] CallK QCall Go.Calls
set_option linter.unusedSimpArgs false
set_option linter.unusedVariables false
set_option maxRecDepth 20000
set_option maxHeartbeats 4000000
theorem FIn.neP {w0 w : World} {fp0 : List Nat} {L Lr : List Ent} {key : Nat} {F : List Frz} {a : Option Addr} {xs : List Value} (hR : R w0 fp0 L w) (hm : pickE key L = some (frE key F,Lr)) (h : FIn F a xs) (h0 : 0 < xs.length) : a ≠ none :=
  FIn.ne hR ((pickE_perm hm).mem_iff.2 List.mem_cons_self) h h0
def ordP (back : Bool) (ps : List Pt) : List Pt := if back then ps.reverse else ps
theorem ori_parts (S : Sto) (back : Bool) : ∀ ps : List Pt,ori back (ps.flatMap (ptT S)) = (ordP back ps).flatMap fun p => ori back (ptT S p) := by
  intro ps
  cases back
  · show ps.flatMap (ptT S) = ps.flatMap fun p => ptT S p
    rfl
  · show (ps.flatMap (ptT S)).reverse = ps.reverse.flatMap fun p => (ptT S p).reverse
    induction ps with
    | nil => rfl
    | cons p ps ih => rw [List.flatMap_cons,List.reverse_append,ih,List.reverse_cons,List.flatMap_append,List.flatMap_singleton]
theorem ordP_mem {back : Bool} {ps : List Pt} {p : Pt} : p ∈ ordP back ps ↔ p ∈ ps := by cases back <;> simp [ordP]
theorem ordP_len (back : Bool) (ps : List Pt) : (ordP back ps).length = ps.length := by cases back <;> simp [ordP]
theorem run_step {T : Tb} {kk : Nat} (hM : MOk T.M kk) {j : Nat} (hj : j < T.M.nx.length) {t X : List Nat} (ht : ∀ x ∈ t,x < 256) {e : Eff} (he : e = T.eff X) :
    e.en.getD (runE T.M j t) 0 = (runE T.M j (t ++ ori T.back X) : Int) ∧ min (((min (runH T.M T.H j t) BY : Nat) : Int) + e.hi.getD (runE T.M j t) 0) 1152921504606846977 = ((min (runH T.M T.H j (t ++ ori T.back X)) BY : Nat) : Int) := by
  have hq := runE_lt hM ht hj
  obtain ⟨h1,h2⟩ := eff_step T.M T.H t (ori T.back X) j
  subst he
  refine ⟨?_,?_⟩
  · rw [effOf_en _ _ _ hq,h1]
  · rw [effOf_hi _ _ _ hq,← h2]
    unfold BY
    omega
def KnI (K : List KE) (i : Int) : Prop := ∃ k ∈ K,k.id = i
theorem KnI.clo {T : Tb} {S : Sto} {y : MA} {ha : Option Addr} {K : List KE} {F : List Frz} (ok : TOk T S.E y ha K F) : Clo S (KnI K) := by
  rintro i ⟨k,hk,rfl⟩
  have hp := (ok.kn k hk).pos
  exact ⟨hp.1,hp.2,(ok.clo k hk).1,(ok.clo k hk).2⟩
def prtV (T : Tb) (S : Sto) (n i m q : Int) : Value :=
  if askOk T S n q then (if 0 ≤ i ∧ 0 ≤ m ∧ i ≤ (tm S.E n).txt.length ∧ m ≤ (tm S.E n).txt.length - i then
    (if runH T.M T.H q.toNat (ori T.back (((tm S.E n).txt.drop i.toNat).take m.toNat)) ≤ LM then .tuple #[.int .i64 (runE T.M q.toNat (ori T.back (((tm S.E n).txt.drop i.toNat).take m.toNat))),.int .i64 (runH T.M T.H q.toNat (ori T.back (((tm S.E n).txt.drop i.toNat).take m.toNat))),.nilIface]
     else .tuple #[.int .i64 0,.int .i64 0,errV 2]) else .tuple #[.int .i64 0,.int .i64 0,errV 1]) else .tuple #[.int .i64 0,.int .i64 0,errV 1]
structure PgG where
  i : Nat
  t : List Nat
structure PhG where
  j : Nat
  t : List Nat
theorem calls_TPart (bt bs : Nat) (T : Tb) {kk : Nat} (hT : TbOk T kk) (S : Sto) (hw : WF S) (hD : Clo S T.D) (n i m q : Int) (hn : n = 0 ∨ ¬ known S n ∨ T.D n) : XC fn_P_transfer_Table_Part #[pS bt,.int .i64 n,.int .i64 i,.int .i64 m,.int .i64 q] bt bs T S (prtV T S n i m q) := by
  intro k1 k2 fp1 fp2 w hR
  have hR : R w (fp1 ++ fp2) [packE 78 fp1 (fX bt bs T S.E),packE 77 fp2 (fS bs S)] w := (Thin.packE (Thin.packE (.nil []))).ref w hR
  have hsm := hw.small
  have c1 := calls_Tcheck bt bs T S hw n q
  by_cases hq : askOk T S n q
  case neg =>
    obtain ⟨⟨y,ha,hc,mb,K,F,ok⟩,hfp,hR'⟩ := hR.unpack
    refine part_call [.ptr 3000 bt 0,.v (.int .i64 n),.v (.int .i64 i),.v (.int .i64 m),.v (.int .i64 q)] ok_P_transfer_Table_Part (by simp) hR ?_
    rw [show prtV T S n i m q = _ from if_neg hq]
    rw [show chkV T S n q = errV 1 from if_neg hq] at c1
    (repeat' ((conv => whnf); first | (refine CallK_pack2 (key1 := 78) (key2 := 77) rfl rfl (fun w hR h0 => c1 _ _ _ _ _ h0) ?_; rintro _ _ ⟨rfl,fp1',fp2',rfl⟩; refine ⟨.v _,rfl,?_⟩) | (refine bcase_prop (fun h => ?_) (fun h => ?_) <;> try (exfalso; omega)) | (refine bcase_nprop (fun h => ?_) (fun h => ?_) <;> try (exfalso; omega)) | (refine bcase_intro (fun h => ?_) (fun h => ?_) <;> (try simp only [Bool.not_eq_true',Bool.not_eq_false',decide_eq_true_eq,decide_eq_false_iff_not,Bool.not_eq_true,Bool.not_eq_false,Decidable.not_not] at h)) | refine And.intro (by first | omega | exact rfl | assumption | exact ⟨rfl,rfl,rfl,rfl,rfl⟩ | exact ⟨rfl,rfl,rfl,rfl⟩ | exact ⟨rfl,by omega⟩ | exact oneAll_of rfl | exact ⟨rfl,oneAll_of rfl⟩ | exact Ref.refl _ | exact Thin.ref (.skip (Thin.refl _)) | exact Thin.ref (.skip (.skip (Thin.refl _))) | exact ⟨rfl,Nat.le_of_ble_eq_true rfl⟩ | ((try unfold maxLen); (try simp only [List.length_nil,List.length_cons,List.length_append]); omega) | (refine ⟨rfl,?_⟩; (try simp only [List.length_nil,List.length_cons,List.length_append]); omega)) ?_ | intro _)); (all_goals (conv => whnf))
    all_goals first | (exfalso; omega) | skip
    exact ⟨endXP (Ref.takes [78,77] rfl (Thin.refl _)) rfl⟩
  rw [show prtV T S n i m q = _ from if_pos hq]
  have hn : n = 0 ∨ T.D n := hn.imp_right fun h => h.resolve_left fun hk => hk hq.1
  rw [show chkV T S n q = .nilIface from if_pos hq] at c1
  have hR2 : R w (fp1 ++ fp2) [packE 78 fp1 (fX bt bs T S.E),packE 77 fp2 (fS bs S)] w := hR
  refine part_call [.ptr 3000 bt 0,.v (.int .i64 n),.v (.int .i64 i),.v (.int .i64 m),.v (.int .i64 q)] ok_P_transfer_Table_Part (by simp) hR ?_
  have hkn : known S n := hq.1
  have c3 := calls_SWeight bs S n hsm
  rw [wtRes_ok hkn] at c3
  have c4 := calls_lRange i m (tm S.E n).txt.length (hw.le hkn.2)
  obtain ⟨j,hj⟩ : ∃ j : Nat,q = j := ⟨q.toNat,by have := hq.2; omega⟩
  subst hj
  rw [Int.toNat_natCast]
  have hjl : j < T.M.nx.length := by have := hq.2; omega
  by_cases hrg : 0 ≤ i ∧ 0 ≤ m ∧ i ≤ (tm S.E n).txt.length ∧ m ≤ (tm S.E n).txt.length - i
  case neg =>
    rw [if_neg hrg]
    rw [show rangeRes i m (tm S.E n).txt.length = errV 1 from if_neg hrg] at c4
    (repeat' ((conv => whnf); first | (refine CallK_pack2U (key1 := 78) (key2 := 77) rfl rfl (fun w hR h0 => c1 _ _ _ _ _ h0) ?_; rintro ⟨y,ha,hc,mb,K,F,ok⟩ g2 w1 hRw; refine ⟨.v _,rfl,?_⟩) | (refine CallK_pack (key := 77) rfl (fun w hR h0 => c3 _ _ _ h0) ?_; rintro _ _ ⟨rfl,fp',rfl⟩; refine ⟨.v _,rfl,?_⟩) | (first | refine CallK_pure (.v _) (fun w hR => c4 w) ?_ | refine QCall_pure (.v _) (fun w hR => c4 w) ?_) | refine ⟨_,⟨rfl,trivial⟩,?_⟩ | (refine bcase_prop (fun h => ?_) (fun h => ?_) <;> try (exfalso; omega)) | (refine bcase_nprop (fun h => ?_) (fun h => ?_) <;> try (exfalso; omega)) | (refine bcase_intro (fun h => ?_) (fun h => ?_) <;> (try simp only [Bool.not_eq_true',Bool.not_eq_false',decide_eq_true_eq,decide_eq_false_iff_not,Bool.not_eq_true,Bool.not_eq_false,Decidable.not_not] at h)) | refine And.intro (by first | omega | exact rfl | assumption | exact ⟨rfl,rfl,rfl,rfl,rfl⟩ | exact ⟨rfl,rfl,rfl,rfl⟩ | exact ⟨rfl,by omega⟩ | exact oneAll_of rfl | exact ⟨rfl,oneAll_of rfl⟩ | exact Ref.refl _ | exact Thin.ref (.skip (Thin.refl _)) | exact Thin.ref (.skip (.skip (Thin.refl _))) | exact ⟨rfl,Nat.le_of_ble_eq_true rfl⟩ | ((try unfold maxLen); (try simp only [List.length_nil,List.length_cons,List.length_append]); omega) | (refine ⟨rfl,?_⟩; (try simp only [List.length_nil,List.length_cons,List.length_append]); omega)) ?_ | intro _)); (all_goals (conv => whnf))
    all_goals first | (exfalso; omega) | skip
    exact ⟨endX ⟨y,ha,hc,mb,K,F,ok⟩ (Ref.takes [3000,3001,3002,77] rfl (Thin.refl _)) rfl⟩
  rw [if_pos hrg]
  rw [show rangeRes i m (tm S.E n).txt.length = .nilIface from if_pos hrg] at c4
  obtain ⟨a,ha⟩ : ∃ a : Nat,i = a := ⟨i.toNat,by omega⟩
  obtain ⟨b,hb⟩ : ∃ b : Nat,m = b := ⟨m.toNat,by omega⟩
  subst ha hb
  rw [Int.toNat_natCast,Int.toNat_natCast]
  have c2 := fun (w' : World) fp1 fp2 hR => calls_learn bt bs T hT S hw hD n hn (k1 := 78) (k2 := 77) (fp1 := fp1) (fp2 := fp2) (w := w') hR
  (repeat' ((conv => whnf); first | (refine CallK_pack2U (key1 := 78) (key2 := 77) rfl rfl (fun w hR h0 => c1 _ _ _ _ _ h0) ?_; rintro ⟨y,ha,hc,mb,K,F,ok⟩ g2 w1 hRw; refine ⟨.v _,rfl,?_⟩) | (refine CallK_pack (key := 77) rfl (fun w hR h0 => c3 _ _ _ h0) ?_; rintro _ _ ⟨rfl,fp',rfl⟩; refine ⟨.v _,rfl,?_⟩) | (first | refine CallK_pure (.v _) (fun w hR => c4 w) ?_ | refine QCall_pure (.v _) (fun w hR => c4 w) ?_) | (refine CallK_ref ((Ref.takes [3000,3001,3002,77,14] rfl (Thin.refl _)).trans (Ref.packs (key := 78) (f := fX bt bs T S.E) ⟨y,ha,hc,mb,K,F,ok⟩ (Thin.refl _))) ?_; refine CallK_pack2R (key1 := 78) (key2 := 77) rfl rfl (fun w' hR h0 => c2 w' _ _ h0) ?_; rintro _ _ w1 ⟨rfl,⟨y,ha,hc,mb,K,F,ok⟩,fp',rfl,hkn⟩ hRw; refine ⟨.v _,rfl,?_⟩) | refine ⟨_,⟨rfl,trivial⟩,?_⟩ | (refine bcase_prop (fun h => ?_) (fun h => ?_) <;> try (exfalso; omega)) | (refine bcase_nprop (fun h => ?_) (fun h => ?_) <;> try (exfalso; omega)) | (refine bcase_intro (fun h => ?_) (fun h => ?_) <;> (try simp only [Bool.not_eq_true',Bool.not_eq_false',decide_eq_true_eq,decide_eq_false_iff_not,Bool.not_eq_true,Bool.not_eq_false,Decidable.not_not] at h)) | refine And.intro (by first | omega | exact rfl | assumption | exact ⟨rfl,rfl,rfl,rfl,rfl⟩ | exact ⟨rfl,rfl,rfl,rfl⟩ | exact ⟨rfl,by omega⟩ | exact oneAll_of rfl | exact ⟨rfl,oneAll_of rfl⟩ | exact Ref.refl _ | exact Thin.ref (.skip (Thin.refl _)) | exact Thin.ref (.skip (.skip (Thin.refl _))) | exact ⟨rfl,Nat.le_of_ble_eq_true rfl⟩ | ((try unfold maxLen); (try simp only [List.length_nil,List.length_cons,List.length_append]); omega) | (refine ⟨rfl,?_⟩; (try simp only [List.length_nil,List.length_cons,List.length_append]); omega)) ?_ | intro _)); (all_goals (conv => whnf))
  all_goals first | (exfalso; omega) | skip
  have hPO : POk S (KnI K) ⟨n,a,b⟩ := by
    refine ⟨?_,?_⟩
    · by_cases h0 : n = 0
      · exact .inl h0
      · obtain ⟨k,hk⟩ := hkn h0
        exact .inr ⟨k,(kfd_some hk).1,(kfd_some hk).2⟩
    · show a + b ≤ (tm S.E n).len
      unfold Tm.len; omega
  have c5 := fun f0 fp (w' : World) hR => calls_PartsOf bs S hw (KnI K) (KnI.clo ok) ⟨n,a,b⟩ hPO f0 fp w' hR
  have hpT : pcT S ⟨n,a,b⟩ = ((tm S.E n).txt.drop a).take b := rfl
  generalize ((tm S.E n).txt.drop a).take b = X at *
  have c6 := fun ps hl (a8 : Option Addr) (c8 : Nat) fp (w' : World) hR => calls_revPt ps hl a8 c8 fp w' hR
  (repeat' ((conv => whnf); first | (refine CallK_subR [77] rfl (fun w' hR h0 => c5 _ _ w' (by with_reducible exact h0)) ?_; rintro _ _ w2 ⟨ps,a8,c8,f8,rfl,hQ,htx,hpl,rfl⟩ hRp; refine ⟨.v _,rfl,?_⟩) | (refine CallK_sub [880] rfl (fun w' hR h0 => c6 ps (Nat.le_trans hpl (Nat.le_of_ble_eq_true rfl)) _ _ _ w' h0) ?_; rintro _ _ ⟨rfl,rfl⟩; refine ⟨.v _,rfl,?_⟩) | refine ⟨_,⟨rfl,trivial⟩,?_⟩ | (refine bcase_prop (fun h => ?_) (fun h => ?_) <;> try (exfalso; omega)) | (refine bcase_nprop (fun h => ?_) (fun h => ?_) <;> try (exfalso; omega)) | (refine bcase_intro (fun h => ?_) (fun h => ?_) <;> (try simp only [Bool.not_eq_true',Bool.not_eq_false',decide_eq_true_eq,decide_eq_false_iff_not,Bool.not_eq_true,Bool.not_eq_false,Decidable.not_not] at h)) | refine And.intro (by first | omega | exact rfl | assumption | exact ⟨rfl,rfl,rfl,rfl,rfl⟩ | exact ⟨rfl,rfl,rfl,rfl⟩ | exact ⟨rfl,by omega⟩ | exact oneAll_of rfl | exact ⟨rfl,oneAll_of rfl⟩ | exact Ref.refl _ | exact Thin.ref (.skip (Thin.refl _)) | exact Thin.ref (.skip (.skip (Thin.refl _))) | exact ⟨rfl,Nat.le_of_ble_eq_true rfl⟩ | ((try unfold maxLen); (try simp only [List.length_nil,List.length_cons,List.length_append]); omega) | (refine ⟨rfl,?_⟩; (try simp only [List.length_nil,List.length_cons,List.length_append]); omega)) ?_ | intro _)); (all_goals (conv => whnf))
  all_goals first | (exfalso; omega) | skip
  all_goals
    have nF := fun {a : Option Addr} {xs : List Value} (h : FIn F a xs) (h0 : 0 < xs.length) => FIn.neP hRp (key := 3002) rfl h h0
    have nO := fun (h : 0 < ps.length) => own_ne (key := 880) hRp rfl h
    obtain ⟨lp,hlp⟩ : ∃ lp,ordP T.back ps = lp := ⟨_,rfl⟩
    have hll : lp.length = ps.length := by rw [← hlp]; exact ordP_len _ _
    have hQ' : ∀ p ∈ lp,QOk S (KnI K) p := fun p hp => hQ p (ordP_mem.1 (by rw [hlp]; exact hp))
    have hX : ori T.back X = lp.flatMap fun p => ori T.back (ptT S p) := by rw [← hlp,← ori_parts,htx,hpT]
    have hby : ∀ p ∈ lp,∀ x ∈ ori T.back (ptT S p),x < 256 := fun p hp x hx => by
      obtain ⟨q,hq,hid⟩ := (hQ' p hp).1
      have := (ok.kn q hq).pos
      exact hw.byt _ p.id (Nat.le_refl _) (by rw [← hid]; exact this.2) x (memRep ((ori_mem _).1 hx))
    refine VC_loop Nat (fun i => [(0,.ptr 3000 bt 0),(4,.v (.int .i64 (runE T.M j ((lp.take i).flatMap fun p => ori T.back (ptT S p)) : Nat))),(11,.v (.int .i64 ((min (runH T.M T.H j ((lp.take i).flatMap fun p => ori T.back (ptT S p))) BY : Nat) : Int))),(76,.v (.slice a8 ps.length c8)),(77,.v (.int .i64 ps.length)),(78,.v (.int .i64 i))])
      (fun i => [.box 3000 bt (TabC bs y ha T.H.length hc T.back mb) ty_transfer_Table,.mapE 3001 mb (.int .i64) (knm K),frE 3002 F,packE 77 f8 (fS bs S),.own 880 a8 ps.length c8 ty_parts_Part 3 (pts lp)]) (fun i => i ≤ lp.length) (fun i => lp.length - i) 0 (Nat.zero_le _) (by (repeat ((conv => whnf); refine And.intro (by first | exact rfl | exact vint_eq (by omega) | exact vint_eq (by (dsimp only; omega)) | exact vsl_eq (by omega) | exact vsl_eq (by first | (dsimp only; omega) | (simp; done) | (simp; omega))) ?_)); exact trivial) (Ref.takes [3000,3001,3002,77,880] rfl (.keep rfl (fun _ h => h) (.keep rfl (fun _ h => h) (.keep rfl (fun _ h => h) (.keep rfl (fun _ h => h) (.own rfl (by rw [← hlp]; unfold ordP; first | rw [if_pos ‹T.back = true›] | rw [if_neg (by rw [‹T.back = false›]; decide)]) (.nil _))))))) ?_
    intro i hi
    by_cases hlt : i < lp.length
    case neg =>
      obtain rfl : i = lp.length := by omega
      rw [List.take_length,← hX]
      have hBY : BY = 1152921504606846977 := rfl
      have hLM : LM = 1152921504606846976 := rfl
      by_cases hle : runH T.M T.H j (ori T.back X) ≤ LM
      · rw [if_pos hle,Nat.min_eq_left (by omega)]
        generalize runH T.M T.H j (ori T.back X) = R1 at *
        generalize runE T.M j (ori T.back X) = R2 at *
        (repeat' ((conv => whnf); first | (refine bcase_prop (fun h => ?_) (fun h => ?_) <;> try (exfalso; omega)) | (refine bcase_nprop (fun h => ?_) (fun h => ?_) <;> try (exfalso; omega)) | (refine bcase_intro (fun h => ?_) (fun h => ?_) <;> (try simp only [Bool.not_eq_true',Bool.not_eq_false',decide_eq_true_eq,decide_eq_false_iff_not,Bool.not_eq_true,Bool.not_eq_false,Decidable.not_not] at h)) | refine And.intro (by first | omega | exact rfl | assumption | exact ⟨rfl,rfl,rfl,rfl,rfl⟩ | exact ⟨rfl,rfl,rfl,rfl⟩ | exact ⟨rfl,by omega⟩ | exact oneAll_of rfl | exact ⟨rfl,oneAll_of rfl⟩ | exact Ref.refl _ | exact Thin.ref (.skip (Thin.refl _)) | exact Thin.ref (.skip (.skip (Thin.refl _))) | exact ⟨rfl,Nat.le_of_ble_eq_true rfl⟩ | ((try unfold maxLen); (try simp only [List.length_nil,List.length_cons,List.length_append]); omega) | (refine ⟨rfl,?_⟩; (try simp only [List.length_nil,List.length_cons,List.length_append]); omega)) ?_ | intro _)); (all_goals (conv => whnf))
        all_goals first | (exfalso; omega) | skip
        exact ⟨endX ⟨y,ha,hc,mb,K,F,ok⟩ (Ref.takes [3000,3001,3002,77] rfl (Thin.refl _)) rfl⟩
      · rw [if_neg hle,Nat.min_eq_right (by omega),hBY]
        generalize runE T.M j (ori T.back X) = R2 at *
        (repeat' ((conv => whnf); first | (refine bcase_prop (fun h => ?_) (fun h => ?_) <;> try (exfalso; omega)) | (refine bcase_nprop (fun h => ?_) (fun h => ?_) <;> try (exfalso; omega)) | (refine bcase_intro (fun h => ?_) (fun h => ?_) <;> (try simp only [Bool.not_eq_true',Bool.not_eq_false',decide_eq_true_eq,decide_eq_false_iff_not,Bool.not_eq_true,Bool.not_eq_false,Decidable.not_not] at h)) | refine And.intro (by first | omega | exact rfl | assumption | exact ⟨rfl,rfl,rfl,rfl,rfl⟩ | exact ⟨rfl,rfl,rfl,rfl⟩ | exact ⟨rfl,by omega⟩ | exact oneAll_of rfl | exact ⟨rfl,oneAll_of rfl⟩ | exact Ref.refl _ | exact Thin.ref (.skip (Thin.refl _)) | exact Thin.ref (.skip (.skip (Thin.refl _))) | exact ⟨rfl,Nat.le_of_ble_eq_true rfl⟩ | ((try unfold maxLen); (try simp only [List.length_nil,List.length_cons,List.length_append]); omega) | (refine ⟨rfl,?_⟩; (try simp only [List.length_nil,List.length_cons,List.length_append]); omega)) ?_ | intro _)); (all_goals (conv => whnf))
        all_goals first | (exfalso; omega) | skip
        exact ⟨endX ⟨y,ha,hc,mb,K,F,ok⟩ (Ref.takes [3000,3001,3002,77] rfl (Thin.refl _)) rfl⟩
    obtain ⟨p,hp⟩ : ∃ p,lp[i]? = some p := ⟨_,List.getElem?_eq_getElem hlt⟩
    have hpm : p ∈ lp := List.mem_of_getElem? hp
    obtain ⟨⟨k,hk,hkid⟩,hpt⟩ := hQ' p hpm
    have hrow := cel_at (f := ptC) (k := 3) (fun _ => rfl) lp hp
    have hnx : (lp.take (i + 1)).flatMap (fun p => ori T.back (ptT S p)) = (lp.take i).flatMap (fun p => ori T.back (ptT S p)) ++ ori T.back (ptT S p) := by
      rw [List.take_add_one,hp]; simp
    have hTb : ∀ x ∈ (lp.take i).flatMap (fun p => ori T.back (ptT S p)),x < 256 := fun x hx => by
      obtain ⟨z,hz,hx⟩ := List.mem_flatMap.1 hx
      exact hby z (List.mem_of_mem_take hz) x hx
    have hpb := hby p hpm
    generalize (lp.take i).flatMap (fun p => ori T.back (ptT S p)) = Ti at *
    have hok := ok.kn k hk
    have na := nO (by omega)
    have q0 : ((i : Nat) : Int).toNat = i := by omega
    have hSt := runE_lt hT.m hTb hjl
    have hBY : BY = 1152921504606846977 := rfl
    have hm := hT.m.most
    have hpos := hT.m.pos
    by_cases h1 : p.t = 1
    · obtain ⟨k',hk'⟩ := kfd_mem ⟨k,hk,hkid⟩
      have hok := ok.kn k' (kfd_some hk').1
      have hid' := (kfd_some hk').2
      have hw1 := hok.wh
      rw [hid'] at hw1
      obtain ⟨s1,s2⟩ := run_step hT.m hjl hTb hw1
      have hpT1 : ptT S p = (tm S.E p.id).txt := by unfold ptT; rw [h1,rep_one]
      rw [← hpT1,← hnx] at s1 s2
      have l1 : k'.wh.e.en.length = T.M.nx.length := by rw [hok.wh]; exact (effOf_len _ _ _).1
      have l2 : k'.wh.e.hi.length = T.M.nx.length := by rw [hok.wh]; exact (effOf_len _ _ _).2
      have eo : EOk T.M.nx.length k'.wh.e := by rw [hok.wh]; exact Tb.eff_ok hT.m (hw.byt _ _ (Nat.le_refl _) hok.pos.2)
      have ee := eo.en _ hSt
      have eh := eo.hi _ hSt
      have c7 := fun (w' : World) h1 h2 => calls_run (w := w') (ea := k'.wh.ea) (ha := k'.wh.ha) k'.wh.ec k'.wh.hc k'.wh.e.en k'.wh.e.hi h1 h2 (runE T.M j Ti) (by omega) (by omega) (by omega) ((min (runH T.M T.H j Ti) BY : Nat) : Int) (by omega) eh
      rw [s1,s2] at c7
      have qk := keyOk_id p.id
      have h1' : (p.t : Int) = 1 := by omega
      (repeat' ((conv => whnf); first | rw [q0] | rw [h1'] | refine ⟨ptC p,rfl,Rd.own (key := 880) rfl (Nat.succ_pos _) hrow,?_⟩ | refine lk_kfd hk' ?_ | (refine CallK_pure (.v _) (fun w' hR => c7 w' (hok.fz.in_ (key := 3002) hR rfl).1 (hok.fz.in_ (key := 3002) hR rfl).2) ?_) | (refine QCall_pure (.v _) (fun w' hR => c7 w' (hok.fz.in_ (key := 3002) hR rfl).1 (hok.fz.in_ (key := 3002) hR rfl).2) ?_) | refine ⟨.mp 3001 _,⟨rfl,rfl⟩,?_⟩ | refine ⟨_,⟨rfl,trivial⟩,?_⟩ | refine stop_and ?_ ?_ | (refine bcase_prop (fun h => ?_) (fun h => ?_) <;> try (exfalso; omega)) | (refine bcase_nprop (fun h => ?_) (fun h => ?_) <;> try (exfalso; omega)) | (refine bcase_intro (fun h => ?_) (fun h => ?_) <;> (try simp only [Bool.not_eq_true',Bool.not_eq_false',decide_eq_true_eq,decide_eq_false_iff_not,Bool.not_eq_true,Bool.not_eq_false,Decidable.not_not] at h)) | refine And.intro (by first | omega | exact rfl | assumption | exact ⟨rfl,rfl,rfl,rfl,rfl⟩ | exact ⟨rfl,rfl,rfl,rfl⟩ | exact ⟨rfl,by omega⟩ | exact oneAll_of rfl | exact ⟨rfl,oneAll_of rfl⟩ | exact Ref.refl _ | exact Thin.ref (.skip (Thin.refl _)) | exact Thin.ref (.skip (.skip (Thin.refl _))) | exact na | exact ⟨rfl,rfl,qk⟩ | exact ⟨rfl,Nat.le_of_ble_eq_true rfl⟩ | ((try unfold maxLen); (try simp only [List.length_nil,List.length_cons,List.length_append]); omega) | (refine ⟨rfl,?_⟩; (try simp only [List.length_nil,List.length_cons,List.length_append]); omega)) ?_ | intro _)); (all_goals (conv => whnf))
      all_goals first | (exfalso; omega) | skip
      all_goals exact loop_next (i + 1) (by omega) (by omega) (by (repeat ((conv => whnf); refine And.intro (by first | exact rfl | exact vint_eq (by omega) | exact vint_eq (by (dsimp only; omega)) | exact vsl_eq (by omega) | exact vsl_eq (by first | (dsimp only; omega) | (simp; done) | (simp; omega))) ?_)); exact trivial) (Ref.takes [3000,3001,3002,77,880] rfl (Thin.refl _))
    · obtain ⟨t2,⟨ke,hke,hkeid⟩,k3,ka,kt⟩ := hpt.resolve_left h1
      obtain ⟨k',hk'⟩ := kfd_mem ⟨ke,hke,hkeid⟩
      have hok := ok.kn k' (kfd_some hk').1
      have hid' := (kfd_some hk').2
      have hpw := hok.pw
      rw [hid'] at hpw
      obtain ⟨pw1,pw2⟩ := hpw k3
      rw [ka] at pw2
      have qk := keyOk_id p.pw
      have h1' : ¬ (p.t : Int) = 1 := by omega
      have htc : p.t < 2 ^ k'.cs.length := by
        have h9 : ((p.t : Nat) : Int) < ((2 ^ k'.cs.length : Nat) : Int) := by push_cast; omega
        exact_mod_cast h9
      have hti := hw.tim2 hok.pos.1 hok.pos.2
      rw [hid'] at hti
      have hcl : k'.cs.length ≠ 0 := fun h => by rw [h] at htc; omega
      (repeat' ((conv => whnf); first | rw [q0] | refine ⟨ptC p,rfl,Rd.own (key := 880) rfl (Nat.succ_pos _) hrow,?_⟩ | refine lk_kfd hk' ?_ | refine ⟨.mp 3001 _,⟨rfl,rfl⟩,?_⟩ | refine ⟨_,⟨rfl,trivial⟩,?_⟩ | refine stop_and ?_ ?_ | (refine bcase_prop (fun h => ?_) (fun h => ?_) <;> try (exfalso; omega)) | (refine bcase_nprop (fun h => ?_) (fun h => ?_) <;> try (exfalso; omega)) | (refine bcase_intro (fun h => ?_) (fun h => ?_) <;> (try simp only [Bool.not_eq_true',Bool.not_eq_false',decide_eq_true_eq,decide_eq_false_iff_not,Bool.not_eq_true,Bool.not_eq_false,Decidable.not_not] at h)) | refine And.intro (by first | omega | exact rfl | assumption | exact ⟨rfl,rfl,rfl,rfl,rfl⟩ | exact ⟨rfl,rfl,rfl,rfl⟩ | exact ⟨rfl,by omega⟩ | exact oneAll_of rfl | exact ⟨rfl,oneAll_of rfl⟩ | exact Ref.refl _ | exact Thin.ref (.skip (Thin.refl _)) | exact Thin.ref (.skip (.skip (Thin.refl _))) | exact na | exact ⟨rfl,rfl,qk⟩ | exact ⟨rfl,Nat.le_of_ble_eq_true rfl⟩ | ((try unfold maxLen); (try simp only [List.length_nil,List.length_cons,List.length_append]); omega) | (refine ⟨rfl,?_⟩; (try simp only [List.length_nil,List.length_cons,List.length_append]); omega)) ?_ | intro _)); (all_goals (conv => whnf))
      all_goals first | (exfalso; omega) | skip
      rename_i b19
      obtain ⟨u,hu⟩ : ∃ u,ori T.back (tm S.E p.id).txt = u := ⟨_,rfl⟩
      have hub : ∀ x ∈ u,x < 256 := fun x hx => by
        rw [← hu] at hx
        have h8 := (ok.kn k hk).pos.2
        rw [hkid] at h8
        exact hw.byt _ p.id (Nat.le_refl _) h8 x ((ori_mem _).1 hx)
      have hpT2 : ori T.back (ptT S p) = rep p.t u := by unfold ptT; rw [ori_rep,hu]
      rw [hpT2] at hnx
      have sd : ∀ x : Nat,(x : Int) / ((2 ^ Int.toNat 1 : Nat) : Int) = ((x / 2 : Nat) : Int) := fun x => by
        rw [show (2 ^ Int.toNat 1 : Nat) = 2 from rfl]; omega
      have sb : 0 ≤ (1 : Int) ∧ (1 : Int) ≤ biK .i64 := by decide
      have sn : ∀ x : Nat,((x : Int).toNat &&& Int.toNat 1) = x % 2 := fun x => by
        rw [Int.toNat_natCast]; exact Nat.and_one_is_mod x
      have nk := nF hok.cfz (by rw [effC_len]; omega)
      refine VC_loop Nat (fun x => [(0,.ptr 3000 bt 0),(4,.v (.int .i64 (runE T.M j (Ti ++ rep (p.t % 2 ^ x) u) : Nat))),(11,.v (.int .i64 ((min (runH T.M T.H j (Ti ++ rep (p.t % 2 ^ x) u)) BY : Nat) : Int))),(20,.v (.slice k'.ca k'.cs.length k'.cc)),(21,.v (.int .i64 x)),(22,.v (.int .i64 ((p.t / 2 ^ x : Nat) : Int))),(76,.v (.slice a8 ps.length c8)),(77,.v (.int .i64 ps.length)),(78,.v (.int .i64 i))])
        (fun x => [.box 3000 bt (TabC bs y ha T.H.length hc T.back mb) ty_transfer_Table,.mapE 3001 mb (.int .i64) (knm K),frE 3002 F,packE 77 f8 (fS bs S),.own 880 a8 ps.length c8 ty_parts_Part 3 (pts lp)]) (fun x => x ≤ 64) (fun x => p.t / 2 ^ x) 0 (Nat.zero_le _) ?_ (Ref.takes [3000,3001,3002,77,880] rfl (Thin.refl _)) ?_
      · rw [Nat.pow_zero,Nat.mod_one,Nat.div_one,rep_zero,List.append_nil]
        (repeat ((conv => whnf); refine And.intro (by first | exact rfl | exact vint_eq (by omega) | exact vint_eq (by (dsimp only; omega)) | exact vsl_eq (by omega) | exact vsl_eq (by first | (dsimp only; omega) | (simp; done) | (simp; omega))) ?_)); exact trivial
      intro x hx
      have hTx : ∀ z ∈ Ti ++ rep (p.t % 2 ^ x) u,z < 256 := fun z hz => by
        rcases List.mem_append.1 hz with hz | hz
        · exact hTb z hz
        · exact hub z (memRep hz)
      have hSx := runE_lt hT.m hTx hjl
      have hql : p.t / 2 ^ x ≤ p.t := Nat.div_le_self _ _
      have b1 := bit_one (t := p.t) (i := x)
      have b0 := bit_zero (t := p.t) (i := x)
      have dz := div_zero (t := p.t) (i := x)
      have ds := div_step p.t x
      have hge : 0 < p.t / 2 ^ x → x < k'.cs.length ∧ x < 64 := fun h => by
        have h3 : 2 ^ x ≤ p.t := by
          rcases Nat.lt_or_ge p.t (2 ^ x) with h4 | h4
          · rw [Nat.div_eq_of_lt h4] at h; omega
          · exact h4
        refine ⟨(Nat.pow_lt_pow_iff_right (a := 2) (by decide)).1 (Nat.lt_of_le_of_lt h3 htc),?_⟩
        have : 2 ^ x < 2 ^ 64 := by omega
        exact (Nat.pow_lt_pow_iff_right (by decide)).1 this
      by_cases h0 : p.t / 2 ^ x = 0
      · have e2 := dz h0
        rw [Nat.mod_eq_of_lt e2,← hnx]
        generalize p.t / 2 ^ x = qq at *
        (repeat' ((conv => whnf); first | (refine bcase_prop (fun h => ?_) (fun h => ?_) <;> try (exfalso; omega)) | (refine bcase_nprop (fun h => ?_) (fun h => ?_) <;> try (exfalso; omega)) | (refine bcase_intro (fun h => ?_) (fun h => ?_) <;> (try simp only [Bool.not_eq_true',Bool.not_eq_false',decide_eq_true_eq,decide_eq_false_iff_not,Bool.not_eq_true,Bool.not_eq_false,Decidable.not_not] at h)) | refine And.intro (by first | omega | exact rfl | assumption | exact ⟨rfl,rfl,rfl,rfl,rfl⟩ | exact ⟨rfl,rfl,rfl,rfl⟩ | exact ⟨rfl,by omega⟩ | exact oneAll_of rfl | exact ⟨rfl,oneAll_of rfl⟩ | exact Ref.refl _ | exact Thin.ref (.skip (Thin.refl _)) | exact Thin.ref (.skip (.skip (Thin.refl _))) | exact ⟨rfl,Nat.le_of_ble_eq_true rfl⟩ | ((try unfold maxLen); (try simp only [List.length_nil,List.length_cons,List.length_append]); omega) | (refine ⟨rfl,?_⟩; (try simp only [List.length_nil,List.length_cons,List.length_append]); omega)) ?_ | intro _)); (all_goals (conv => whnf))
        all_goals first | (exfalso; omega) | skip
        all_goals exact loop_next (i + 1) (by omega) (by omega) (by (repeat ((conv => whnf); refine And.intro (by first | exact rfl | exact vint_eq (by omega) | exact vint_eq (by (dsimp only; omega)) | exact vsl_eq (by omega) | exact vsl_eq (by first | (dsimp only; omega) | (simp; done) | (simp; omega))) ?_)); exact trivial) (Ref.takes [3000,3001,3002,77,880] rfl (Thin.refl _))
      obtain ⟨x1,x2⟩ := hge (Nat.pos_of_ne_zero h0)
      have hdl : p.t / 2 ^ (x + 1) < p.t / 2 ^ x := by rw [← ds]; exact Nat.div_lt_self (Nat.pos_of_ne_zero h0) (by decide)
      have sd2 : ((p.t / 2 ^ x : Nat) : Int) / ((2 ^ Int.toNat 1 : Nat) : Int) = ((p.t / 2 ^ (x + 1) : Nat) : Int) := by rw [sd,ds]
      by_cases hbit : p.t / 2 ^ x % 2 = 1
      · obtain ⟨z,hz⟩ : ∃ z,k'.cs[x]? = some z := ⟨_,List.getElem?_eq_getElem x1⟩
        obtain ⟨z1,z2⟩ := pw2 x z hz
        obtain ⟨s1,s2⟩ := run_step hT.m hjl hTx z2
        rw [ori_rep,hu,List.append_assoc,← rep_add,← b1 hbit] at s1 s2
        have l1 : z.e.en.length = T.M.nx.length := by rw [z2]; exact (effOf_len _ _ _).1
        have l2 : z.e.hi.length = T.M.nx.length := by rw [z2]; exact (effOf_len _ _ _).2
        have eo : EOk T.M.nx.length z.e := by
          rw [z2]; exact Tb.eff_ok hT.m (fun c hc => by
            have h8 := (ok.kn k hk).pos.2
            rw [hkid] at h8
            exact hw.byt _ p.id (Nat.le_refl _) h8 c (memRep hc))
        have ee := eo.en _ hSx
        have eh := eo.hi _ hSx
        have c7 := fun (w' : World) h1 h2 => calls_run (w := w') (ea := z.ea) (ha := z.ha) z.ec z.hc z.e.en z.e.hi h1 h2 (runE T.M j (Ti ++ rep (p.t % 2 ^ x) u)) (by omega) (by omega) (by omega) ((min (runH T.M T.H j (Ti ++ rep (p.t % 2 ^ x) u)) BY : Nat) : Int) (by omega) eh
        rw [s1,s2] at c7
        have rdz := fun {L Lr : List Ent} (hm : pickE 3002 L = some (frE 3002 F,Lr)) => FIn.rdnP (w0 := w) (fp0 := fp1 ++ fp2) hm hok.cfz (k := x * 2) (vs := z.cells) (Nat.succ_pos _) (effC_at hz)
        have q1 : ((x : Nat) : Int).toNat = x := by omega
        generalize p.t / 2 ^ x = qq at *
        (repeat' ((conv => whnf); first | rw [q1] | rw [sn] | rw [sd2] | refine ⟨z.cells,rfl,rdz rfl,?_⟩ | (refine CallK_pure (.v _) (fun w' hR => c7 w' (z1.in_ (key := 3002) hR rfl).1 (z1.in_ (key := 3002) hR rfl).2) ?_) | refine ⟨_,⟨rfl,trivial⟩,?_⟩ | (refine bcase_prop (fun h => ?_) (fun h => ?_) <;> try (exfalso; omega)) | (refine bcase_nprop (fun h => ?_) (fun h => ?_) <;> try (exfalso; omega)) | (refine bcase_intro (fun h => ?_) (fun h => ?_) <;> (try simp only [Bool.not_eq_true',Bool.not_eq_false',decide_eq_true_eq,decide_eq_false_iff_not,Bool.not_eq_true,Bool.not_eq_false,Decidable.not_not] at h)) | refine And.intro (by first | omega | exact rfl | assumption | exact ⟨rfl,rfl,rfl,rfl,rfl⟩ | exact ⟨rfl,rfl,rfl,rfl⟩ | exact ⟨rfl,by omega⟩ | exact oneAll_of rfl | exact ⟨rfl,oneAll_of rfl⟩ | exact Ref.refl _ | exact Thin.ref (.skip (Thin.refl _)) | exact Thin.ref (.skip (.skip (Thin.refl _))) | exact sb | exact nk | exact ⟨rfl,Nat.le_of_ble_eq_true rfl⟩ | ((try unfold maxLen); (try simp only [List.length_nil,List.length_cons,List.length_append]); omega) | (refine ⟨rfl,?_⟩; (try simp only [List.length_nil,List.length_cons,List.length_append]); omega)) ?_ | intro _)); (all_goals (conv => whnf))
        all_goals first | (exfalso; omega) | skip
        all_goals exact loop_next (x + 1) (by omega) hdl (by (repeat ((conv => whnf); refine And.intro (by first | exact rfl | exact vint_eq (by omega) | exact vint_eq (by (dsimp only; omega)) | exact vsl_eq (by omega) | exact vsl_eq (by first | (dsimp only; omega) | (simp; done) | (simp; omega))) ?_)); exact trivial) (Ref.takes [3000,3001,3002,77,880] rfl (Thin.refl _))
      · have e3 := b0 (by omega)
        generalize p.t / 2 ^ x = qq at *
        (repeat' ((conv => whnf); first | rw [sn] | rw [sd2] | refine ⟨_,⟨rfl,trivial⟩,?_⟩ | (refine bcase_prop (fun h => ?_) (fun h => ?_) <;> try (exfalso; omega)) | (refine bcase_nprop (fun h => ?_) (fun h => ?_) <;> try (exfalso; omega)) | (refine bcase_intro (fun h => ?_) (fun h => ?_) <;> (try simp only [Bool.not_eq_true',Bool.not_eq_false',decide_eq_true_eq,decide_eq_false_iff_not,Bool.not_eq_true,Bool.not_eq_false,Decidable.not_not] at h)) | refine And.intro (by first | omega | exact rfl | assumption | exact ⟨rfl,rfl,rfl,rfl,rfl⟩ | exact ⟨rfl,rfl,rfl,rfl⟩ | exact ⟨rfl,by omega⟩ | exact oneAll_of rfl | exact ⟨rfl,oneAll_of rfl⟩ | exact Ref.refl _ | exact Thin.ref (.skip (Thin.refl _)) | exact Thin.ref (.skip (.skip (Thin.refl _))) | exact sb | exact nk | exact ⟨rfl,Nat.le_of_ble_eq_true rfl⟩ | ((try unfold maxLen); (try simp only [List.length_nil,List.length_cons,List.length_append]); omega) | (refine ⟨rfl,?_⟩; (try simp only [List.length_nil,List.length_cons,List.length_append]); omega)) ?_ | intro _)); (all_goals (conv => whnf))
        all_goals first | (exfalso; omega) | skip
        all_goals (refine loop_next (x + 1) (by omega) hdl ?_ (Ref.takes [3000,3001,3002,77,880] rfl (Thin.refl _)); rw [e3]; (repeat ((conv => whnf); refine And.intro (by first | exact rfl | exact vint_eq (by omega) | exact vint_eq (by (dsimp only; omega)) | exact vsl_eq (by omega) | exact vsl_eq (by first | (dsimp only; omega) | (simp; done) | (simp; omega))) ?_)); exact trivial)
end Go.Proofs.Ytoocnmfodhnpbaa
/- What a table tells: the program. -/
namespace Go.Proofs.Ytoocnmfodhnpbaa
open Go.EG
attribute [local irreducible] CallK QCall Go.Calls
set_option linter.unusedSimpArgs false
set_option linter.unusedVariables false
set_option maxRecDepth 20000
set_option maxHeartbeats 4000000
def TC2 (f : Nat) (args : Array Value) (bt bs : Nat) (T : Tb) (E : List Entr) (r : Value) : Prop :=
  ∀ (key : Nat) (fp : List Nat) (w : World),R w fp [packE key fp (fX bt bs T E)] w → Calls Try.prog f args w fun e w' => ∃ v L1,e = .returned v ∧ R w fp L1 w' ∧ v = r ∧ L1 = [packE key fp (fX bt bs T E)]
theorem endT2 {key bt bs : Nat} {T : Tb} {E : List Entr} {r v : Value} {w0 : World} {fp0 fp : List Nat} {L : List Ent} (x : TG T E) (hfp : fps (fX bt bs T E x) = fp) (h : Ref w0 fp0 L (fX bt bs T E x)) (hv : v = r) : ∃ L1,Ref w0 fp0 L L1 ∧ v = r ∧ L1 = [packE key fp (fX bt bs T E)] := by
  subst hfp
  exact ⟨_,h.trans (Ref.pack (key := key) x (Thin.refl _)),hv,rfl⟩
theorem calls_TStore2 (bt bs : Nat) (T : Tb) (E : List Entr) : TC2 fn_P_transfer_Table_Store #[pS bt] bt bs T E (pS bs) := by
  intro key fp w hR
  refine pack_call [.ptr 3000 bt 0] ok_P_transfer_Table_Store (by simp) hR ?_
  rintro ⟨y,ha,hc,mb,K,F,ok⟩ hfp hR'
  have hfp2 := hfp
  rw [fX_eq] at hfp2 ⊢
  (repeat' ((conv => whnf); first | refine ⟨_,⟨rfl,trivial⟩,?_⟩ | (refine bcase_prop (fun h => ?_) (fun h => ?_) <;> try (exfalso; omega)) | (refine bcase_nprop (fun h => ?_) (fun h => ?_) <;> try (exfalso; omega)) | (refine bcase_intro (fun h => ?_) (fun h => ?_) <;> (try simp only [Bool.not_eq_true',Bool.not_eq_false',decide_eq_true_eq,decide_eq_false_iff_not,Bool.not_eq_true,Bool.not_eq_false,Decidable.not_not] at h)) | refine And.intro (by first | omega | exact rfl | assumption | exact ⟨rfl,rfl,rfl,rfl,rfl⟩ | exact ⟨rfl,rfl,rfl,rfl⟩ | exact ⟨rfl,by omega⟩ | exact oneAll_of rfl | exact ⟨rfl,oneAll_of rfl⟩ | exact Ref.refl _ | exact Thin.ref (.skip (Thin.refl _)) | exact Thin.ref (.skip (.skip (Thin.refl _))) | exact ⟨rfl,Nat.le_of_ble_eq_true rfl⟩ | ((try unfold maxLen); (try simp only [List.length_nil,List.length_cons,List.length_append]); omega) | (refine ⟨rfl,?_⟩; (try simp only [List.length_nil,List.length_cons,List.length_append]); omega)) ?_ | intro _)); (all_goals (conv => whnf))
  all_goals exact ⟨endT2 ⟨y,ha,hc,mb,K,F,ok⟩ hfp (Ref.takes [3000,3001,3002] rfl (Thin.refl _)) rfl⟩
def rulQ (key bt bs : Nat) (T : Tb) (E : List Entr) (v : Value) (L1 : List Ent) : Prop :=
  ∃ m : Nat,v = .int .i64 m ∧ m ≤ E.length ∧ (∀ L : List Int,(∀ x,T.D x → x ∈ L) → m ≤ L.length) ∧ ∃ fp',L1 = [packE key fp' (fX bt bs T E)]
theorem nodup_sub : ∀ {l L : List Int},l.Nodup → (∀ x ∈ l,x ∈ L) → l.length ≤ L.length
  | [],L,_,_ => Nat.zero_le _
  | x :: l,L,hn,h => by
    obtain ⟨h1,h2⟩ := List.nodup_cons.1 hn
    have hx := h x List.mem_cons_self
    have ih := nodup_sub (l := l) (L := L.erase x) h2 (fun y hy => by
      have hne : y ≠ x := fun he => h1 (he ▸ hy)
      exact (List.mem_erase_of_ne hne).2 (h y (List.mem_cons_of_mem _ hy)))
    rw [List.length_erase_of_mem hx] at ih
    have : 0 < L.length := List.length_pos_of_mem hx
    rw [List.length_cons]; omega
theorem calls_TRules (bt bs : Nat) (T : Tb) (E : List Entr) (key : Nat) {fp : List Nat} {w : World} (hR : R w fp [packE key fp (fX bt bs T E)] w) :
    Calls Try.prog fn_P_transfer_Table_Rules #[pS bt] w fun e w' => ∃ v L1,e = .returned v ∧ R w fp L1 w' ∧ rulQ key bt bs T E v L1 := by
  refine pack_call [.ptr 3000 bt 0] ok_P_transfer_Table_Rules (by simp) hR ?_
  rintro ⟨y,ha,hc,mb,K,F,ok⟩ hfp hR'
  rw [fX_eq]
  (repeat' ((conv => whnf); first | refine ⟨.mp 3001 _,⟨rfl,rfl⟩,?_⟩ | refine ⟨_,⟨rfl,trivial⟩,?_⟩ | (refine bcase_prop (fun h => ?_) (fun h => ?_) <;> try (exfalso; omega)) | (refine bcase_nprop (fun h => ?_) (fun h => ?_) <;> try (exfalso; omega)) | (refine bcase_intro (fun h => ?_) (fun h => ?_) <;> (try simp only [Bool.not_eq_true',Bool.not_eq_false',decide_eq_true_eq,decide_eq_false_iff_not,Bool.not_eq_true,Bool.not_eq_false,Decidable.not_not] at h)) | refine And.intro (by first | omega | exact rfl | assumption | exact ⟨rfl,rfl,rfl,rfl,rfl⟩ | exact ⟨rfl,rfl,rfl,rfl⟩ | exact ⟨rfl,by omega⟩ | exact oneAll_of rfl | exact ⟨rfl,oneAll_of rfl⟩ | exact Ref.refl _ | exact Thin.ref (.skip (Thin.refl _)) | exact Thin.ref (.skip (.skip (Thin.refl _))) | exact ⟨rfl,Nat.le_of_ble_eq_true rfl⟩ | ((try unfold maxLen); (try simp only [List.length_nil,List.length_cons,List.length_append]); omega) | (refine ⟨rfl,?_⟩; (try simp only [List.length_nil,List.length_cons,List.length_append]); omega)) ?_ | intro _)); (all_goals (conv => whnf))
  all_goals first | (exfalso; omega) | skip
  refine ⟨⟨_,Ref.pack (key := key) (f := fX bt bs T E) ⟨y,ha,hc,mb,K,F,ok⟩ (Thin.refl _),K.length,by rw [knm_len],ok.len,fun L hL => ?_,_,rfl⟩⟩
  have := nodup_sub ok.nd (L := L) (fun x hx => by
    obtain ⟨k,hk,rfl⟩ := List.mem_map.1 hx
    exact hL _ (ok.kn k hk).D)
  rwa [List.length_map] at this
end Go.Proofs.Ytoocnmfodhnpbaa
/- Runs over plain texts; machines that are alike: the program. -/
namespace Go.Proofs.Ytoocnmfodhnpbaa
open Go.EG
attribute [local irreducible] CallK QCall Go.Calls
set_option linter.unusedSimpArgs false
set_option linter.unusedVariables false
set_option maxRecDepth 20000
set_option maxHeartbeats 4000000
end Go.Proofs.Ytoocnmfodhnpbaa
