/- The statements of chapter 20 about tables: what the program yields is true. Condition: the listed table's variable holds it. -/
import Derived.Test.YticiljgbjdcmlaaDoorK20
namespace Go.Proofs.YticiljgbjdcmlaaDoor
open Go.EG
attribute [local irreducible] CallK QCall Go.Calls
set_option linter.unusedSimpArgs false
set_option linter.unusedVariables false
set_option maxRecDepth 20000
set_option maxHeartbeats 2000000

theorem new100 (key : Nat) (w : World) : Calls Tryd.prog fn_intern_New #[.int .i64 100] w fun e w' => ∃ v L1, e = .returned v ∧ R w [] L1 w' ∧ newS key ⟨100, []⟩ v L1 := by
  have := calls_New 100 key w
  rwa [show clipS 100 = 100 from rfl] at this
theorem new200 (key : Nat) (w : World) : Calls Tryd.prog fn_intern_New #[.int .i64 200] w fun e w' => ∃ v L1, e = .returned v ∧ R w [] L1 w' ∧ newS key ⟨200, []⟩ v L1 := by
  have := calls_New 200 key w
  rwa [show clipS 200 = 200 from rfl] at this

theorem addr_same (x : Addr) : decide (x = x) = true := decide_eq_true rfl
structure RunG where
  i : Nat
  fp1 : List Nat
  fp2 : List Nat
theorem law_KeysRules (w : World) (hG : Tab w) (g : List Rul) (hg : GIn g) (a : Option Addr) (c : Nat) (hin : In w [] a (rulsC g)) (d : Bool) :
    Calls Tryd.prog fn_evergreenlaw20_KeysRules #[.slice a g.length c, .bool d] w fun e w' => e = .returned (.bool true) ∧ Ext w w' := by
  refine pure_call [.v (.slice a g.length c), .v (.bool d)] w ok_evergreenlaw20_KeysRules (by simp) ?_
  have c0 := fun w h => calls_good g hg a c w h
  cases hgd : goodB g
  · rw [hgd] at c0
    (repeat' ((conv => whnf); first | refine CallK_pure (.v _) (fun w hR => c0 w (hin.cast hR (by simp))) ?_ | (refine bcase_prop (fun h => ?_) (fun h => ?_) <;> try (exfalso; omega)) | (refine bcase_nprop (fun h => ?_) (fun h => ?_) <;> try (exfalso; omega)) | (refine bcase_intro (fun h => ?_) (fun h => ?_) <;> (try simp only [Bool.not_eq_true', Bool.not_eq_false', decide_eq_true_eq, decide_eq_false_iff_not, Bool.not_eq_true, Bool.not_eq_false, Decidable.not_not] at h)) | refine And.intro (by first | omega | exact rfl | assumption | exact ⟨rfl, rfl, rfl, rfl, rfl⟩ | exact ⟨rfl, rfl, rfl, rfl⟩ | exact ⟨rfl, by omega⟩ | exact oneAll_of rfl | exact ⟨rfl, oneAll_of rfl⟩ | exact Ref.refl _ | exact Thin.ref (.skip (Thin.refl _)) | exact Thin.ref (.skip (.skip (Thin.refl _))) | exact ⟨rfl, Nat.le_of_ble_eq_true rfl⟩ | ((try unfold maxLen); (try simp only [List.length_nil, List.length_cons, List.length_append]); omega) | (refine ⟨rfl, ?_⟩; (try simp only [List.length_nil, List.length_cons, List.length_append]); omega)) ?_ | intro _)); (all_goals (conv => whnf))
    exact ⟨rfl⟩
  · rw [hgd] at c0
    obtain ⟨hgr, hgl, h60⟩ := good_spec hgd hg
    have w0 := WF.new 100 (by decide)
    obtain ⟨S, to, himp, hw, hgrow, hrel, hlen⟩ := good_imp hgd hg w0 (by show 0 + g.length ≤ 100; omega)
    have c1 := new100 77
    have c2 := fun bs => calls_newT bs [] 78
    have c3 := fun b key fp w hR h => calls_Import b ⟨100, []⟩ w0 g hgr S to himp (by omega) a c key fp w hR h
    have c4 := fun b key fp w hR => calls_table b S hw key fp w hR
    have c5 := fun bt bs {key fp w} hR => calls_tStore bt bs S.E (key := key) (fp := fp) (w := w) hR
    have c6 := fun w h => calls_awake w h
    have c7 := fun a c w h => calls_r20Keys S hw a c w h
    (repeat' ((conv => whnf); first | refine CallK_pure (.v _) (fun w hR => c0 w (hin.cast hR (by simp))) ?_ | (refine CallK_new (fun w hR => c1 w) ?_; rintro _ _ ⟨bn, fpn, rfl, rfl⟩; refine ⟨.v _, rfl, ?_⟩) | (refine CallK_new (fun w hR => c2 _ w) ?_; rintro _ _ ⟨bt, fpn, rfl, rfl⟩; refine ⟨.v _, rfl, ?_⟩) | (refine CallK_post ?_; refine CallK_pack (key := 77) rfl (fun w hR h0 => c3 _ _ _ _ h0 (hin.cast1 hR)) ?_; rintro _ _ ⟨rfl, fp', rfl⟩; refine ⟨.v _, rfl, _, Thin.ref (.keep rfl (fun _ h => h) (packT_mono (k' := 78) (E := []) (E' := S.E) (.nil _) : Thin _ [packE 78 _ (fT _ _ S.E)])), ?_⟩) | (refine CallK_pack (key := 77) rfl (fun w hR h0 => c4 _ _ _ _ h0) ?_; rintro _ _ ⟨a9, c9, fp', rfl, rfl⟩; refine ⟨.v _, rfl, ?_⟩) | (refine CallK_pack (key := 78) rfl (fun w hR h0 => c5 _ _ h0) ?_; rintro _ _ ⟨rfl, fp', rfl⟩; refine ⟨.v _, rfl, ?_⟩) | refine ⟨_, _, ⟨rfl, rfl, rfl⟩, ?_⟩ | rw [addr_same] | refine CallK_pure (.v _) (fun w hR => c6 w (hG.cast hR (by simp))) ?_ | refine CallK_slice 700 (fun w hR => c7 _ _ w (In.ownR (key := 600) hR rfl)) ?_ | (refine bcase_prop (fun h => ?_) (fun h => ?_) <;> try (exfalso; omega)) | (refine bcase_nprop (fun h => ?_) (fun h => ?_) <;> try (exfalso; omega)) | (refine bcase_intro (fun h => ?_) (fun h => ?_) <;> (try simp only [Bool.not_eq_true', Bool.not_eq_false', decide_eq_true_eq, decide_eq_false_iff_not, Bool.not_eq_true, Bool.not_eq_false, Decidable.not_not] at h)) | refine And.intro (by first | omega | exact rfl | assumption | exact ⟨rfl, rfl, rfl, rfl, rfl⟩ | exact ⟨rfl, rfl, rfl, rfl⟩ | exact ⟨rfl, by omega⟩ | exact oneAll_of rfl | exact ⟨rfl, oneAll_of rfl⟩ | exact Ref.refl _ | exact Thin.ref (.skip (Thin.refl _)) | exact Thin.ref (.skip (.skip (Thin.refl _))) | exact ⟨rfl, Nat.le_of_ble_eq_true rfl⟩ | ((try unfold maxLen); (try simp only [List.length_nil, List.length_cons, List.length_append]); omega) | (refine ⟨rfl, ?_⟩; (try simp only [List.length_nil, List.length_cons, List.length_append]); omega)) ?_ | intro _)); (all_goals (conv => whnf))
    rename_i a7 c7'
    refine VC_loop RunG (fun x => [(1, .v (.bool d)), (5, .v (pS bn)), (6, .v (pS bt)), (9, .v (.slice a9 (S.E.length + 1) c9)), (11, .sl 700 a7 (S.E.length + 1) c7'), (12, .v (.int .i64 x.i))])
      (fun x => [packE 78 x.fp1 (fT bt bn S.E), packE 77 x.fp2 (fS bn S), .own 700 a7 (S.E.length + 1) c7' ty_evergreenref20_Key 2 (kvsC (kvL S.E (S.E.length + 1)))])
      (fun x => 1 ≤ x.i ∧ x.i ≤ S.E.length + 1) (fun x => S.E.length + 1 - x.i) ⟨1, _, _⟩ ⟨Nat.le_refl _, by simp⟩ (by (repeat ((conv => whnf); refine And.intro (by first | exact rfl | exact vint_eq (by omega) | exact vint_eq (by (dsimp only; omega)) | exact vsl_eq (by omega) | exact vsl_eq (by first | (dsimp only; omega) | (simp; done) | (simp; omega))) ?_)); exact trivial) ((Thin.ref (.keep rfl (fun _ h => h) (.keep rfl (fun _ h => h) (.keep rfl (fun _ h => h) (.nil _)))) : Ref _ _ _ [.own 700 a7 (S.E.length + 1) c7' ty_evergreenref20_Key 2 (kvsC (kvL S.E (S.E.length + 1))), packE 78 _ (fT bt bn S.E), packE 77 _ (fS bn S)]).trans (Ref.perm (.trans (.swap _ _ _) (.cons _ (.swap _ _ _))))) ?_
    rintro ⟨i, fp1, fp2⟩ ⟨h1, h2⟩
    dsimp only at h1 h2 ⊢
    by_cases hlt : i ≤ S.E.length
    case neg =>
      (repeat' ((conv => whnf); first | (refine bcase_prop (fun h => ?_) (fun h => ?_) <;> try (exfalso; omega)) | (refine bcase_nprop (fun h => ?_) (fun h => ?_) <;> try (exfalso; omega)) | (refine bcase_intro (fun h => ?_) (fun h => ?_) <;> (try simp only [Bool.not_eq_true', Bool.not_eq_false', decide_eq_true_eq, decide_eq_false_iff_not, Bool.not_eq_true, Bool.not_eq_false, Decidable.not_not] at h)) | refine And.intro (by first | omega | exact rfl | assumption | exact ⟨rfl, rfl, rfl, rfl, rfl⟩ | exact ⟨rfl, rfl, rfl, rfl⟩ | exact ⟨rfl, by omega⟩ | exact oneAll_of rfl | exact ⟨rfl, oneAll_of rfl⟩ | exact Ref.refl _ | exact Thin.ref (.skip (Thin.refl _)) | exact Thin.ref (.skip (.skip (Thin.refl _))) | exact ⟨rfl, Nat.le_of_ble_eq_true rfl⟩ | ((try unfold maxLen); (try simp only [List.length_nil, List.length_cons, List.length_append]); omega) | (refine ⟨rfl, ?_⟩; (try simp only [List.length_nil, List.length_cons, List.length_append]); omega)) ?_ | intro _)); (all_goals (conv => whnf))
      exact ⟨rfl⟩
    · have hnx : 1 ≤ i + 1 ∧ i + 1 ≤ S.E.length + 1 := by omega
      have hsm := hw.small
      cases d
      · have hrow := kvsC_at (g := kvL S.E (S.E.length + 1)) (i := i) (by rw [kvL_length]; omega)
        rw [kvL_at (by omega)] at hrow
        have c8 := fun bt bs => calls_is bt bs S hw i (by omega) (by omega)
        (repeat' ((conv => whnf); first | rw [Int.toNat_natCast] | refine ldRow hrow ?_ | (refine CallK_pack2 (key1 := 78) (key2 := 77) rfl rfl (fun w hR h0 => c8 _ _ _ _ _ _ _ h0 (hG.cast2 hR)) ?_; rintro _ _ ⟨rfl, fp1', fp2', rfl⟩; refine ⟨.v _, rfl, ?_⟩) | (refine bcase_prop (fun h => ?_) (fun h => ?_) <;> try (exfalso; omega)) | (refine bcase_nprop (fun h => ?_) (fun h => ?_) <;> try (exfalso; omega)) | (refine bcase_intro (fun h => ?_) (fun h => ?_) <;> (try simp only [Bool.not_eq_true', Bool.not_eq_false', decide_eq_true_eq, decide_eq_false_iff_not, Bool.not_eq_true, Bool.not_eq_false, Decidable.not_not] at h)) | refine And.intro (by first | omega | exact rfl | assumption | exact ⟨rfl, rfl, rfl, rfl, rfl⟩ | exact ⟨rfl, rfl, rfl, rfl⟩ | exact ⟨rfl, by omega⟩ | exact oneAll_of rfl | exact ⟨rfl, oneAll_of rfl⟩ | exact Ref.refl _ | exact Thin.ref (.skip (Thin.refl _)) | exact Thin.ref (.skip (.skip (Thin.refl _))) | exact ⟨rfl, Nat.le_of_ble_eq_true rfl⟩ | ((try unfold maxLen); (try simp only [List.length_nil, List.length_cons, List.length_append]); omega) | (refine ⟨rfl, ?_⟩; (try simp only [List.length_nil, List.length_cons, List.length_append]); omega)) ?_ | intro _)); (all_goals (conv => whnf))
        exact loop_next ⟨i + 1, fp1', fp2'⟩ hnx (by ((try dsimp only); omega)) (by (repeat ((conv => whnf); refine And.intro (by first | exact rfl | exact vint_eq (by omega) | exact vint_eq (by (dsimp only; omega)) | exact vsl_eq (by omega) | exact vsl_eq (by first | (dsimp only; omega) | (simp; done) | (simp; omega))) ?_)); exact trivial) (Thin.ref (by (repeat (first | exact Thin.nil _ | exact Thin.refl _ | refine Thin.keep rfl (fun _ h => h) ?_ | refine Thin.skip ?_))))
      · have hrow := kvsC_at (g := kvL S.E (S.E.length + 1)) (i := S.E.length + 1 - i) (by rw [kvL_length]; omega)
        rw [kvL_at (by omega)] at hrow
        have ei : (((S.E.length + 1 : Nat) : Int) - (i : Int)) = ((S.E.length + 1 - i : Nat) : Int) := by omega
        have c8 := fun bt bs => calls_is bt bs S hw (S.E.length + 1 - i : Nat) (by omega) (by omega)
        (repeat' ((conv => whnf); first | rw [ei] | rw [Int.toNat_natCast] | refine ldRow hrow ?_ | (refine CallK_pack2 (key1 := 78) (key2 := 77) rfl rfl (fun w hR h0 => c8 _ _ _ _ _ _ _ h0 (hG.cast2 hR)) ?_; rintro _ _ ⟨rfl, fp1', fp2', rfl⟩; refine ⟨.v _, rfl, ?_⟩) | (refine bcase_prop (fun h => ?_) (fun h => ?_) <;> try (exfalso; omega)) | (refine bcase_nprop (fun h => ?_) (fun h => ?_) <;> try (exfalso; omega)) | (refine bcase_intro (fun h => ?_) (fun h => ?_) <;> (try simp only [Bool.not_eq_true', Bool.not_eq_false', decide_eq_true_eq, decide_eq_false_iff_not, Bool.not_eq_true, Bool.not_eq_false, Decidable.not_not] at h)) | refine And.intro (by first | omega | exact rfl | assumption | exact ⟨rfl, rfl, rfl, rfl, rfl⟩ | exact ⟨rfl, rfl, rfl, rfl⟩ | exact ⟨rfl, by omega⟩ | exact oneAll_of rfl | exact ⟨rfl, oneAll_of rfl⟩ | exact Ref.refl _ | exact Thin.ref (.skip (Thin.refl _)) | exact Thin.ref (.skip (.skip (Thin.refl _))) | exact ⟨rfl, Nat.le_of_ble_eq_true rfl⟩ | ((try unfold maxLen); (try simp only [List.length_nil, List.length_cons, List.length_append]); omega) | (refine ⟨rfl, ?_⟩; (try simp only [List.length_nil, List.length_cons, List.length_append]); omega)) ?_ | intro _)); (all_goals (conv => whnf))
        exact loop_next ⟨i + 1, fp1', fp2'⟩ hnx (by ((try dsimp only); omega)) (by (repeat ((conv => whnf); refine And.intro (by first | exact rfl | exact vint_eq (by omega) | exact vint_eq (by (dsimp only; omega)) | exact vsl_eq (by omega) | exact vsl_eq (by first | (dsimp only; omega) | (simp; done) | (simp; omega))) ?_)); exact trivial) (Thin.ref (by (repeat (first | exact Thin.nil _ | exact Thin.refl _ | refine Thin.keep rfl (fun _ h => h) ?_ | refine Thin.skip ?_))))

/-! ### Errors -/

theorem calls_failsNil (id : Int) (w : World) : Calls Tryd.prog fn_evergreenlaw20_fails #[.pointer none, .int .i64 id, .int .i64 5] w fun e w' => e = .returned (.bool true) ∧ Ext w w' := by
  refine pure_call [.v (.pointer none), .v (.int .i64 id), .v (.int .i64 5)] w ok_evergreenlaw20_fails (by simp) ?_
  have c1 := calls_KeyNil id
  have c2 := calls_LevelNil id
  have c3 := calls_Is 5 5 (by decide)
  (repeat' ((conv => whnf); first | (first | refine CallK_pure (.v _) (fun w hR => c1 w) ?_ | refine QCall_pure (.v _) (fun w hR => c1 w) ?_) | (first | refine CallK_pure (.v _) (fun w hR => c2 w) ?_ | refine QCall_pure (.v _) (fun w hR => c2 w) ?_) | (first | refine CallK_pure (.v _) (fun w hR => c3 w) ?_ | refine QCall_pure (.v _) (fun w hR => c3 w) ?_) | (refine bcase_prop (fun h => ?_) (fun h => ?_) <;> try (exfalso; omega)) | (refine bcase_nprop (fun h => ?_) (fun h => ?_) <;> try (exfalso; omega)) | (refine bcase_intro (fun h => ?_) (fun h => ?_) <;> (try simp only [Bool.not_eq_true', Bool.not_eq_false', decide_eq_true_eq, decide_eq_false_iff_not, Bool.not_eq_true, Bool.not_eq_false, Decidable.not_not] at h)) | refine And.intro (by first | omega | exact rfl | assumption | exact ⟨rfl, rfl, rfl, rfl, rfl⟩ | exact ⟨rfl, rfl, rfl, rfl⟩ | exact ⟨rfl, by omega⟩ | exact oneAll_of rfl | exact ⟨rfl, oneAll_of rfl⟩ | exact Ref.refl _ | exact Thin.ref (.skip (Thin.refl _)) | exact Thin.ref (.skip (.skip (Thin.refl _))) | exact ⟨rfl, Nat.le_of_ble_eq_true rfl⟩ | ((try unfold maxLen); (try simp only [List.length_nil, List.length_cons, List.length_append]); omega) | (refine ⟨rfl, ?_⟩; (try simp only [List.length_nil, List.length_cons, List.length_append]); omega)) ?_ | intro _)); (all_goals (conv => whnf))
  all_goals exact ⟨rfl⟩
theorem calls_fails (bt bs : Nat) (S : Sto) (hw : WF S) (id : Int) (h : ¬ (1 ≤ id ∧ id ≤ S.E.length)) : TC fn_evergreenlaw20_fails #[pS bt, .int .i64 id, .int .i64 1] bt bs S (.bool true) := by
  intro k1 k2 fp1 fp2 w hR hG
  have hR : R w (fp1 ++ fp2) [packE 78 fp1 (fT bt bs S.E), packE 77 fp2 (fS bs S)] w := (Thin.packE (Thin.packE (.nil []))).ref w hR
  refine part_call [.v (pS bt), .v (.int .i64 id), .v (.int .i64 1)] ok_evergreenlaw20_fails (by simp) hR ?_
  have c1 := calls_Key bt bs S hw id
  have c2 := calls_Level bt bs S hw id
  have c3 := calls_Is 1 1 (by decide)
  unfold keyRes at c1
  unfold levRes at c2
  rw [if_neg h] at c1 c2
  (repeat' ((conv => whnf); first | (refine CallK_pack2 (key1 := 78) (key2 := 77) rfl rfl (fun w hR h0 => c1 _ _ _ _ _ h0 (hG.cast2 hR)) ?_; rintro _ _ ⟨rfl, fp1', fp2', rfl⟩; refine ⟨.v _, rfl, ?_⟩) | (refine CallK_pack2 (key1 := 78) (key2 := 77) rfl rfl (fun w hR h0 => c2 _ _ _ _ _ h0 (hG.cast2 hR)) ?_; rintro _ _ ⟨rfl, fp1', fp2', rfl⟩; refine ⟨.v _, rfl, ?_⟩) | (first | refine CallK_pure (.v _) (fun w hR => c3 w) ?_ | refine QCall_pure (.v _) (fun w hR => c3 w) ?_) | (refine bcase_prop (fun h => ?_) (fun h => ?_) <;> try (exfalso; omega)) | (refine bcase_nprop (fun h => ?_) (fun h => ?_) <;> try (exfalso; omega)) | (refine bcase_intro (fun h => ?_) (fun h => ?_) <;> (try simp only [Bool.not_eq_true', Bool.not_eq_false', decide_eq_true_eq, decide_eq_false_iff_not, Bool.not_eq_true, Bool.not_eq_false, Decidable.not_not] at h)) | refine And.intro (by first | omega | exact rfl | assumption | exact ⟨rfl, rfl, rfl, rfl, rfl⟩ | exact ⟨rfl, rfl, rfl, rfl⟩ | exact ⟨rfl, by omega⟩ | exact oneAll_of rfl | exact ⟨rfl, oneAll_of rfl⟩ | exact Ref.refl _ | exact Thin.ref (.skip (Thin.refl _)) | exact Thin.ref (.skip (.skip (Thin.refl _))) | exact ⟨rfl, Nat.le_of_ble_eq_true rfl⟩ | ((try unfold maxLen); (try simp only [List.length_nil, List.length_cons, List.length_append]); omega) | (refine ⟨rfl, ?_⟩; (try simp only [List.length_nil, List.length_cons, List.length_append]); omega)) ?_ | intro _)); (all_goals (conv => whnf))
  all_goals exact ⟨endQ (.keep rfl (fun _ h => h) (.keep rfl (fun _ h => h) (.nil _))) rfl⟩

theorem law_KeysErrors (w : World) (hG : Tab w) (g : List Rul) (hg : GIn g) (a : Option Addr) (c : Nat) (hin : In w [] a (rulsC g)) (raw : Int) :
    Calls Tryd.prog fn_evergreenlaw20_KeysErrors #[.slice a g.length c, .int .i64 raw] w fun e w' => e = .returned (.bool true) ∧ Ext w w' := by
  refine pure_call [.v (.slice a g.length c), .v (.int .i64 raw)] w ok_evergreenlaw20_KeysErrors (by simp) ?_
  have c0 := fun w h => calls_good g hg a c w h
  cases hgd : goodB g
  · rw [hgd] at c0
    (repeat' ((conv => whnf); first | refine CallK_pure (.v _) (fun w hR => c0 w (hin.cast hR (by simp))) ?_ | (refine bcase_prop (fun h => ?_) (fun h => ?_) <;> try (exfalso; omega)) | (refine bcase_nprop (fun h => ?_) (fun h => ?_) <;> try (exfalso; omega)) | (refine bcase_intro (fun h => ?_) (fun h => ?_) <;> (try simp only [Bool.not_eq_true', Bool.not_eq_false', decide_eq_true_eq, decide_eq_false_iff_not, Bool.not_eq_true, Bool.not_eq_false, Decidable.not_not] at h)) | refine And.intro (by first | omega | exact rfl | assumption | exact ⟨rfl, rfl, rfl, rfl, rfl⟩ | exact ⟨rfl, rfl, rfl, rfl⟩ | exact ⟨rfl, by omega⟩ | exact oneAll_of rfl | exact ⟨rfl, oneAll_of rfl⟩ | exact Ref.refl _ | exact Thin.ref (.skip (Thin.refl _)) | exact Thin.ref (.skip (.skip (Thin.refl _))) | exact ⟨rfl, Nat.le_of_ble_eq_true rfl⟩ | ((try unfold maxLen); (try simp only [List.length_nil, List.length_cons, List.length_append]); omega) | (refine ⟨rfl, ?_⟩; (try simp only [List.length_nil, List.length_cons, List.length_append]); omega)) ?_ | intro _)); (all_goals (conv => whnf))
    exact ⟨rfl⟩
  · rw [hgd] at c0
    obtain ⟨hgr, hgl, h60⟩ := good_spec hgd hg
    have w0 := WF.new 100 (by decide)
    obtain ⟨S, to, himp, hw, hgrow, hrel, hlen⟩ := good_imp hgd hg w0 (by show 0 + g.length ≤ 100; omega)
    have c1 := new100 77
    have c2 := fun bs => calls_newT bs [] 78
    have c3 := fun b key fp w hR h => calls_Import b ⟨100, []⟩ w0 g hgr S to himp (by omega) a c key fp w hR h
    have c4 := calls_newTnil
    have c5 := calls_tStoreNil
    have c6 := fun w h => calls_awake w h
    have c7 := calls_failsNil raw
    have c8 := fun bt bs => calls_fails bt bs S hw 0 (by omega)
    have c9 := fun bs => calls_sLen bs S
    have c10 := fun bt bs h => calls_fails bt bs S hw raw h
    (repeat' ((conv => whnf); first | refine CallK_pure (.v _) (fun w hR => c0 w (hin.cast hR (by simp))) ?_ | (refine CallK_new (fun w hR => c1 w) ?_; rintro _ _ ⟨bn, fpn, rfl, rfl⟩; refine ⟨.v _, rfl, ?_⟩) | (refine CallK_new (fun w hR => c2 _ w) ?_; rintro _ _ ⟨bt, fpn, rfl, rfl⟩; refine ⟨.v _, rfl, ?_⟩) | (refine CallK_post ?_; refine CallK_pack (key := 77) rfl (fun w hR h0 => c3 _ _ _ _ h0 (hin.cast1 hR)) ?_; rintro _ _ ⟨rfl, fp', rfl⟩; refine ⟨.v _, rfl, _, Thin.ref (.keep rfl (fun _ h => h) (packT_mono (k' := 78) (E := []) (E' := S.E) (.nil _) : Thin _ [packE 78 _ (fT _ _ S.E)])), ?_⟩) | refine CallK_pure (.v _) (fun w hR => c6 w (hG.cast hR (by simp))) ?_ | (first | refine CallK_pure (.v _) (fun w hR => c4 w) ?_ | refine QCall_pure (.v _) (fun w hR => c4 w) ?_) | (first | refine CallK_pure (.v _) (fun w hR => c5 w) ?_ | refine QCall_pure (.v _) (fun w hR => c5 w) ?_) | (first | refine CallK_pure (.v _) (fun w hR => c7 w) ?_ | refine QCall_pure (.v _) (fun w hR => c7 w) ?_) | (refine CallK_pack2 (key1 := 78) (key2 := 77) rfl rfl (fun w hR h0 => c8 _ _ _ _ _ _ _ h0 (hG.cast2 hR)) ?_; rintro _ _ ⟨rfl, fp1', fp2', rfl⟩; refine ⟨.v _, rfl, ?_⟩) | (refine CallK_pack (key := 77) rfl (fun w hR h0 => c9 _ _ _ _ h0) ?_; rintro _ _ ⟨rfl, fp', rfl⟩; refine ⟨.v _, rfl, ?_⟩) | (refine CallK_pack2 (key1 := 78) (key2 := 77) rfl rfl (fun w hR h0 => c10 _ _ (by omega) _ _ _ _ _ h0 (hG.cast2 hR)) ?_; rintro _ _ ⟨rfl, fp1', fp2', rfl⟩; refine ⟨.v _, rfl, ?_⟩) | (refine bcase_prop (fun h => ?_) (fun h => ?_) <;> try (exfalso; omega)) | (refine bcase_nprop (fun h => ?_) (fun h => ?_) <;> try (exfalso; omega)) | (refine bcase_intro (fun h => ?_) (fun h => ?_) <;> (try simp only [Bool.not_eq_true', Bool.not_eq_false', decide_eq_true_eq, decide_eq_false_iff_not, Bool.not_eq_true, Bool.not_eq_false, Decidable.not_not] at h)) | refine And.intro (by first | omega | exact rfl | assumption | exact ⟨rfl, rfl, rfl, rfl, rfl⟩ | exact ⟨rfl, rfl, rfl, rfl⟩ | exact ⟨rfl, by omega⟩ | exact oneAll_of rfl | exact ⟨rfl, oneAll_of rfl⟩ | exact Ref.refl _ | exact Thin.ref (.skip (Thin.refl _)) | exact Thin.ref (.skip (.skip (Thin.refl _))) | exact ⟨rfl, Nat.le_of_ble_eq_true rfl⟩ | ((try unfold maxLen); (try simp only [List.length_nil, List.length_cons, List.length_append]); omega) | (refine ⟨rfl, ?_⟩; (try simp only [List.length_nil, List.length_cons, List.length_append]); omega)) ?_ | intro _)); (all_goals (conv => whnf))
    all_goals exact ⟨rfl⟩

/-! ### Rise -/

/-- Keys below 2^61 fit some level within reach. -/
theorem after_found {low : Int} {x y : Nat} (h0 : 0 ≤ low) (hx : x < 2 ^ 61) (hy : y < 2 ^ 61) : afterF low x y ≠ 0 := by
  obtain ⟨low, rfl⟩ := Int.eq_ofNat_of_zero_le h0
  intro hz
  have hn := (after_ok low x y).zero hz
  have lev : ∀ c : Int, 0 ≤ c → c ≤ 122 → ∃ l : Int, (low : Int) < l ∧ l ≤ low + 246 ∧ evenF l = true ∧ numF l = c := fun c h1 h2 => by
    refine ⟨2 * ((low / 2 + 1 : Nat) + (c - ((low / 2 : Nat) % 123 : Nat)) % 123), by omega, by omega, even_t (by omega) (by omega), ?_⟩
    unfold numF; omega
  have nf : ∀ c : Int, 0 ≤ c → c ≤ 122 → fitC x y c = false := fun c h1 h2 => by
    obtain ⟨l, l1, l2, l3, l4⟩ := lev c h1 h2
    rw [← l4, ← fits_num l3]
    exact hn l l1 l2
  by_cases hxy : x = y
  · have := nf 122 (by omega) (by omega)
    simp [fitC, hxy] at this
  · apply hxy
    apply Nat.eq_of_testBit_eq
    intro b
    by_cases hb : b ≤ 60
    · cases h1 : x.testBit b <;> cases h2 : y.testBit b <;> try rfl
      · have := nf ((2 * b + 0 : Nat) : Int) (by omega) (by omega)
        rw [(fitC_bit (x := x) (y := y) hb (by omega)).2 ⟨by simp [h1], by simp [h2]⟩] at this
        cases this
      · have := nf ((2 * b + 1 : Nat) : Int) (by omega) (by omega)
        rw [(fitC_bit (x := x) (y := y) hb (by omega)).2 ⟨by simp [h1], by simp [h2]⟩] at this
        cases this
    · rw [Nat.testBit_lt_two_pow (Nat.lt_of_lt_of_le hx (Nat.pow_le_pow_right (by decide) (by omega))), Nat.testBit_lt_two_pow (Nat.lt_of_lt_of_le hy (Nat.pow_le_pow_right (by decide) (by omega)))]

theorem after_up {low : Int} {x y : Nat} (h0 : 0 ≤ low) (hx : x < PP) (hy : y < PP) : low < afterF low x y ∧ afterF low x y % 2 = 0 := by
  have hok := after_ok low.toNat x y
  rw [show ((low.toNat : Nat) : Int) = low by omega] at hok
  have hne : afterF low x y ≠ 0 := after_found h0 (Nat.lt_trans hx (by decide)) (Nat.lt_trans hy (by decide))
  obtain ⟨h1, _, h2, _⟩ := hok.some hne
  refine ⟨h1, ?_⟩
  unfold fitsF at h2
  cases he : evenF (afterF low x y)
  · rw [he] at h2; simp at h2
  · exact (even_elim he).2

/-- Level and rule of a signature rule. -/
theorem rise_let {S : Sto} (hw : WF S) {n : Int} (h1 : 1 ≤ n) (h2 : n ≤ S.E.length) (hk : (atE S.E n).r.k = 1) : (tm S.E n).level = 0 := by
  obtain ⟨_, _, ht, _, _⟩ := hw.at_ h1 h2
  rw [ht, mkT, if_pos hk]; rfl
theorem rise_pair {S : Sto} (hw : WF S) {n : Int} (h1 : 1 ≤ n) (h2 : n ≤ S.E.length) (hk : (atE S.E n).r.k = 2) (hl : 0 ≤ (tm S.E n).level) :
    0 ≤ (tm S.E (atE S.E n).r.a).level ∧ (tm S.E (atE S.E n).r.a).level < (tm S.E n).level ∧ 0 ≤ (tm S.E (atE S.E n).r.b).level ∧ (tm S.E (atE S.E n).r.b).level < (tm S.E n).level ∧ (atE S.E n).r.a ≠ (atE S.E n).r.b ∧ (tm S.E n).level % 2 = 0 := by
  obtain ⟨_, _, ht, _, _⟩ := hw.at_ h1 h2
  have he : (tm S.E n).level = if tm S.E (atE S.E n).r.a ≠ tm S.E (atE S.E n).r.b ∧ 0 ≤ (tm S.E (atE S.E n).r.a).level ∧ 0 ≤ (tm S.E (atE S.E n).r.b).level then afterF (max (tm S.E (atE S.E n).r.a).level (tm S.E (atE S.E n).r.b).level) (tm S.E (atE S.E n).r.a).key (tm S.E (atE S.E n).r.b).key else -1 := by
    rw [ht, mkT, if_neg (by omega), if_pos hk]; rfl
  rw [he] at hl ⊢
  split at hl
  · rename_i hc
    rw [if_pos hc]
    obtain ⟨hu, hv⟩ := after_up (low := max (tm S.E (atE S.E n).r.a).level (tm S.E (atE S.E n).r.b).level) (by omega) (tm S.E (atE S.E n).r.a).key_lt (tm S.E (atE S.E n).r.b).key_lt
    refine ⟨hc.2.1, by omega, hc.2.2, by omega, fun h => hc.1 (by rw [h]), hv⟩
  · omega
theorem rise_pow {S : Sto} (hw : WF S) {n : Int} (h1 : 1 ≤ n) (h2 : n ≤ S.E.length) (hk : (atE S.E n).r.k = 3) (hl : 0 ≤ (tm S.E n).level) :
    0 ≤ (tm S.E (atE S.E n).r.a).level ∧ (tm S.E n).level = (tm S.E (atE S.E n).r.a).level + 1 ∧ (tm S.E (atE S.E n).r.a).level % 2 = 0 := by
  obtain ⟨_, _, ht, _, _⟩ := hw.at_ h1 h2
  have he : (tm S.E n).level = if 0 ≤ (tm S.E (atE S.E n).r.a).level ∧ (tm S.E (atE S.E n).r.a).level % 2 = 0 then (tm S.E (atE S.E n).r.a).level + 1 else -1 := by
    rw [ht, mkT, if_neg (by omega), if_neg (by omega)]; rfl
  rw [he] at hl ⊢
  split at hl
  · rename_i hc
    rw [if_pos hc]
    exact ⟨hc.1, rfl, hc.2⟩
  · omega

theorem law_KeysRise (w : World) (hG : Tab w) (g : List Rul) (hg : GIn g) (a : Option Addr) (c : Nat) (hin : In w [] a (rulsC g)) :
    Calls Tryd.prog fn_evergreenlaw20_KeysRise #[.slice a g.length c] w fun e w' => e = .returned (.bool true) ∧ Ext w w' := by
  refine pure_call [.v (.slice a g.length c)] w ok_evergreenlaw20_KeysRise (by simp) ?_
  have c0 := fun w h => calls_good g hg a c w h
  cases hgd : goodB g
  · rw [hgd] at c0
    (repeat' ((conv => whnf); first | refine CallK_pure (.v _) (fun w hR => c0 w (hin.cast hR (by simp))) ?_ | (refine bcase_prop (fun h => ?_) (fun h => ?_) <;> try (exfalso; omega)) | (refine bcase_nprop (fun h => ?_) (fun h => ?_) <;> try (exfalso; omega)) | (refine bcase_intro (fun h => ?_) (fun h => ?_) <;> (try simp only [Bool.not_eq_true', Bool.not_eq_false', decide_eq_true_eq, decide_eq_false_iff_not, Bool.not_eq_true, Bool.not_eq_false, Decidable.not_not] at h)) | refine And.intro (by first | omega | exact rfl | assumption | exact ⟨rfl, rfl, rfl, rfl, rfl⟩ | exact ⟨rfl, rfl, rfl, rfl⟩ | exact ⟨rfl, by omega⟩ | exact oneAll_of rfl | exact ⟨rfl, oneAll_of rfl⟩ | exact Ref.refl _ | exact Thin.ref (.skip (Thin.refl _)) | exact Thin.ref (.skip (.skip (Thin.refl _))) | exact ⟨rfl, Nat.le_of_ble_eq_true rfl⟩ | ((try unfold maxLen); (try simp only [List.length_nil, List.length_cons, List.length_append]); omega) | (refine ⟨rfl, ?_⟩; (try simp only [List.length_nil, List.length_cons, List.length_append]); omega)) ?_ | intro _)); (all_goals (conv => whnf))
    exact ⟨rfl⟩
  · rw [hgd] at c0
    obtain ⟨hgr, hgl, h60⟩ := good_spec hgd hg
    have w0 := WF.new 100 (by decide)
    obtain ⟨S, to, himp, hw, hgrow, hrel, hlen⟩ := good_imp hgd hg w0 (by show 0 + g.length ≤ 100; omega)
    have c1 := new100 77
    have c2 := fun bs => calls_newT bs [] 78
    have c3 := fun b key fp w hR h => calls_Import b ⟨100, []⟩ w0 g hgr S to himp (by omega) a c key fp w hR h
    have c4 := fun b key fp w hR => calls_table b S hw key fp w hR
    have c6 := fun w h => calls_awake w h
    (repeat' ((conv => whnf); first | refine CallK_pure (.v _) (fun w hR => c0 w (hin.cast hR (by simp))) ?_ | (refine CallK_new (fun w hR => c1 w) ?_; rintro _ _ ⟨bn, fpn, rfl, rfl⟩; refine ⟨.v _, rfl, ?_⟩) | (refine CallK_new (fun w hR => c2 _ w) ?_; rintro _ _ ⟨bt, fpn, rfl, rfl⟩; refine ⟨.v _, rfl, ?_⟩) | (refine CallK_post ?_; refine CallK_pack (key := 77) rfl (fun w hR h0 => c3 _ _ _ _ h0 (hin.cast1 hR)) ?_; rintro _ _ ⟨rfl, fp', rfl⟩; refine ⟨.v _, rfl, _, Thin.ref (.keep rfl (fun _ h => h) (packT_mono (k' := 78) (E := []) (E' := S.E) (.nil _) : Thin _ [packE 78 _ (fT _ _ S.E)])), ?_⟩) | (refine CallK_pack (key := 77) rfl (fun w hR h0 => c4 _ _ _ _ h0) ?_; rintro _ _ ⟨a7, c7, fp', rfl, rfl⟩; refine ⟨.v _, rfl, ?_⟩) | refine CallK_pure (.v _) (fun w hR => c6 w (hG.cast hR (by simp))) ?_ | (refine bcase_prop (fun h => ?_) (fun h => ?_) <;> try (exfalso; omega)) | (refine bcase_nprop (fun h => ?_) (fun h => ?_) <;> try (exfalso; omega)) | (refine bcase_intro (fun h => ?_) (fun h => ?_) <;> (try simp only [Bool.not_eq_true', Bool.not_eq_false', decide_eq_true_eq, decide_eq_false_iff_not, Bool.not_eq_true, Bool.not_eq_false, Decidable.not_not] at h)) | refine And.intro (by first | omega | exact rfl | assumption | exact ⟨rfl, rfl, rfl, rfl, rfl⟩ | exact ⟨rfl, rfl, rfl, rfl⟩ | exact ⟨rfl, by omega⟩ | exact oneAll_of rfl | exact ⟨rfl, oneAll_of rfl⟩ | exact Ref.refl _ | exact Thin.ref (.skip (Thin.refl _)) | exact Thin.ref (.skip (.skip (Thin.refl _))) | exact ⟨rfl, Nat.le_of_ble_eq_true rfl⟩ | ((try unfold maxLen); (try simp only [List.length_nil, List.length_cons, List.length_append]); omega) | (refine ⟨rfl, ?_⟩; (try simp only [List.length_nil, List.length_cons, List.length_append]); omega)) ?_ | intro _)); (all_goals (conv => whnf))
    refine VC_loop RunG (fun x => [(4, .v (pS bt)), (7, .sl 600 a7 (S.E.length + 1) c7), (9, .v (.int .i64 x.i))])
      (fun x => [packE 78 x.fp1 (fT bt bn S.E), packE 77 x.fp2 (fS bn S), .own 600 a7 (S.E.length + 1) c7 ty_api_Rule 5 (rulsC (ruls S.E))])
      (fun x => 1 ≤ x.i ∧ x.i ≤ S.E.length + 1) (fun x => S.E.length + 1 - x.i) ⟨1, _, _⟩ ⟨Nat.le_refl _, by simp⟩ (by (repeat ((conv => whnf); refine And.intro (by first | exact rfl | exact vint_eq (by omega) | exact vint_eq (by (dsimp only; omega)) | exact vsl_eq (by omega) | exact vsl_eq (by first | (dsimp only; omega) | (simp; done) | (simp; omega))) ?_)); exact trivial) ((Thin.ref (.keep rfl (fun _ h => h) (.keep rfl (fun _ h => h) (.keep rfl (fun _ h => h) (.nil _)))) : Ref _ _ _ [packE 77 _ (fS bn S), .own 600 a7 (S.E.length + 1) c7 ty_api_Rule 5 (rulsC (ruls S.E)), packE 78 _ (fT bt bn S.E)]).trans (Ref.perm (.trans (.cons _ (.swap _ _ _)) (.swap _ _ _)))) ?_
    rintro ⟨i, fp1, fp2⟩ ⟨h1, h2⟩
    dsimp only at h1 h2 ⊢
    by_cases hlt : i ≤ S.E.length
    case neg =>
      (repeat' ((conv => whnf); first | (refine bcase_prop (fun h => ?_) (fun h => ?_) <;> try (exfalso; omega)) | (refine bcase_nprop (fun h => ?_) (fun h => ?_) <;> try (exfalso; omega)) | (refine bcase_intro (fun h => ?_) (fun h => ?_) <;> (try simp only [Bool.not_eq_true', Bool.not_eq_false', decide_eq_true_eq, decide_eq_false_iff_not, Bool.not_eq_true, Bool.not_eq_false, Decidable.not_not] at h)) | refine And.intro (by first | omega | exact rfl | assumption | exact ⟨rfl, rfl, rfl, rfl, rfl⟩ | exact ⟨rfl, rfl, rfl, rfl⟩ | exact ⟨rfl, by omega⟩ | exact oneAll_of rfl | exact ⟨rfl, oneAll_of rfl⟩ | exact Ref.refl _ | exact Thin.ref (.skip (Thin.refl _)) | exact Thin.ref (.skip (.skip (Thin.refl _))) | exact ⟨rfl, Nat.le_of_ble_eq_true rfl⟩ | ((try unfold maxLen); (try simp only [List.length_nil, List.length_cons, List.length_append]); omega) | (refine ⟨rfl, ?_⟩; (try simp only [List.length_nil, List.length_cons, List.length_append]); omega)) ?_ | intro _)); (all_goals (conv => whnf))
      exact ⟨rfl⟩
    · have hnx : 1 ≤ i + 1 ∧ i + 1 ≤ S.E.length + 1 := by omega
      have hsm := hw.small
      have hil : i < (ruls S.E).length := by rw [ruls_length]; omega
      have q0 := rulsC_cell (j := 0) hil (by decide)
      have q2 := rulsC_cell (j := 2) hil (by decide)
      have q3 := rulsC_cell (j := 3) hil (by decide)
      rw [ruls_at h1 hlt] at q0 q2 q3
      have q0 : (rulsC (ruls S.E))[i * 5]? = some (.int .i64 (atE S.E i).r.k) := q0
      have q2 : (rulsC (ruls S.E))[i * 5 + 2]? = some (.int .i64 (atE S.E i).r.a) := q2
      have q3 : (rulsC (ruls S.E))[i * 5 + 3]? = some (.int .i64 (atE S.E i).r.b) := q3
      have k1 := fun bt bs => calls_Level bt bs S hw i
      have k2 := fun bt bs => calls_Key bt bs S hw i
      have k3 := fun bt bs => calls_Level bt bs S hw (atE S.E i).r.a
      have k4 := fun bt bs => calls_Level bt bs S hw (atE S.E i).r.b
      have hkey := (tm S.E i).key_lt
      unfold PP at hkey
      obtain ⟨hr, _, _, _, _⟩ := hw.at_ (n := i) (by omega) (by omega)
      have hlv := hw.lev' (n := i) (by omega) (by omega)
      unfold levRes at k1 k3 k4
      unfold keyRes at k2
      rw [if_pos ⟨by omega, by omega⟩] at k1 k2
      by_cases hneg : (tm S.E i).level < 0
      · rw [if_pos hneg] at k1
        generalize tm S.E i = m at *
        (repeat' ((conv => whnf); first | rw [Int.toNat_natCast] | (refine CallK_pack2 (key1 := 78) (key2 := 77) rfl rfl (fun w hR h0 => k1 _ _ _ _ _ _ _ h0 (hG.cast2 hR)) ?_; rintro _ _ ⟨rfl, fp1', fp2', rfl⟩; refine ⟨.v _, rfl, ?_⟩) | (refine CallK_pack2 (key1 := 78) (key2 := 77) rfl rfl (fun w hR h0 => k2 _ _ _ _ _ _ _ h0 (hG.cast2 hR)) ?_; rintro _ _ ⟨rfl, fp1', fp2', rfl⟩; refine ⟨.v _, rfl, ?_⟩) | (refine bcase_prop (fun h => ?_) (fun h => ?_) <;> try (exfalso; omega)) | (refine bcase_nprop (fun h => ?_) (fun h => ?_) <;> try (exfalso; omega)) | (refine bcase_intro (fun h => ?_) (fun h => ?_) <;> (try simp only [Bool.not_eq_true', Bool.not_eq_false', decide_eq_true_eq, decide_eq_false_iff_not, Bool.not_eq_true, Bool.not_eq_false, Decidable.not_not] at h)) | refine And.intro (by first | omega | exact rfl | assumption | exact ⟨rfl, rfl, rfl, rfl, rfl⟩ | exact ⟨rfl, rfl, rfl, rfl⟩ | exact ⟨rfl, by omega⟩ | exact oneAll_of rfl | exact ⟨rfl, oneAll_of rfl⟩ | exact Ref.refl _ | exact Thin.ref (.skip (Thin.refl _)) | exact Thin.ref (.skip (.skip (Thin.refl _))) | exact ⟨rfl, Nat.le_of_ble_eq_true rfl⟩ | ((try unfold maxLen); (try simp only [List.length_nil, List.length_cons, List.length_append]); omega) | (refine ⟨rfl, ?_⟩; (try simp only [List.length_nil, List.length_cons, List.length_append]); omega)) ?_ | intro _)); (all_goals (conv => whnf))
        exact loop_next ⟨i + 1, fp1', fp2'⟩ hnx (by ((try dsimp only); omega)) (by (repeat ((conv => whnf); refine And.intro (by first | exact rfl | exact vint_eq (by omega) | exact vint_eq (by (dsimp only; omega)) | exact vsl_eq (by omega) | exact vsl_eq (by first | (dsimp only; omega) | (simp; done) | (simp; omega))) ?_)); exact trivial) (Thin.ref (by (repeat (first | exact Thin.nil _ | exact Thin.refl _ | refine Thin.keep rfl (fun _ h => h) ?_ | refine Thin.skip ?_))))
      · rw [if_neg hneg] at k1
        rcases hr with ⟨e1, _⟩ | ⟨e1, _, _, e4, e5, e6, e7⟩ | ⟨e1, _, _, _, e5, e6⟩
        · have hL := rise_let hw (n := i) (by omega) (by omega) e1
          generalize tm S.E i = m at *
          have e3 : decide ((atE S.E i).r.k = 3) = false := decide_eq_false (by omega)
          have eL : decide (m.level % 2 = 1) = false := decide_eq_false (by omega)
          (repeat' ((conv => whnf); first | rw [Int.toNat_natCast] | rw [e3] | rw [eL] | refine ldCell q0 ?_ | refine ldCell q2 ?_ | (refine CallK_pack2 (key1 := 78) (key2 := 77) rfl rfl (fun w hR h0 => k1 _ _ _ _ _ _ _ h0 (hG.cast2 hR)) ?_; rintro _ _ ⟨rfl, fp1', fp2', rfl⟩; refine ⟨.v _, rfl, ?_⟩) | (refine CallK_pack2 (key1 := 78) (key2 := 77) rfl rfl (fun w hR h0 => k2 _ _ _ _ _ _ _ h0 (hG.cast2 hR)) ?_; rintro _ _ ⟨rfl, fp1', fp2', rfl⟩; refine ⟨.v _, rfl, ?_⟩) | (refine bcase_prop (fun h => ?_) (fun h => ?_) <;> try (exfalso; omega)) | (refine bcase_nprop (fun h => ?_) (fun h => ?_) <;> try (exfalso; omega)) | (refine bcase_intro (fun h => ?_) (fun h => ?_) <;> (try simp only [Bool.not_eq_true', Bool.not_eq_false', decide_eq_true_eq, decide_eq_false_iff_not, Bool.not_eq_true, Bool.not_eq_false, Decidable.not_not] at h)) | refine And.intro (by first | omega | exact rfl | assumption | exact ⟨rfl, rfl, rfl, rfl, rfl⟩ | exact ⟨rfl, rfl, rfl, rfl⟩ | exact ⟨rfl, by omega⟩ | exact oneAll_of rfl | exact ⟨rfl, oneAll_of rfl⟩ | exact Ref.refl _ | exact Thin.ref (.skip (Thin.refl _)) | exact Thin.ref (.skip (.skip (Thin.refl _))) | exact ⟨rfl, Nat.le_of_ble_eq_true rfl⟩ | ((try unfold maxLen); (try simp only [List.length_nil, List.length_cons, List.length_append]); omega) | (refine ⟨rfl, ?_⟩; (try simp only [List.length_nil, List.length_cons, List.length_append]); omega)) ?_ | intro _)); (all_goals (conv => whnf))
          exact loop_next ⟨i + 1, fp1', fp2'⟩ hnx (by ((try dsimp only); omega)) (by (repeat ((conv => whnf); refine And.intro (by first | exact rfl | exact vint_eq (by omega) | exact vint_eq (by (dsimp only; omega)) | exact vsl_eq (by omega) | exact vsl_eq (by first | (dsimp only; omega) | (simp; done) | (simp; omega))) ?_)); exact trivial) (Thin.ref (by (repeat (first | exact Thin.nil _ | exact Thin.refl _ | refine Thin.keep rfl (fun _ h => h) ?_ | refine Thin.skip ?_))))
        · obtain ⟨l1, l2, l3, l4, l5, l6⟩ := rise_pair hw (n := i) (by omega) (by omega) e1 (by omega)
          rw [if_pos ⟨by omega, by omega⟩, if_neg (by omega)] at k3 k4
          generalize tm S.E i = m at *
          have e3 : decide ((atE S.E i).r.k = 3) = false := decide_eq_false (by omega)
          have eL : decide (m.level % 2 = 1) = false := decide_eq_false (by omega)
          (repeat' ((conv => whnf); first | rw [Int.toNat_natCast] | rw [e3] | rw [eL] | refine ldCell q0 ?_ | refine ldCell q2 ?_ | refine ldCell q3 ?_ | (refine CallK_pack2 (key1 := 78) (key2 := 77) rfl rfl (fun w hR h0 => k1 _ _ _ _ _ _ _ h0 (hG.cast2 hR)) ?_; rintro _ _ ⟨rfl, fp1', fp2', rfl⟩; refine ⟨.v _, rfl, ?_⟩) | (refine CallK_pack2 (key1 := 78) (key2 := 77) rfl rfl (fun w hR h0 => k2 _ _ _ _ _ _ _ h0 (hG.cast2 hR)) ?_; rintro _ _ ⟨rfl, fp1', fp2', rfl⟩; refine ⟨.v _, rfl, ?_⟩) | (refine CallK_pack2 (key1 := 78) (key2 := 77) rfl rfl (fun w hR h0 => k3 _ _ _ _ _ _ _ h0 (hG.cast2 hR)) ?_; rintro _ _ ⟨rfl, fp1', fp2', rfl⟩; refine ⟨.v _, rfl, ?_⟩) | (refine CallK_pack2 (key1 := 78) (key2 := 77) rfl rfl (fun w hR h0 => k4 _ _ _ _ _ _ _ h0 (hG.cast2 hR)) ?_; rintro _ _ ⟨rfl, fp1', fp2', rfl⟩; refine ⟨.v _, rfl, ?_⟩) | (refine bcase_prop (fun h => ?_) (fun h => ?_) <;> try (exfalso; omega)) | (refine bcase_nprop (fun h => ?_) (fun h => ?_) <;> try (exfalso; omega)) | (refine bcase_intro (fun h => ?_) (fun h => ?_) <;> (try simp only [Bool.not_eq_true', Bool.not_eq_false', decide_eq_true_eq, decide_eq_false_iff_not, Bool.not_eq_true, Bool.not_eq_false, Decidable.not_not] at h)) | refine And.intro (by first | omega | exact rfl | assumption | exact ⟨rfl, rfl, rfl, rfl, rfl⟩ | exact ⟨rfl, rfl, rfl, rfl⟩ | exact ⟨rfl, by omega⟩ | exact oneAll_of rfl | exact ⟨rfl, oneAll_of rfl⟩ | exact Ref.refl _ | exact Thin.ref (.skip (Thin.refl _)) | exact Thin.ref (.skip (.skip (Thin.refl _))) | exact ⟨rfl, Nat.le_of_ble_eq_true rfl⟩ | ((try unfold maxLen); (try simp only [List.length_nil, List.length_cons, List.length_append]); omega) | (refine ⟨rfl, ?_⟩; (try simp only [List.length_nil, List.length_cons, List.length_append]); omega)) ?_ | intro _)); (all_goals (conv => whnf))
          exact loop_next ⟨i + 1, fp1', fp2'⟩ hnx (by ((try dsimp only); omega)) (by (repeat ((conv => whnf); refine And.intro (by first | exact rfl | exact vint_eq (by omega) | exact vint_eq (by (dsimp only; omega)) | exact vsl_eq (by omega) | exact vsl_eq (by first | (dsimp only; omega) | (simp; done) | (simp; omega))) ?_)); exact trivial) (Thin.ref (by (repeat (first | exact Thin.nil _ | exact Thin.refl _ | refine Thin.keep rfl (fun _ h => h) ?_ | refine Thin.skip ?_))))
        · obtain ⟨l1, l2, l3⟩ := rise_pow hw (n := i) (by omega) (by omega) e1 (by omega)
          rw [if_pos ⟨by omega, by omega⟩, if_neg (by omega)] at k3
          generalize tm S.E i = m at *
          have e3 : decide ((atE S.E i).r.k = 3) = true := decide_eq_true (by omega)
          have eL : decide (m.level % 2 = 1) = true := decide_eq_true (by omega)
          (repeat' ((conv => whnf); first | rw [Int.toNat_natCast] | rw [e3] | rw [eL] | refine ldCell q0 ?_ | refine ldCell q2 ?_ | (refine CallK_pack2 (key1 := 78) (key2 := 77) rfl rfl (fun w hR h0 => k1 _ _ _ _ _ _ _ h0 (hG.cast2 hR)) ?_; rintro _ _ ⟨rfl, fp1', fp2', rfl⟩; refine ⟨.v _, rfl, ?_⟩) | (refine CallK_pack2 (key1 := 78) (key2 := 77) rfl rfl (fun w hR h0 => k2 _ _ _ _ _ _ _ h0 (hG.cast2 hR)) ?_; rintro _ _ ⟨rfl, fp1', fp2', rfl⟩; refine ⟨.v _, rfl, ?_⟩) | (refine CallK_pack2 (key1 := 78) (key2 := 77) rfl rfl (fun w hR h0 => k3 _ _ _ _ _ _ _ h0 (hG.cast2 hR)) ?_; rintro _ _ ⟨rfl, fp1', fp2', rfl⟩; refine ⟨.v _, rfl, ?_⟩) | (refine bcase_prop (fun h => ?_) (fun h => ?_) <;> try (exfalso; omega)) | (refine bcase_nprop (fun h => ?_) (fun h => ?_) <;> try (exfalso; omega)) | (refine bcase_intro (fun h => ?_) (fun h => ?_) <;> (try simp only [Bool.not_eq_true', Bool.not_eq_false', decide_eq_true_eq, decide_eq_false_iff_not, Bool.not_eq_true, Bool.not_eq_false, Decidable.not_not] at h)) | refine And.intro (by first | omega | exact rfl | assumption | exact ⟨rfl, rfl, rfl, rfl, rfl⟩ | exact ⟨rfl, rfl, rfl, rfl⟩ | exact ⟨rfl, by omega⟩ | exact oneAll_of rfl | exact ⟨rfl, oneAll_of rfl⟩ | exact Ref.refl _ | exact Thin.ref (.skip (Thin.refl _)) | exact Thin.ref (.skip (.skip (Thin.refl _))) | exact ⟨rfl, Nat.le_of_ble_eq_true rfl⟩ | ((try unfold maxLen); (try simp only [List.length_nil, List.length_cons, List.length_append]); omega) | (refine ⟨rfl, ?_⟩; (try simp only [List.length_nil, List.length_cons, List.length_append]); omega)) ?_ | intro _)); (all_goals (conv => whnf))
          exact loop_next ⟨i + 1, fp1', fp2'⟩ hnx (by ((try dsimp only); omega)) (by (repeat ((conv => whnf); refine And.intro (by first | exact rfl | exact vint_eq (by omega) | exact vint_eq (by (dsimp only; omega)) | exact vsl_eq (by omega) | exact vsl_eq (by first | (dsimp only; omega) | (simp; done) | (simp; omega))) ?_)); exact trivial) (Thin.ref (by (repeat (first | exact Thin.nil _ | exact Thin.refl _ | refine Thin.keep rfl (fun _ h => h) ?_ | refine Thin.skip ?_))))
end Go.Proofs.YticiljgbjdcmlaaDoor
