/- The statement of chapter 20 about two stores. Condition: the listed table's variable holds it. -/
import Derived.Test.YticiljgbjdcmlaaDoorL20
namespace Go.Proofs.YticiljgbjdcmlaaDoor
open Go.EG
attribute [local irreducible] CallK QCall Go.Calls
set_option linter.unusedSimpArgs false
set_option linter.unusedVariables false
set_option maxRecDepth 20000
set_option maxHeartbeats 2000000

theorem Rel.last {S : Sto} {to : List Int} {g : List Rul} (h : Rel S to (gTs [] g)) (hg : g ≠ []) : 1 ≤ to.getD g.length 0 ∧ to.getD g.length 0 ≤ S.E.length ∧ tm S.E (to.getD g.length 0) = mAt (gTs [] g) g.length := by
  have hl : (gTs [] g).length = g.length := by rw [gTs_length]; simp
  have : 0 < g.length := List.length_pos_iff.2 hg
  exact h.at_ g.length (by omega) (by omega)

theorem law_KeysStores (w : World) (hG : Tab w) (g o : List Rul) (hg : GIn g) (ho : GIn o) (a a' : Option Addr) (c c' : Nat) (hin : In w [] a (rulsC g)) (hin' : In w [] a' (rulsC o)) :
    Calls Tryd.prog fn_evergreenlaw20_KeysStores #[.slice a g.length c, .slice a' o.length c'] w fun e w' => e = .returned (.bool true) ∧ Ext w w' := by
  refine pure_call [.v (.slice a g.length c), .v (.slice a' o.length c')] w ok_evergreenlaw20_KeysStores (by simp) ?_
  have c0 := fun w h => calls_good g hg a c w h
  have d0 := fun w h => calls_good o ho a' c' w h
  cases hgd : goodB g
  · rw [hgd] at c0
    (repeat' ((conv => whnf); first | refine CallK_pure (.v _) (fun w hR => c0 w (hin.cast hR (by simp))) ?_ | (refine bcase_prop (fun h => ?_) (fun h => ?_) <;> try (exfalso; omega)) | (refine bcase_nprop (fun h => ?_) (fun h => ?_) <;> try (exfalso; omega)) | (refine bcase_intro (fun h => ?_) (fun h => ?_) <;> (try simp only [Bool.not_eq_true', Bool.not_eq_false', decide_eq_true_eq, decide_eq_false_iff_not, Bool.not_eq_true, Bool.not_eq_false, Decidable.not_not] at h)) | refine And.intro (by first | omega | exact rfl | assumption | exact ⟨rfl, rfl, rfl, rfl, rfl⟩ | exact ⟨rfl, rfl, rfl, rfl⟩ | exact ⟨rfl, by omega⟩ | exact oneAll_of rfl | exact ⟨rfl, oneAll_of rfl⟩ | exact Ref.refl _ | exact Thin.ref (.skip (Thin.refl _)) | exact Thin.ref (.skip (.skip (Thin.refl _))) | exact ⟨rfl, Nat.le_of_ble_eq_true rfl⟩ | ((try unfold maxLen); (try simp only [List.length_nil, List.length_cons, List.length_append]); omega) | (refine ⟨rfl, ?_⟩; (try simp only [List.length_nil, List.length_cons, List.length_append]); omega)) ?_ | intro _)); (all_goals (conv => whnf))
    exact ⟨rfl⟩
  cases hod : goodB o
  · rw [hgd] at c0
    rw [hod] at d0
    (repeat' ((conv => whnf); first | refine CallK_pure (.v _) (fun w hR => c0 w (hin.cast hR (by simp))) ?_ | refine CallK_pure (.v _) (fun w hR => d0 w (hin'.cast hR (by simp))) ?_ | (refine bcase_prop (fun h => ?_) (fun h => ?_) <;> try (exfalso; omega)) | (refine bcase_nprop (fun h => ?_) (fun h => ?_) <;> try (exfalso; omega)) | (refine bcase_intro (fun h => ?_) (fun h => ?_) <;> (try simp only [Bool.not_eq_true', Bool.not_eq_false', decide_eq_true_eq, decide_eq_false_iff_not, Bool.not_eq_true, Bool.not_eq_false, Decidable.not_not] at h)) | refine And.intro (by first | omega | exact rfl | assumption | exact ⟨rfl, rfl, rfl, rfl, rfl⟩ | exact ⟨rfl, rfl, rfl, rfl⟩ | exact ⟨rfl, by omega⟩ | exact oneAll_of rfl | exact ⟨rfl, oneAll_of rfl⟩ | exact Ref.refl _ | exact Thin.ref (.skip (Thin.refl _)) | exact Thin.ref (.skip (.skip (Thin.refl _))) | exact ⟨rfl, Nat.le_of_ble_eq_true rfl⟩ | ((try unfold maxLen); (try simp only [List.length_nil, List.length_cons, List.length_append]); omega) | (refine ⟨rfl, ?_⟩; (try simp only [List.length_nil, List.length_cons, List.length_append]); omega)) ?_ | intro _)); (all_goals (conv => whnf))
    exact ⟨rfl⟩
  rw [hgd] at c0
  rw [hod] at d0
  by_cases hnil : g = []
  · have hl0 : g.length = 0 := by rw [hnil]; rfl
    (repeat' ((conv => whnf); first | refine CallK_pure (.v _) (fun w hR => c0 w (hin.cast hR (by simp))) ?_ | refine CallK_pure (.v _) (fun w hR => d0 w (hin'.cast hR (by simp))) ?_ | (refine bcase_prop (fun h => ?_) (fun h => ?_) <;> try (exfalso; omega)) | (refine bcase_nprop (fun h => ?_) (fun h => ?_) <;> try (exfalso; omega)) | (refine bcase_intro (fun h => ?_) (fun h => ?_) <;> (try simp only [Bool.not_eq_true', Bool.not_eq_false', decide_eq_true_eq, decide_eq_false_iff_not, Bool.not_eq_true, Bool.not_eq_false, Decidable.not_not] at h)) | refine And.intro (by first | omega | exact rfl | assumption | exact ⟨rfl, rfl, rfl, rfl, rfl⟩ | exact ⟨rfl, rfl, rfl, rfl⟩ | exact ⟨rfl, by omega⟩ | exact oneAll_of rfl | exact ⟨rfl, oneAll_of rfl⟩ | exact Ref.refl _ | exact Thin.ref (.skip (Thin.refl _)) | exact Thin.ref (.skip (.skip (Thin.refl _))) | exact ⟨rfl, Nat.le_of_ble_eq_true rfl⟩ | ((try unfold maxLen); (try simp only [List.length_nil, List.length_cons, List.length_append]); omega) | (refine ⟨rfl, ?_⟩; (try simp only [List.length_nil, List.length_cons, List.length_append]); omega)) ?_ | intro _)); (all_goals (conv => whnf))
    exact ⟨rfl⟩
  have hl0 : 0 < g.length := List.length_pos_iff.2 hnil
  obtain ⟨hgr, hgl, h60⟩ := good_spec hgd hg
  obtain ⟨hor, hol, ho60⟩ := good_spec hod ho
  have w100 := WF.new 100 (by decide)
  have w200 := WF.new 200 (by decide)
  obtain ⟨S, to, himp, hw, hgrow, hrel, hlen⟩ := good_imp hgd hg w100 (by show 0 + g.length ≤ 100; omega)
  obtain ⟨S2, to2, himp2, hw2, hgrow2, hrel2, hlen2⟩ := good_imp hod ho w200 (by show 0 + o.length ≤ 200; omega)
  have hm2 := hgrow2.most
  obtain ⟨S3, to3, himp3, hw3, hgrow3, hrel3, hlen3⟩ := good_imp hgd hg hw2 (by rw [hm2]; have : S2.E.length ≤ 0 + o.length := hlen2; show _ ≤ 200; omega)
  obtain ⟨E3, rfl⟩ := hgrow3
  obtain ⟨p1, p2, p3⟩ := hrel.last hnil
  obtain ⟨r1, r2, r3⟩ := hrel3.last hnil
  have hfirst : to2.getD o.length 0 ≠ 0 → 1 ≤ to2.getD o.length 0 ∧ to2.getD o.length 0 ≤ S2.E.length := fun h => by
    by_cases hon : o = []
    · rw [hon, List.length_nil, hrel2.zero] at h
      exact absurd rfl h
    · exact ⟨(hrel2.last hon).1, (hrel2.last hon).2.1⟩
  have c1 := new100 77
  have d1 := new200 87
  (repeat' ((conv => whnf); first | refine CallK_pure (.v _) (fun w hR => c0 w (hin.cast hR (by simp))) ?_ | refine CallK_pure (.v _) (fun w hR => d0 w (hin'.cast hR (by simp))) ?_ | (refine CallK_new (fun w hR => c1 w) ?_; rintro _ _ ⟨b1, fpA, rfl, rfl⟩; refine ⟨.v _, rfl, ?_⟩) | (refine CallK_new (fun w hR => d1 w) ?_; rintro _ _ ⟨b2, fpB, rfl, rfl⟩; refine ⟨.v _, rfl, ?_⟩) | (refine bcase_prop (fun h => ?_) (fun h => ?_) <;> try (exfalso; omega)) | (refine bcase_nprop (fun h => ?_) (fun h => ?_) <;> try (exfalso; omega)) | (refine bcase_intro (fun h => ?_) (fun h => ?_) <;> (try simp only [Bool.not_eq_true', Bool.not_eq_false', decide_eq_true_eq, decide_eq_false_iff_not, Bool.not_eq_true, Bool.not_eq_false, Decidable.not_not] at h)) | refine And.intro (by first | omega | exact rfl | assumption | exact ⟨rfl, rfl, rfl, rfl, rfl⟩ | exact ⟨rfl, rfl, rfl, rfl⟩ | exact ⟨rfl, by omega⟩ | exact oneAll_of rfl | exact ⟨rfl, oneAll_of rfl⟩ | exact Ref.refl _ | exact Thin.ref (.skip (Thin.refl _)) | exact Thin.ref (.skip (.skip (Thin.refl _))) | exact ⟨rfl, Nat.le_of_ble_eq_true rfl⟩ | ((try unfold maxLen); (try simp only [List.length_nil, List.length_cons, List.length_append]); omega) | (refine ⟨rfl, ?_⟩; (try simp only [List.length_nil, List.length_cons, List.length_append]); omega)) ?_ | intro _)); (all_goals (conv => whnf))
  have c2 := calls_newT b1 [] 78
  have d2 := calls_newT b2 [] 88
  (repeat' ((conv => whnf); first | (refine CallK_new (fun w hR => c2 w) ?_; rintro _ _ ⟨bt, fpC, rfl, rfl⟩; refine ⟨.v _, rfl, ?_⟩) | (refine CallK_new (fun w hR => d2 w) ?_; rintro _ _ ⟨bv, fpD, rfl, rfl⟩; refine ⟨.v _, rfl, ?_⟩) | (refine bcase_prop (fun h => ?_) (fun h => ?_) <;> try (exfalso; omega)) | (refine bcase_nprop (fun h => ?_) (fun h => ?_) <;> try (exfalso; omega)) | (refine bcase_intro (fun h => ?_) (fun h => ?_) <;> (try simp only [Bool.not_eq_true', Bool.not_eq_false', decide_eq_true_eq, decide_eq_false_iff_not, Bool.not_eq_true, Bool.not_eq_false, Decidable.not_not] at h)) | refine And.intro (by first | omega | exact rfl | assumption | exact ⟨rfl, rfl, rfl, rfl, rfl⟩ | exact ⟨rfl, rfl, rfl, rfl⟩ | exact ⟨rfl, by omega⟩ | exact oneAll_of rfl | exact ⟨rfl, oneAll_of rfl⟩ | exact Ref.refl _ | exact Thin.ref (.skip (Thin.refl _)) | exact Thin.ref (.skip (.skip (Thin.refl _))) | exact ⟨rfl, Nat.le_of_ble_eq_true rfl⟩ | ((try unfold maxLen); (try simp only [List.length_nil, List.length_cons, List.length_append]); omega) | (refine ⟨rfl, ?_⟩; (try simp only [List.length_nil, List.length_cons, List.length_append]); omega)) ?_ | intro _)); (all_goals (conv => whnf))
  have i1 := fun key fp w hR h => calls_Import b2 ⟨200, []⟩ w200 o hor S2 to2 himp2 (by omega) a' c' key fp w hR h
  have i2 := fun key fp w hR h => calls_Import b1 ⟨100, []⟩ w100 g hgr S to himp (by omega) a c key fp w hR h
  have i3 := fun key fp w hR h => calls_Import b2 S2 hw2 g hgr _ to3 himp3 (by omega) a c key fp w hR h
  have c6 := fun w h => calls_awake w h
  have k0 : to2.getD o.length 0 ≠ 0 → TC fn_P_keys_Table_Key #[pS bv, .int .i64 (to2.getD o.length 0)] bv b2 S2 (.tuple #[.int .u64 (tm S2.E (to2.getD o.length 0)).key, .nilIface]) := fun h => by
    have := calls_Key bv b2 S2 hw2 (to2.getD o.length 0)
    rwa [keyRes, if_pos (hfirst h)] at this
  have k1 := calls_Key bt b1 S hw (to.getD g.length 0)
  have k2 := calls_Key bv b2 _ hw3 (to3.getD g.length 0)
  have k3 := calls_Level bt b1 S hw (to.getD g.length 0)
  have k4 := calls_Level bv b2 _ hw3 (to3.getD g.length 0)
  unfold keyRes at k1 k2
  unfold levRes at k3 k4
  rw [if_pos ⟨p1, p2⟩, p3] at k1 k3
  rw [if_pos ⟨r1, r2⟩, r3] at k2 k4
  have n0 := calls_Num0
  have n4 := calls_Num 4
  generalize to.getD g.length 0 = ia at *
  generalize to3.getD g.length 0 = ib at *
  generalize to2.getD o.length 0 = io at *
  generalize mAt (gTs [] g) g.length = m at *
  by_cases hneg : m.level < 0
  · rw [if_pos hneg] at k3 k4
    (repeat' ((conv => whnf); first | (refine CallK_post ?_; refine CallK_pack (key := 87) rfl (fun w hR h0 => i1 _ _ _ h0 (hin'.cast1 hR)) ?_; rintro _ _ ⟨rfl, fp', rfl⟩; refine ⟨.v _, rfl, _, Thin.ref (.keep rfl (fun _ h => h) (packT_mono (k' := 88) (E := []) (E' := S2.E) (Thin.refl _) : Thin _ (packE 88 _ (fT _ _ S2.E) :: _))), ?_⟩) | refine CallK_pure (.v _) (fun w hR => c6 w (hG.cast hR (by simp))) ?_ | (refine CallK_pack2 (key1 := 88) (key2 := 87) rfl rfl (fun w hR h0 => k0 (by omega) _ _ _ _ _ h0 (hG.cast2 hR)) ?_; rintro _ _ ⟨rfl, fp1', fp2', rfl⟩; refine ⟨.v _, rfl, ?_⟩) | (refine CallK_post ?_; refine CallK_pack (key := 77) rfl (fun w hR h0 => i2 _ _ _ h0 (hin.cast1 hR)) ?_; rintro _ _ ⟨rfl, fp', rfl⟩; refine ⟨.v _, rfl, _, Thin.ref (.keep rfl (fun _ h => h) (.keep rfl (fun _ h => h) (.keep rfl (fun _ h => h) (packT_mono (k' := 78) (E := []) (E' := S.E) (.nil _) : Thin _ [packE 78 _ (fT _ _ S.E)])))), ?_⟩) | (refine CallK_post ?_; refine CallK_pack (key := 87) rfl (fun w hR h0 => i3 _ _ _ h0 (hin.cast1 hR)) ?_; rintro _ _ ⟨rfl, fp', rfl⟩; refine ⟨.v _, rfl, _, Thin.ref (.keep rfl (fun _ h => h) (.keep rfl (fun _ h => h) (packT_mono (k' := 88) (E := S2.E) (E' := E3) (Thin.refl _) : Thin _ (packE 88 _ (fT _ _ (S2.E ++ E3)) :: _)))), ?_⟩) | (refine CallK_pack2 (key1 := 78) (key2 := 77) rfl rfl (fun w hR h0 => k1 _ _ _ _ _ h0 (hG.cast2 hR)) ?_; rintro _ _ ⟨rfl, fp1', fp2', rfl⟩; refine ⟨.v _, rfl, ?_⟩) | (refine CallK_pack2 (key1 := 88) (key2 := 87) rfl rfl (fun w hR h0 => k2 _ _ _ _ _ h0 (hG.cast2 hR)) ?_; rintro _ _ ⟨rfl, fp1', fp2', rfl⟩; refine ⟨.v _, rfl, ?_⟩) | (refine CallK_pack2 (key1 := 78) (key2 := 77) rfl rfl (fun w hR h0 => k3 _ _ _ _ _ h0 (hG.cast2 hR)) ?_; rintro _ _ ⟨rfl, fp1', fp2', rfl⟩; refine ⟨.v _, rfl, ?_⟩) | (refine CallK_pack2 (key1 := 88) (key2 := 87) rfl rfl (fun w hR h0 => k4 _ _ _ _ _ h0 (hG.cast2 hR)) ?_; rintro _ _ ⟨rfl, fp1', fp2', rfl⟩; refine ⟨.v _, rfl, ?_⟩) | (first | refine CallK_pure (.v _) (fun w hR => n4 w) ?_ | refine QCall_pure (.v _) (fun w hR => n4 w) ?_) | (first | refine CallK_pure (.v _) (fun w hR => n0 w) ?_ | refine QCall_pure (.v _) (fun w hR => n0 w) ?_) | (refine bcase_prop (fun h => ?_) (fun h => ?_) <;> try (exfalso; omega)) | (refine bcase_nprop (fun h => ?_) (fun h => ?_) <;> try (exfalso; omega)) | (refine bcase_intro (fun h => ?_) (fun h => ?_) <;> (try simp only [Bool.not_eq_true', Bool.not_eq_false', decide_eq_true_eq, decide_eq_false_iff_not, Bool.not_eq_true, Bool.not_eq_false, Decidable.not_not] at h)) | refine And.intro (by first | omega | exact rfl | assumption | exact ⟨rfl, rfl, rfl, rfl, rfl⟩ | exact ⟨rfl, rfl, rfl, rfl⟩ | exact ⟨rfl, by omega⟩ | exact oneAll_of rfl | exact ⟨rfl, oneAll_of rfl⟩ | exact Ref.refl _ | exact Thin.ref (.skip (Thin.refl _)) | exact Thin.ref (.skip (.skip (Thin.refl _))) | exact ⟨rfl, Nat.le_of_ble_eq_true rfl⟩ | ((try unfold maxLen); (try simp only [List.length_nil, List.length_cons, List.length_append]); omega) | (refine ⟨rfl, ?_⟩; (try simp only [List.length_nil, List.length_cons, List.length_append]); omega)) ?_ | intro _)); (all_goals (conv => whnf))
    all_goals exact ⟨by simp⟩
  · rw [if_neg hneg] at k3 k4
    (repeat' ((conv => whnf); first | (refine CallK_post ?_; refine CallK_pack (key := 87) rfl (fun w hR h0 => i1 _ _ _ h0 (hin'.cast1 hR)) ?_; rintro _ _ ⟨rfl, fp', rfl⟩; refine ⟨.v _, rfl, _, Thin.ref (.keep rfl (fun _ h => h) (packT_mono (k' := 88) (E := []) (E' := S2.E) (Thin.refl _) : Thin _ (packE 88 _ (fT _ _ S2.E) :: _))), ?_⟩) | refine CallK_pure (.v _) (fun w hR => c6 w (hG.cast hR (by simp))) ?_ | (refine CallK_pack2 (key1 := 88) (key2 := 87) rfl rfl (fun w hR h0 => k0 (by omega) _ _ _ _ _ h0 (hG.cast2 hR)) ?_; rintro _ _ ⟨rfl, fp1', fp2', rfl⟩; refine ⟨.v _, rfl, ?_⟩) | (refine CallK_post ?_; refine CallK_pack (key := 77) rfl (fun w hR h0 => i2 _ _ _ h0 (hin.cast1 hR)) ?_; rintro _ _ ⟨rfl, fp', rfl⟩; refine ⟨.v _, rfl, _, Thin.ref (.keep rfl (fun _ h => h) (.keep rfl (fun _ h => h) (.keep rfl (fun _ h => h) (packT_mono (k' := 78) (E := []) (E' := S.E) (.nil _) : Thin _ [packE 78 _ (fT _ _ S.E)])))), ?_⟩) | (refine CallK_post ?_; refine CallK_pack (key := 87) rfl (fun w hR h0 => i3 _ _ _ h0 (hin.cast1 hR)) ?_; rintro _ _ ⟨rfl, fp', rfl⟩; refine ⟨.v _, rfl, _, Thin.ref (.keep rfl (fun _ h => h) (.keep rfl (fun _ h => h) (packT_mono (k' := 88) (E := S2.E) (E' := E3) (Thin.refl _) : Thin _ (packE 88 _ (fT _ _ (S2.E ++ E3)) :: _)))), ?_⟩) | (refine CallK_pack2 (key1 := 78) (key2 := 77) rfl rfl (fun w hR h0 => k1 _ _ _ _ _ h0 (hG.cast2 hR)) ?_; rintro _ _ ⟨rfl, fp1', fp2', rfl⟩; refine ⟨.v _, rfl, ?_⟩) | (refine CallK_pack2 (key1 := 88) (key2 := 87) rfl rfl (fun w hR h0 => k2 _ _ _ _ _ h0 (hG.cast2 hR)) ?_; rintro _ _ ⟨rfl, fp1', fp2', rfl⟩; refine ⟨.v _, rfl, ?_⟩) | (refine CallK_pack2 (key1 := 78) (key2 := 77) rfl rfl (fun w hR h0 => k3 _ _ _ _ _ h0 (hG.cast2 hR)) ?_; rintro _ _ ⟨rfl, fp1', fp2', rfl⟩; refine ⟨.v _, rfl, ?_⟩) | (refine CallK_pack2 (key1 := 88) (key2 := 87) rfl rfl (fun w hR h0 => k4 _ _ _ _ _ h0 (hG.cast2 hR)) ?_; rintro _ _ ⟨rfl, fp1', fp2', rfl⟩; refine ⟨.v _, rfl, ?_⟩) | (first | refine CallK_pure (.v _) (fun w hR => n4 w) ?_ | refine QCall_pure (.v _) (fun w hR => n4 w) ?_) | (first | refine CallK_pure (.v _) (fun w hR => n0 w) ?_ | refine QCall_pure (.v _) (fun w hR => n0 w) ?_) | (refine bcase_prop (fun h => ?_) (fun h => ?_) <;> try (exfalso; omega)) | (refine bcase_nprop (fun h => ?_) (fun h => ?_) <;> try (exfalso; omega)) | (refine bcase_intro (fun h => ?_) (fun h => ?_) <;> (try simp only [Bool.not_eq_true', Bool.not_eq_false', decide_eq_true_eq, decide_eq_false_iff_not, Bool.not_eq_true, Bool.not_eq_false, Decidable.not_not] at h)) | refine And.intro (by first | omega | exact rfl | assumption | exact ⟨rfl, rfl, rfl, rfl, rfl⟩ | exact ⟨rfl, rfl, rfl, rfl⟩ | exact ⟨rfl, by omega⟩ | exact oneAll_of rfl | exact ⟨rfl, oneAll_of rfl⟩ | exact Ref.refl _ | exact Thin.ref (.skip (Thin.refl _)) | exact Thin.ref (.skip (.skip (Thin.refl _))) | exact ⟨rfl, Nat.le_of_ble_eq_true rfl⟩ | ((try unfold maxLen); (try simp only [List.length_nil, List.length_cons, List.length_append]); omega) | (refine ⟨rfl, ?_⟩; (try simp only [List.length_nil, List.length_cons, List.length_append]); omega)) ?_ | intro _)); (all_goals (conv => whnf))
    all_goals exact ⟨by simp⟩
end Go.Proofs.YticiljgbjdcmlaaDoor
