/- The table of keys: its functions. -/
import Derived.Test.YticiljgbjdcmlaaDoorSRow
import Derived.Test.YticiljgbjdcmlaaDoorSRef
namespace Go.Proofs.YticiljgbjdcmlaaDoor
open Go.EG
attribute [local irreducible] CallK QCall Go.Calls
set_option linter.unusedSimpArgs false
set_option linter.unusedVariables false
set_option maxRecDepth 20000
set_option maxHeartbeats 1000000

theorem _root_.Go.EG.In.cast1 {w0 w : World} {fp0 fp1 : List Nat} {k1 : Nat} {ok1 : World → Prop} {Lr : List Ent} {a : Option Addr} {xs : List Value} (h : In w0 fp0 a xs) (hR : R w0 fp0 (.abs k1 fp1 ok1 :: Lr) w) : In w fp1 a xs :=
  h.cast hR (fun b hb => by rw [fps_cons]; exact List.mem_append_left _ hb)
theorem _root_.Go.EG.In.cast2 {w0 w : World} {fp0 fp1 fp2 : List Nat} {k1 k2 : Nat} {ok1 ok2 : World → Prop} {Lr : List Ent} {a : Option Addr} {xs : List Value} (h : In w0 fp0 a xs) (hR : R w0 fp0 (.abs k1 fp1 ok1 :: .abs k2 fp2 ok2 :: Lr) w) : In w (fp1 ++ fp2) a xs :=
  h.cast hR (fun b hb => by
    rw [fps_cons, fps_cons]
    rcases List.mem_append.1 hb with hb | hb
    · exact List.mem_append_left _ hb
    · exact List.mem_append_right _ (List.mem_append_left _ hb))

theorem endQ {k1 k2 bt bs : Nat} {k1' k2' : Nat} {fp1 fp2 : List Nat} {S : Sto} {r v : Value} {w0 : World} {fp0 : List Nat} {L : List Ent} (h : Thin L [packE k1' fp1 (fT bt bs S.E), packE k2' fp2 (fS bs S)]) (hv : v = r) : ∃ L1, Ref w0 fp0 L L1 ∧ retT k1 k2 bt bs S r v L1 :=
  ⟨[packE k1 fp1 (fT bt bs S.E), packE k2 fp2 (fS bs S)], fun w hR => (Thin.packE (Thin.packE (.nil _))).ref w (h.ref w hR), hv, _, _, rfl⟩

def keyRes (S : Sto) (id : Int) : Value := if 1 ≤ id ∧ id ≤ S.E.length then .tuple #[.int .u64 (tm S.E id).key, .nilIface] else .tuple #[.int .u64 0, errV 1]
theorem calls_Key (bt bs : Nat) (S : Sto) (hw : WF S) (id : Int) : TC fn_P_keys_Table_Key #[pS bt, .int .i64 id] bt bs S (keyRes S id) := by
  intro k1 k2 fp1 fp2 w hR hG
  have hR : R w (fp1 ++ fp2) [packE 78 fp1 (fT bt bs S.E), packE 77 fp2 (fS bs S)] w := (Thin.packE (Thin.packE (.nil []))).ref w hR
  refine part_call [.v (pS bt), .v (.int .i64 id)] ok_P_keys_Table_Key (by simp) hR ?_
  have c1 := calls_row bt bs S hw id
  unfold rowRes at c1
  unfold keyRes
  by_cases h : 1 ≤ id ∧ id ≤ S.E.length
  · rw [if_pos h] at c1 ⊢
    (repeat' ((conv => whnf); first | (refine CallK_pack2 (key1 := 78) (key2 := 77) rfl rfl (fun w hR h0 => c1 _ _ _ _ _ h0 (hG.cast2 hR)) ?_; rintro _ _ ⟨rfl, fp1', fp2', rfl⟩; refine ⟨.v _, rfl, ?_⟩) | (refine bcase_prop (fun h => ?_) (fun h => ?_) <;> try (exfalso; omega)) | (refine bcase_nprop (fun h => ?_) (fun h => ?_) <;> try (exfalso; omega)) | (refine bcase_intro (fun h => ?_) (fun h => ?_) <;> (try simp only [Bool.not_eq_true', Bool.not_eq_false', decide_eq_true_eq, decide_eq_false_iff_not, Bool.not_eq_true, Bool.not_eq_false, Decidable.not_not] at h)) | refine And.intro (by first | omega | exact rfl | assumption | exact ⟨rfl, rfl, rfl, rfl, rfl⟩ | exact ⟨rfl, rfl, rfl, rfl⟩ | exact ⟨rfl, by omega⟩ | exact oneAll_of rfl | exact ⟨rfl, oneAll_of rfl⟩ | exact Ref.refl _ | exact Thin.ref (.skip (Thin.refl _)) | exact Thin.ref (.skip (.skip (Thin.refl _))) | exact ⟨rfl, Nat.le_of_ble_eq_true rfl⟩ | ((try unfold maxLen); (try simp only [List.length_nil, List.length_cons, List.length_append]); omega) | (refine ⟨rfl, ?_⟩; (try simp only [List.length_nil, List.length_cons, List.length_append]); omega)) ?_ | intro _)); (all_goals (conv => whnf))
    exact ⟨endQ (.skip (.keep rfl (fun _ h => h) (.keep rfl (fun _ h => h) (.nil _)))) rfl⟩
  · rw [if_neg h] at c1 ⊢
    (repeat' ((conv => whnf); first | (refine CallK_pack2 (key1 := 78) (key2 := 77) rfl rfl (fun w hR h0 => c1 _ _ _ _ _ h0 (hG.cast2 hR)) ?_; rintro _ _ ⟨rfl, fp1', fp2', rfl⟩; refine ⟨.v _, rfl, ?_⟩) | (refine bcase_prop (fun h => ?_) (fun h => ?_) <;> try (exfalso; omega)) | (refine bcase_nprop (fun h => ?_) (fun h => ?_) <;> try (exfalso; omega)) | (refine bcase_intro (fun h => ?_) (fun h => ?_) <;> (try simp only [Bool.not_eq_true', Bool.not_eq_false', decide_eq_true_eq, decide_eq_false_iff_not, Bool.not_eq_true, Bool.not_eq_false, Decidable.not_not] at h)) | refine And.intro (by first | omega | exact rfl | assumption | exact ⟨rfl, rfl, rfl, rfl, rfl⟩ | exact ⟨rfl, rfl, rfl, rfl⟩ | exact ⟨rfl, by omega⟩ | exact oneAll_of rfl | exact ⟨rfl, oneAll_of rfl⟩ | exact Ref.refl _ | exact Thin.ref (.skip (Thin.refl _)) | exact Thin.ref (.skip (.skip (Thin.refl _))) | exact ⟨rfl, Nat.le_of_ble_eq_true rfl⟩ | ((try unfold maxLen); (try simp only [List.length_nil, List.length_cons, List.length_append]); omega) | (refine ⟨rfl, ?_⟩; (try simp only [List.length_nil, List.length_cons, List.length_append]); omega)) ?_ | intro _)); (all_goals (conv => whnf))
    exact ⟨endQ (.skip (.keep rfl (fun _ h => h) (.keep rfl (fun _ h => h) (.nil _)))) rfl⟩

def levRes (S : Sto) (id : Int) : Value := if 1 ≤ id ∧ id ≤ S.E.length then (if (tm S.E id).level < 0 then .tuple #[.int .i64 0, errV 4] else .tuple #[.int .i64 (tm S.E id).level, .nilIface]) else .tuple #[.int .i64 0, errV 1]
theorem calls_Level (bt bs : Nat) (S : Sto) (hw : WF S) (id : Int) : TC fn_P_keys_Table_Level #[pS bt, .int .i64 id] bt bs S (levRes S id) := by
  intro k1 k2 fp1 fp2 w hR hG
  have hR : R w (fp1 ++ fp2) [packE 78 fp1 (fT bt bs S.E), packE 77 fp2 (fS bs S)] w := (Thin.packE (Thin.packE (.nil []))).ref w hR
  refine part_call [.v (pS bt), .v (.int .i64 id)] ok_P_keys_Table_Level (by simp) hR ?_
  have c1 := calls_row bt bs S hw id
  unfold rowRes at c1
  unfold levRes
  by_cases h : 1 ≤ id ∧ id ≤ S.E.length
  · rw [if_pos h] at c1 ⊢
    by_cases h0 : (tm S.E id).level < 0
    · rw [if_pos h0]
      have h1 : ¬ 0 ≤ (rowT (tm S.E id)).2.1 := by simp only [rowT]; omega
      (repeat' ((conv => whnf); first | (refine CallK_pack2 (key1 := 78) (key2 := 77) rfl rfl (fun w hR h0 => c1 _ _ _ _ _ h0 (hG.cast2 hR)) ?_; rintro _ _ ⟨rfl, fp1', fp2', rfl⟩; refine ⟨.v _, rfl, ?_⟩) | (refine bcase_prop (fun h => ?_) (fun h => ?_) <;> try (exfalso; omega)) | (refine bcase_nprop (fun h => ?_) (fun h => ?_) <;> try (exfalso; omega)) | (refine bcase_intro (fun h => ?_) (fun h => ?_) <;> (try simp only [Bool.not_eq_true', Bool.not_eq_false', decide_eq_true_eq, decide_eq_false_iff_not, Bool.not_eq_true, Bool.not_eq_false, Decidable.not_not] at h)) | refine And.intro (by first | omega | exact rfl | assumption | exact ⟨rfl, rfl, rfl, rfl, rfl⟩ | exact ⟨rfl, rfl, rfl, rfl⟩ | exact ⟨rfl, by omega⟩ | exact oneAll_of rfl | exact ⟨rfl, oneAll_of rfl⟩ | exact Ref.refl _ | exact Thin.ref (.skip (Thin.refl _)) | exact Thin.ref (.skip (.skip (Thin.refl _))) | exact ⟨rfl, Nat.le_of_ble_eq_true rfl⟩ | ((try unfold maxLen); (try simp only [List.length_nil, List.length_cons, List.length_append]); omega) | (refine ⟨rfl, ?_⟩; (try simp only [List.length_nil, List.length_cons, List.length_append]); omega)) ?_ | intro _)); (all_goals (conv => whnf))
      · exact ⟨endQ (.skip (.keep rfl (fun _ h => h) (.keep rfl (fun _ h => h) (.nil _)))) rfl⟩
    · rw [if_neg h0]
      have h1 : 0 ≤ (rowT (tm S.E id)).2.1 := by simp only [rowT]; omega
      (repeat' ((conv => whnf); first | (refine CallK_pack2 (key1 := 78) (key2 := 77) rfl rfl (fun w hR h0 => c1 _ _ _ _ _ h0 (hG.cast2 hR)) ?_; rintro _ _ ⟨rfl, fp1', fp2', rfl⟩; refine ⟨.v _, rfl, ?_⟩) | (refine bcase_prop (fun h => ?_) (fun h => ?_) <;> try (exfalso; omega)) | (refine bcase_nprop (fun h => ?_) (fun h => ?_) <;> try (exfalso; omega)) | (refine bcase_intro (fun h => ?_) (fun h => ?_) <;> (try simp only [Bool.not_eq_true', Bool.not_eq_false', decide_eq_true_eq, decide_eq_false_iff_not, Bool.not_eq_true, Bool.not_eq_false, Decidable.not_not] at h)) | refine And.intro (by first | omega | exact rfl | assumption | exact ⟨rfl, rfl, rfl, rfl, rfl⟩ | exact ⟨rfl, rfl, rfl, rfl⟩ | exact ⟨rfl, by omega⟩ | exact oneAll_of rfl | exact ⟨rfl, oneAll_of rfl⟩ | exact Ref.refl _ | exact Thin.ref (.skip (Thin.refl _)) | exact Thin.ref (.skip (.skip (Thin.refl _))) | exact ⟨rfl, Nat.le_of_ble_eq_true rfl⟩ | ((try unfold maxLen); (try simp only [List.length_nil, List.length_cons, List.length_append]); omega) | (refine ⟨rfl, ?_⟩; (try simp only [List.length_nil, List.length_cons, List.length_append]); omega)) ?_ | intro _)); (all_goals (conv => whnf))
      · exact ⟨endQ (.skip (.keep rfl (fun _ h => h) (.keep rfl (fun _ h => h) (.nil _)))) rfl⟩
  · rw [if_neg h] at c1 ⊢
    (repeat' ((conv => whnf); first | (refine CallK_pack2 (key1 := 78) (key2 := 77) rfl rfl (fun w hR h0 => c1 _ _ _ _ _ h0 (hG.cast2 hR)) ?_; rintro _ _ ⟨rfl, fp1', fp2', rfl⟩; refine ⟨.v _, rfl, ?_⟩) | (refine bcase_prop (fun h => ?_) (fun h => ?_) <;> try (exfalso; omega)) | (refine bcase_nprop (fun h => ?_) (fun h => ?_) <;> try (exfalso; omega)) | (refine bcase_intro (fun h => ?_) (fun h => ?_) <;> (try simp only [Bool.not_eq_true', Bool.not_eq_false', decide_eq_true_eq, decide_eq_false_iff_not, Bool.not_eq_true, Bool.not_eq_false, Decidable.not_not] at h)) | refine And.intro (by first | omega | exact rfl | assumption | exact ⟨rfl, rfl, rfl, rfl, rfl⟩ | exact ⟨rfl, rfl, rfl, rfl⟩ | exact ⟨rfl, by omega⟩ | exact oneAll_of rfl | exact ⟨rfl, oneAll_of rfl⟩ | exact Ref.refl _ | exact Thin.ref (.skip (Thin.refl _)) | exact Thin.ref (.skip (.skip (Thin.refl _))) | exact ⟨rfl, Nat.le_of_ble_eq_true rfl⟩ | ((try unfold maxLen); (try simp only [List.length_nil, List.length_cons, List.length_append]); omega) | (refine ⟨rfl, ?_⟩; (try simp only [List.length_nil, List.length_cons, List.length_append]); omega)) ?_ | intro _)); (all_goals (conv => whnf))
    exact ⟨endQ (.skip (.keep rfl (fun _ h => h) (.keep rfl (fun _ h => h) (.nil _)))) rfl⟩

/-! ### A new table -/

def newT (key bs : Nat) (E : List Entr) (v : Value) (L1 : List Ent) : Prop := ∃ b fp', v = pS b ∧ L1 = [packE key fp' (fT b bs E)]
theorem calls_newT (bs : Nat) (E : List Entr) (key : Nat) (w : World) : Calls Tryd.prog fn_keys_New #[pS bs] w fun e w' => ∃ v L1, e = .returned v ∧ R w [] L1 w' ∧ newT key bs E v L1 := by
  refine new_call [.v (pS bs)] ok_keys_New (by simp) ?_
  (repeat' ((conv => whnf); first | (refine bcase_prop (fun h => ?_) (fun h => ?_) <;> try (exfalso; omega)) | (refine bcase_nprop (fun h => ?_) (fun h => ?_) <;> try (exfalso; omega)) | (refine bcase_intro (fun h => ?_) (fun h => ?_) <;> (try simp only [Bool.not_eq_true', Bool.not_eq_false', decide_eq_true_eq, decide_eq_false_iff_not, Bool.not_eq_true, Bool.not_eq_false, Decidable.not_not] at h)) | refine And.intro (by first | omega | exact rfl | assumption | exact ⟨rfl, rfl, rfl, rfl, rfl⟩ | exact ⟨rfl, rfl, rfl, rfl⟩ | exact ⟨rfl, by omega⟩ | exact oneAll_of rfl | exact ⟨rfl, oneAll_of rfl⟩ | exact Ref.refl _ | exact Thin.ref (.skip (Thin.refl _)) | exact Thin.ref (.skip (.skip (Thin.refl _))) | exact ⟨rfl, Nat.le_of_ble_eq_true rfl⟩ | ((try unfold maxLen); (try simp only [List.length_nil, List.length_cons, List.length_append]); omega) | (refine ⟨rfl, ?_⟩; (try simp only [List.length_nil, List.length_cons, List.length_append]); omega)) ?_ | intro _)); (all_goals (conv => whnf))
  rename_i b
  exact ⟨⟨_, (Ref.ownNil 2001 ty_keys_row 3).trans ((Ref.perm (.swap _ _ _)).trans (Ref.pack (key := key) (f := fT b bs E) ⟨[], TI.nil E, none, 0⟩ (by rw [fT_eq]; exact .keep rfl (fun _ h => h) (.keep rfl (fun _ h => h) (.nil _))))), _, _, rfl, rfl⟩⟩
theorem calls_newTnil (w : World) : Calls Tryd.prog fn_keys_New #[.pointer none] w fun e w' => e = .returned (.pointer none) ∧ Ext w w' := by
  refine pure_call [.v (.pointer none)] w ok_keys_New (by simp) ?_
  (repeat' ((conv => whnf); first | (refine bcase_prop (fun h => ?_) (fun h => ?_) <;> try (exfalso; omega)) | (refine bcase_nprop (fun h => ?_) (fun h => ?_) <;> try (exfalso; omega)) | (refine bcase_intro (fun h => ?_) (fun h => ?_) <;> (try simp only [Bool.not_eq_true', Bool.not_eq_false', decide_eq_true_eq, decide_eq_false_iff_not, Bool.not_eq_true, Bool.not_eq_false, Decidable.not_not] at h)) | refine And.intro (by first | omega | exact rfl | assumption | exact ⟨rfl, rfl, rfl, rfl, rfl⟩ | exact ⟨rfl, rfl, rfl, rfl⟩ | exact ⟨rfl, by omega⟩ | exact oneAll_of rfl | exact ⟨rfl, oneAll_of rfl⟩ | exact Ref.refl _ | exact Thin.ref (.skip (Thin.refl _)) | exact Thin.ref (.skip (.skip (Thin.refl _))) | exact ⟨rfl, Nat.le_of_ble_eq_true rfl⟩ | ((try unfold maxLen); (try simp only [List.length_nil, List.length_cons, List.length_append]); omega) | (refine ⟨rfl, ?_⟩; (try simp only [List.length_nil, List.length_cons, List.length_append]); omega)) ?_ | intro _)); (all_goals (conv => whnf))
  exact ⟨rfl⟩
/-- A table knows what is added to its store. -/
theorem packT_mono {k k' bt bs : Nat} {fp : List Nat} {E E' : List Entr} {L L' : List Ent} (h : Thin L L') : Thin (packE k fp (fT bt bs E) :: L) (packE k' fp (fT bt bs (E ++ E')) :: L') := by
  refine .keep rfl (fun w hok w' hs => ?_) h
  obtain ⟨⟨rows, ok, a, c⟩, h1, h2⟩ := hok w' hs
  exact ⟨⟨rows, ok.mono, a, c⟩, h1, h2⟩
theorem calls_tStore (bt bs : Nat) (E : List Entr) {key : Nat} {fp : List Nat} {w : World} (hR : R w fp [packE key fp (fT bt bs E)] w) :
    Calls Tryd.prog fn_P_keys_Table_Store #[pS bt] w fun e w' => ∃ v L1, e = .returned v ∧ R w fp L1 w' ∧ v = pS bs ∧ ∃ fp', L1 = [packE key fp' (fT bt bs E)] := by
  refine pack_call [.ptr 2000 bt 0] ok_P_keys_Table_Store (by simp) hR ?_
  rintro ⟨rows, ok, a, c⟩ hfp hR'
  rw [fT_eq] at hR' ⊢
  (repeat' ((conv => whnf); first | refine ⟨_, ⟨rfl, trivial⟩, ?_⟩ | (refine bcase_prop (fun h => ?_) (fun h => ?_) <;> try (exfalso; omega)) | (refine bcase_nprop (fun h => ?_) (fun h => ?_) <;> try (exfalso; omega)) | (refine bcase_intro (fun h => ?_) (fun h => ?_) <;> (try simp only [Bool.not_eq_true', Bool.not_eq_false', decide_eq_true_eq, decide_eq_false_iff_not, Bool.not_eq_true, Bool.not_eq_false, Decidable.not_not] at h)) | refine And.intro (by first | omega | exact rfl | assumption | exact ⟨rfl, rfl, rfl, rfl, rfl⟩ | exact ⟨rfl, rfl, rfl, rfl⟩ | exact ⟨rfl, by omega⟩ | exact oneAll_of rfl | exact ⟨rfl, oneAll_of rfl⟩ | exact Ref.refl _ | exact Thin.ref (.skip (Thin.refl _)) | exact Thin.ref (.skip (.skip (Thin.refl _))) | exact ⟨rfl, Nat.le_of_ble_eq_true rfl⟩ | ((try unfold maxLen); (try simp only [List.length_nil, List.length_cons, List.length_append]); omega) | (refine ⟨rfl, ?_⟩; (try simp only [List.length_nil, List.length_cons, List.length_append]); omega)) ?_ | intro _)); (all_goals (conv => whnf))
  exact ⟨⟨_, Ref.pack (key := key) (f := fT bt bs E) ⟨rows, ok, a, c⟩ (Thin.refl _), rfl, _, rfl⟩⟩

/-! ### No table -/

theorem calls_rowNil (id : Int) (w : World) : Calls Tryd.prog fn_P_keys_Table_row #[.pointer none, .int .i64 id] w fun e w' => e = .returned (.tuple #[.agg (krC row0).toArray, errV 5]) ∧ Ext w w' := by
  refine pure_call [.v (.pointer none), .v (.int .i64 id)] w ok_P_keys_Table_row (by simp) ?_
  (repeat' ((conv => whnf); first | (refine bcase_prop (fun h => ?_) (fun h => ?_) <;> try (exfalso; omega)) | (refine bcase_nprop (fun h => ?_) (fun h => ?_) <;> try (exfalso; omega)) | (refine bcase_intro (fun h => ?_) (fun h => ?_) <;> (try simp only [Bool.not_eq_true', Bool.not_eq_false', decide_eq_true_eq, decide_eq_false_iff_not, Bool.not_eq_true, Bool.not_eq_false, Decidable.not_not] at h)) | refine And.intro (by first | omega | exact rfl | assumption | exact ⟨rfl, rfl, rfl, rfl, rfl⟩ | exact ⟨rfl, rfl, rfl, rfl⟩ | exact ⟨rfl, by omega⟩ | exact oneAll_of rfl | exact ⟨rfl, oneAll_of rfl⟩ | exact Ref.refl _ | exact Thin.ref (.skip (Thin.refl _)) | exact Thin.ref (.skip (.skip (Thin.refl _))) | exact ⟨rfl, Nat.le_of_ble_eq_true rfl⟩ | ((try unfold maxLen); (try simp only [List.length_nil, List.length_cons, List.length_append]); omega) | (refine ⟨rfl, ?_⟩; (try simp only [List.length_nil, List.length_cons, List.length_append]); omega)) ?_ | intro _)); (all_goals (conv => whnf))
  exact ⟨rfl⟩
theorem calls_KeyNil (id : Int) (w : World) : Calls Tryd.prog fn_P_keys_Table_Key #[.pointer none, .int .i64 id] w fun e w' => e = .returned (.tuple #[.int .u64 0, errV 5]) ∧ Ext w w' := by
  refine pure_call [.v (.pointer none), .v (.int .i64 id)] w ok_P_keys_Table_Key (by simp) ?_
  have c1 := calls_rowNil id
  (repeat' ((conv => whnf); first | (first | refine CallK_pure (.v _) (fun w hR => c1 w) ?_ | refine QCall_pure (.v _) (fun w hR => c1 w) ?_) | (refine bcase_prop (fun h => ?_) (fun h => ?_) <;> try (exfalso; omega)) | (refine bcase_nprop (fun h => ?_) (fun h => ?_) <;> try (exfalso; omega)) | (refine bcase_intro (fun h => ?_) (fun h => ?_) <;> (try simp only [Bool.not_eq_true', Bool.not_eq_false', decide_eq_true_eq, decide_eq_false_iff_not, Bool.not_eq_true, Bool.not_eq_false, Decidable.not_not] at h)) | refine And.intro (by first | omega | exact rfl | assumption | exact ⟨rfl, rfl, rfl, rfl, rfl⟩ | exact ⟨rfl, rfl, rfl, rfl⟩ | exact ⟨rfl, by omega⟩ | exact oneAll_of rfl | exact ⟨rfl, oneAll_of rfl⟩ | exact Ref.refl _ | exact Thin.ref (.skip (Thin.refl _)) | exact Thin.ref (.skip (.skip (Thin.refl _))) | exact ⟨rfl, Nat.le_of_ble_eq_true rfl⟩ | ((try unfold maxLen); (try simp only [List.length_nil, List.length_cons, List.length_append]); omega) | (refine ⟨rfl, ?_⟩; (try simp only [List.length_nil, List.length_cons, List.length_append]); omega)) ?_ | intro _)); (all_goals (conv => whnf))
  exact ⟨rfl⟩
theorem calls_LevelNil (id : Int) (w : World) : Calls Tryd.prog fn_P_keys_Table_Level #[.pointer none, .int .i64 id] w fun e w' => e = .returned (.tuple #[.int .i64 0, errV 5]) ∧ Ext w w' := by
  refine pure_call [.v (.pointer none), .v (.int .i64 id)] w ok_P_keys_Table_Level (by simp) ?_
  have c1 := calls_rowNil id
  (repeat' ((conv => whnf); first | (first | refine CallK_pure (.v _) (fun w hR => c1 w) ?_ | refine QCall_pure (.v _) (fun w hR => c1 w) ?_) | (refine bcase_prop (fun h => ?_) (fun h => ?_) <;> try (exfalso; omega)) | (refine bcase_nprop (fun h => ?_) (fun h => ?_) <;> try (exfalso; omega)) | (refine bcase_intro (fun h => ?_) (fun h => ?_) <;> (try simp only [Bool.not_eq_true', Bool.not_eq_false', decide_eq_true_eq, decide_eq_false_iff_not, Bool.not_eq_true, Bool.not_eq_false, Decidable.not_not] at h)) | refine And.intro (by first | omega | exact rfl | assumption | exact ⟨rfl, rfl, rfl, rfl, rfl⟩ | exact ⟨rfl, rfl, rfl, rfl⟩ | exact ⟨rfl, by omega⟩ | exact oneAll_of rfl | exact ⟨rfl, oneAll_of rfl⟩ | exact Ref.refl _ | exact Thin.ref (.skip (Thin.refl _)) | exact Thin.ref (.skip (.skip (Thin.refl _))) | exact ⟨rfl, Nat.le_of_ble_eq_true rfl⟩ | ((try unfold maxLen); (try simp only [List.length_nil, List.length_cons, List.length_append]); omega) | (refine ⟨rfl, ?_⟩; (try simp only [List.length_nil, List.length_cons, List.length_append]); omega)) ?_ | intro _)); (all_goals (conv => whnf))
  exact ⟨rfl⟩
theorem calls_tStoreNil (w : World) : Calls Tryd.prog fn_P_keys_Table_Store #[.pointer none] w fun e w' => e = .returned (.pointer none) ∧ Ext w w' := by
  refine pure_call [.v (.pointer none)] w ok_P_keys_Table_Store (by simp) ?_
  (repeat' ((conv => whnf); first | (refine bcase_prop (fun h => ?_) (fun h => ?_) <;> try (exfalso; omega)) | (refine bcase_nprop (fun h => ?_) (fun h => ?_) <;> try (exfalso; omega)) | (refine bcase_intro (fun h => ?_) (fun h => ?_) <;> (try simp only [Bool.not_eq_true', Bool.not_eq_false', decide_eq_true_eq, decide_eq_false_iff_not, Bool.not_eq_true, Bool.not_eq_false, Decidable.not_not] at h)) | refine And.intro (by first | omega | exact rfl | assumption | exact ⟨rfl, rfl, rfl, rfl, rfl⟩ | exact ⟨rfl, rfl, rfl, rfl⟩ | exact ⟨rfl, by omega⟩ | exact oneAll_of rfl | exact ⟨rfl, oneAll_of rfl⟩ | exact Ref.refl _ | exact Thin.ref (.skip (Thin.refl _)) | exact Thin.ref (.skip (.skip (Thin.refl _))) | exact ⟨rfl, Nat.le_of_ble_eq_true rfl⟩ | ((try unfold maxLen); (try simp only [List.length_nil, List.length_cons, List.length_append]); omega) | (refine ⟨rfl, ?_⟩; (try simp only [List.length_nil, List.length_cons, List.length_append]); omega)) ?_ | intro _)); (all_goals (conv => whnf))
  exact ⟨rfl⟩
end Go.Proofs.YticiljgbjdcmlaaDoor
