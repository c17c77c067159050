/- The store's functions: letters, pairs, powers, rules, weights. -/
import Derived.Test.YtagoedllflalpaaSStore
namespace Go.Proofs.Ytagoedllflalpaa
open Go.EG
attribute [local irreducible] CallK QCall Go.Calls
set_option linter.unusedSimpArgs false
set_option linter.unusedVariables false
set_option maxRecDepth 20000

theorem calls_knownT (b : Nat) (S : Sto) {n : Int} (h : known S n) : SC fn_P_intern_Store_known #[pS b, .int .i64 n] b S S (.bool true) := by
  have c := calls_known b S n
  rwa [decide_eq_true (by exact h)] at c
theorem calls_knownF (b : Nat) (S : Sto) {n : Int} (h : ¬ known S n) : SC fn_P_intern_Store_known #[pS b, .int .i64 n] b S S (.bool false) := by
  have c := calls_known b S n
  rwa [decide_eq_false (by exact h)] at c
theorem calls_atN (b : Nat) (S : Sto) {n : Int} (h : known S n) (hE : S.E.length ≤ 1048576) : SC fn_P_intern_Store_at #[pS b, .int .i64 n] b S S (entV (atE S.E n)) := by
  by_cases h0 : n = 0
  · subst h0
    exact calls_at0 b S
  · have h1 := h.1
    have h2 := h.2
    obtain ⟨i, rfl⟩ : ∃ i : Nat, n = (i : Int) + 1 := ⟨n.toNat - 1, by omega⟩
    rw [atE_succ]
    exact calls_at b S i (by omega) hE

/-- The last step of Letter, Pair and Power: a rule is found, or there is no room, or it is added. -/
theorem stPut_none {S : Sto} {r : Rul} (h : idOf r S.E = 0) (h1 : S.most ≤ S.E.length) : stPut S r = (S, 0, 3) := by rw [stPut, if_pos h, if_pos h1]
theorem stPut_new {S : Sto} {r : Rul} (h : idOf r S.E = 0) (h1 : ¬ S.most ≤ S.E.length) : stPut S r = (addS S (mkE S.E r), ((S.E.length + 1 : Nat) : Int), 0) := by rw [stPut, if_pos h, if_neg h1]
theorem stPut_old {S : Sto} {r : Rul} (h : idOf r S.E ≠ 0) : stPut S r = (S, ((idOf r S.E : Nat) : Int), 0) := by rw [stPut, if_neg h]
theorem findV_none {S : Sto} {r : Rul} (h : idOf r S.E = 0) (h1 : S.most ≤ S.E.length) : findV S r = .tuple #[.int .i64 0, errV 3] := by rw [findV, if_pos h, if_pos h1]
theorem findV_new {S : Sto} {r : Rul} (h : idOf r S.E = 0) (h1 : ¬ S.most ≤ S.E.length) : findV S r = .tuple #[.int .i64 0, .nilIface] := by rw [findV, if_pos h, if_neg h1]
theorem findV_old {S : Sto} {r : Rul} (h : idOf r S.E ≠ 0) : findV S r = .tuple #[.int .i64 (idOf r S.E : Nat), .nilIface] := by rw [findV, if_neg h]

theorem calls_Letter (b : Nat) (S : Sto) (l : Nat) (hl : l < 256) (hE : S.E.length ≤ 1048576) : SC fn_P_intern_Store_Letter #[pS b, .int .u8 l] b S (stPut S (letR l)).1 (resV (stPut S (letR l)).2) := by
  intro key fp w hR
  refine part_call [.v (pS b), .v (.int .u8 l)] ok_P_intern_Store_Letter (by simp) (hR.key 77) ?_
  have c1 := calls_find b S (letR l)
  have c3 := calls_wLetter l hl
  by_cases h0 : idOf (letR l) S.E = 0
  · by_cases h1 : S.most ≤ S.E.length
    · rw [findV_none h0 h1] at c1
      rw [stPut_none h0 h1]
      (repeat' ((conv => whnf); first | (refine CallK_pack (key := 77) rfl (fun w hR h0 => c1 _ _ _ h0) ?_; rintro _ _ ⟨rfl, fp', rfl⟩; refine ⟨.v _, rfl, ?_⟩) | (refine bcase_prop (fun h => ?_) (fun h => ?_) <;> try (exfalso; omega)) | (refine bcase_nprop (fun h => ?_) (fun h => ?_) <;> try (exfalso; omega)) | (refine bcase_intro (fun h => ?_) (fun h => ?_) <;> (try simp only [Bool.not_eq_true', Bool.not_eq_false', decide_eq_true_eq, decide_eq_false_iff_not, Bool.not_eq_true, Bool.not_eq_false, Decidable.not_not] at h)) | refine And.intro (by first | omega | exact rfl | assumption | exact ⟨rfl, rfl, rfl, rfl, rfl⟩ | exact ⟨rfl, rfl, rfl, rfl⟩ | exact ⟨rfl, by omega⟩ | exact oneAll_of rfl | exact ⟨rfl, oneAll_of rfl⟩ | exact Ref.refl _ | exact Thin.ref (.skip (Thin.refl _)) | exact Thin.ref (.skip (.skip (Thin.refl _))) | exact ⟨rfl, Nat.le_of_ble_eq_true rfl⟩ | ((try unfold maxLen); (try simp only [List.length_nil, List.length_cons, List.length_append]); omega) | (refine ⟨rfl, ?_⟩; (try simp only [List.length_nil, List.length_cons, List.length_append]); omega)) ?_ | intro _)); (all_goals (conv => whnf))
      exact ⟨endP (by (repeat (first | exact Thin.nil _ | exact Thin.refl _ | refine Thin.keep rfl (fun _ h => h) ?_ | refine Thin.skip ?_))) rfl⟩
    · rw [findV_new h0 h1] at c1
      rw [stPut_new h0 h1]
      have c2 := calls_add b S (mkE S.E (letR l)) h0 hE
      (repeat' ((conv => whnf); first | (refine CallK_pack (key := 77) rfl (fun w hR h0 => c1 _ _ _ h0) ?_; rintro _ _ ⟨rfl, fp', rfl⟩; refine ⟨.v _, rfl, ?_⟩) | (refine CallK_pack (key := 77) rfl (fun w hR h0 => c2 _ _ _ h0) ?_; rintro _ _ ⟨rfl, fp', rfl⟩; refine ⟨.v _, rfl, ?_⟩) | (refine QCall_pure (.v _) (fun w hR => c3 w) ?_) | (refine bcase_prop (fun h => ?_) (fun h => ?_) <;> try (exfalso; omega)) | (refine bcase_nprop (fun h => ?_) (fun h => ?_) <;> try (exfalso; omega)) | (refine bcase_intro (fun h => ?_) (fun h => ?_) <;> (try simp only [Bool.not_eq_true', Bool.not_eq_false', decide_eq_true_eq, decide_eq_false_iff_not, Bool.not_eq_true, Bool.not_eq_false, Decidable.not_not] at h)) | refine And.intro (by first | omega | exact rfl | assumption | exact ⟨rfl, rfl, rfl, rfl, rfl⟩ | exact ⟨rfl, rfl, rfl, rfl⟩ | exact ⟨rfl, by omega⟩ | exact oneAll_of rfl | exact ⟨rfl, oneAll_of rfl⟩ | exact Ref.refl _ | exact Thin.ref (.skip (Thin.refl _)) | exact Thin.ref (.skip (.skip (Thin.refl _))) | exact ⟨rfl, Nat.le_of_ble_eq_true rfl⟩ | ((try unfold maxLen); (try simp only [List.length_nil, List.length_cons, List.length_append]); omega) | (refine ⟨rfl, ?_⟩; (try simp only [List.length_nil, List.length_cons, List.length_append]); omega)) ?_ | intro _)); (all_goals (conv => whnf))
      exact ⟨endP (by (repeat (first | exact Thin.nil _ | exact Thin.refl _ | refine Thin.keep rfl (fun _ h => h) ?_ | refine Thin.skip ?_))) rfl⟩
  · rw [findV_old h0] at c1
    rw [stPut_old h0]
    (repeat' ((conv => whnf); first | (refine CallK_pack (key := 77) rfl (fun w hR h0 => c1 _ _ _ h0) ?_; rintro _ _ ⟨rfl, fp', rfl⟩; refine ⟨.v _, rfl, ?_⟩) | (refine bcase_prop (fun h => ?_) (fun h => ?_) <;> try (exfalso; omega)) | (refine bcase_nprop (fun h => ?_) (fun h => ?_) <;> try (exfalso; omega)) | (refine bcase_intro (fun h => ?_) (fun h => ?_) <;> (try simp only [Bool.not_eq_true', Bool.not_eq_false', decide_eq_true_eq, decide_eq_false_iff_not, Bool.not_eq_true, Bool.not_eq_false, Decidable.not_not] at h)) | refine And.intro (by first | omega | exact rfl | assumption | exact ⟨rfl, rfl, rfl, rfl, rfl⟩ | exact ⟨rfl, rfl, rfl, rfl⟩ | exact ⟨rfl, by omega⟩ | exact oneAll_of rfl | exact ⟨rfl, oneAll_of rfl⟩ | exact Ref.refl _ | exact Thin.ref (.skip (Thin.refl _)) | exact Thin.ref (.skip (.skip (Thin.refl _))) | exact ⟨rfl, Nat.le_of_ble_eq_true rfl⟩ | ((try unfold maxLen); (try simp only [List.length_nil, List.length_cons, List.length_append]); omega) | (refine ⟨rfl, ?_⟩; (try simp only [List.length_nil, List.length_cons, List.length_append]); omega)) ?_ | intro _)); (all_goals (conv => whnf))
    exact ⟨endP (by (repeat (first | exact Thin.nil _ | exact Thin.refl _ | refine Thin.keep rfl (fun _ h => h) ?_ | refine Thin.skip ?_))) rfl⟩

theorem even1 {a b : Bool} {p q : Nat} (ha : a = true) (hb : b = true) (h : -1 ≤ (p : Int) - (q : Int)) : decide ((p : Int) - (q : Int) ≤ 1) = (a && b && decide (p ≤ q + 1) && decide (q ≤ p + 1)) := by
  subst ha hb
  rw [decide_eq_true (p := q ≤ p + 1) (by omega), Bool.and_true, Bool.true_and, Bool.true_and, decide_eq_decide]
  omega
theorem even2 {a b : Bool} {p q : Nat} (h : ¬ -1 ≤ (p : Int) - (q : Int)) : false = (a && b && decide (p ≤ q + 1) && decide (q ≤ p + 1)) := by
  rw [decide_eq_false (p := q ≤ p + 1) (by omega), Bool.and_false]
theorem even3 {a b : Bool} {p q : Nat} (h : b = false) : false = (a && b && decide (p ≤ q + 1) && decide (q ≤ p + 1)) := by
  subst h; simp
theorem even4 {a b : Bool} {p q : Nat} (h : a = false) : false = (a && b && decide (p ≤ q + 1) && decide (q ≤ p + 1)) := by
  subst h; simp

theorem calls_PairOk (b : Nat) (S : Sto) (i j : Int) (hi : known S i) (hj : known S j) (hi0 : i ≠ 0) (hj0 : j ≠ 0) (hE : S.E.length ≤ 1048576) (hl : (tm S.E i).len + (tm S.E j).len ≤ LM) (hd : (tm S.E i).dep ≤ 1048576) (hd' : (tm S.E j).dep ≤ 1048576) :
    SC fn_P_intern_Store_Pair #[pS b, .int .i64 i, .int .i64 j] b S (stPut S (pairR i j)).1 (resV (stPut S (pairR i j)).2) := by
  intro key fp w hR
  refine part_call [.v (pS b), .v (.int .i64 i), .v (.int .i64 j)] ok_P_intern_Store_Pair (by simp) (hR.key 77) ?_
  have c1 := calls_find b S (pairR i j)
  have c3 := calls_knownT b S hi
  have c4 := calls_knownT b S hj
  have c5 := calls_atN b S hi hE
  have c6 := calls_atN b S hj hE
  have hpe : mkE S.E (pairR i j) = ⟨pairR i j, .pr (tm S.E i) (tm S.E j)⟩ := rfl
  unfold tm at *
  generalize atE S.E i = x at *
  generalize atE S.E j = y at *
  unfold Tm.len at hl
  have c7 := calls_lAdd x.m.txt.length y.m.txt.length (by omega) (by omega)
  rw [show addV x.m.txt.length y.m.txt.length = .tuple #[.int .i64 ((x.m.txt.length + y.m.txt.length : Nat) : Int), .nilIface] from if_pos hl] at c7
  have c8 := calls_wJoin x.m.txt y.m.txt hl
  by_cases h0 : idOf (pairR i j) S.E = 0
  · by_cases h1 : S.most ≤ S.E.length
    · rw [findV_none h0 h1] at c1
      rw [stPut_none h0 h1]
      (repeat' ((conv => whnf); first | (refine CallK_pack (key := 77) rfl (fun w hR h0 => c1 _ _ _ h0) ?_; rintro _ _ ⟨rfl, fp', rfl⟩; refine ⟨.v _, rfl, ?_⟩) | (refine CallK_pack (key := 77) rfl (fun w hR h0 => c3 _ _ _ h0) ?_; rintro _ _ ⟨rfl, fp', rfl⟩; refine ⟨.v _, rfl, ?_⟩) | (refine CallK_pack (key := 77) rfl (fun w hR h0 => c4 _ _ _ h0) ?_; rintro _ _ ⟨rfl, fp', rfl⟩; refine ⟨.v _, rfl, ?_⟩) | (refine CallK_pack (key := 77) rfl (fun w hR h0 => c5 _ _ _ h0) ?_; rintro _ _ ⟨rfl, fp', rfl⟩; refine ⟨.v _, rfl, ?_⟩) | (refine CallK_pack (key := 77) rfl (fun w hR h0 => c6 _ _ _ h0) ?_; rintro _ _ ⟨rfl, fp', rfl⟩; refine ⟨.v _, rfl, ?_⟩) | (first | refine CallK_pure (.v _) (fun w hR => c7 w) ?_ | refine QCall_pure (.v _) (fun w hR => c7 w) ?_) | (refine bcase_prop (fun h => ?_) (fun h => ?_) <;> try (exfalso; omega)) | (refine bcase_nprop (fun h => ?_) (fun h => ?_) <;> try (exfalso; omega)) | (refine bcase_intro (fun h => ?_) (fun h => ?_) <;> (try simp only [Bool.not_eq_true', Bool.not_eq_false', decide_eq_true_eq, decide_eq_false_iff_not, Bool.not_eq_true, Bool.not_eq_false, Decidable.not_not] at h)) | refine And.intro (by first | omega | exact rfl | assumption | exact ⟨rfl, rfl, rfl, rfl, rfl⟩ | exact ⟨rfl, rfl, rfl, rfl⟩ | exact ⟨rfl, by omega⟩ | exact oneAll_of rfl | exact ⟨rfl, oneAll_of rfl⟩ | exact Ref.refl _ | exact Thin.ref (.skip (Thin.refl _)) | exact Thin.ref (.skip (.skip (Thin.refl _))) | exact ⟨rfl, Nat.le_of_ble_eq_true rfl⟩ | ((try unfold maxLen); (try simp only [List.length_nil, List.length_cons, List.length_append]); omega) | (refine ⟨rfl, ?_⟩; (try simp only [List.length_nil, List.length_cons, List.length_append]); omega)) ?_ | intro _)); (all_goals (conv => whnf))
      exact ⟨endP (by (repeat (first | exact Thin.nil _ | exact Thin.refl _ | refine Thin.keep rfl (fun _ h => h) ?_ | refine Thin.skip ?_))) rfl⟩
    · rw [findV_new h0 h1] at c1
      rw [stPut_new h0 h1, hpe]
      have c2 : ∀ (d' : Int) (e' : Bool), d' = ((1 + max x.m.dep y.m.dep : Nat) : Int) → e' = (x.m.evn && y.m.evn && decide (x.m.dep ≤ y.m.dep + 1) && decide (y.m.dep ≤ x.m.dep + 1)) → SC fn_P_intern_Store_add #[pS b, .agg #[.int .i64 2, .int .u8 0, .int .i64 i, .int .i64 j, .int .i64 0, .int .i64 (x.m.txt ++ y.m.txt).length, .int .i64 (linesN (x.m.txt ++ y.m.txt)), .int .i64 (headN (x.m.txt ++ y.m.txt)), .int .i64 (tailN (x.m.txt ++ y.m.txt)), .int .u64 (valN (x.m.txt ++ y.m.txt)), .int .u64 (scaleN (x.m.txt ++ y.m.txt)), .int .i64 d', .bool e']] b S (addS S ⟨pairR i j, .pr x.m y.m⟩) (.int .i64 (S.E.length + 1 : Nat)) := fun d' e' h1 h2 => by subst h1 h2; exact calls_add b S ⟨pairR i j, .pr x.m y.m⟩ h0 hE
      (repeat' ((conv => whnf); first | (refine CallK_pack (key := 77) rfl (fun w hR h0 => c1 _ _ _ h0) ?_; rintro _ _ ⟨rfl, fp', rfl⟩; refine ⟨.v _, rfl, ?_⟩) | (refine CallK_pack (key := 77) rfl (fun w hR h0 => c2 _ _ (by omega) (by first | exact even1 (by assumption) (by assumption) (by assumption) | exact even2 (by assumption) | exact even3 (by assumption) | exact even4 (by assumption)) _ _ _ h0) ?_; rintro _ _ ⟨rfl, fp', rfl⟩; refine ⟨.v _, rfl, ?_⟩) | (refine CallK_pack (key := 77) rfl (fun w hR h0 => c3 _ _ _ h0) ?_; rintro _ _ ⟨rfl, fp', rfl⟩; refine ⟨.v _, rfl, ?_⟩) | (refine CallK_pack (key := 77) rfl (fun w hR h0 => c4 _ _ _ h0) ?_; rintro _ _ ⟨rfl, fp', rfl⟩; refine ⟨.v _, rfl, ?_⟩) | (refine CallK_pack (key := 77) rfl (fun w hR h0 => c5 _ _ _ h0) ?_; rintro _ _ ⟨rfl, fp', rfl⟩; refine ⟨.v _, rfl, ?_⟩) | (refine CallK_pack (key := 77) rfl (fun w hR h0 => c6 _ _ _ h0) ?_; rintro _ _ ⟨rfl, fp', rfl⟩; refine ⟨.v _, rfl, ?_⟩) | (first | refine CallK_pure (.v _) (fun w hR => c7 w) ?_ | refine QCall_pure (.v _) (fun w hR => c7 w) ?_) | (first | refine CallK_pure (.v _) (fun w hR => c8 w) ?_ | refine QCall_pure (.v _) (fun w hR => c8 w) ?_) | (refine bcase_prop (fun h => ?_) (fun h => ?_) <;> try (exfalso; omega)) | (refine bcase_nprop (fun h => ?_) (fun h => ?_) <;> try (exfalso; omega)) | (refine bcase_intro (fun h => ?_) (fun h => ?_) <;> (try simp only [Bool.not_eq_true', Bool.not_eq_false', decide_eq_true_eq, decide_eq_false_iff_not, Bool.not_eq_true, Bool.not_eq_false, Decidable.not_not] at h)) | refine And.intro (by first | omega | exact rfl | assumption | exact ⟨rfl, rfl, rfl, rfl, rfl⟩ | exact ⟨rfl, rfl, rfl, rfl⟩ | exact ⟨rfl, by omega⟩ | exact oneAll_of rfl | exact ⟨rfl, oneAll_of rfl⟩ | exact Ref.refl _ | exact Thin.ref (.skip (Thin.refl _)) | exact Thin.ref (.skip (.skip (Thin.refl _))) | exact ⟨rfl, Nat.le_of_ble_eq_true rfl⟩ | ((try unfold maxLen); (try simp only [List.length_nil, List.length_cons, List.length_append]); omega) | (refine ⟨rfl, ?_⟩; (try simp only [List.length_nil, List.length_cons, List.length_append]); omega)) ?_ | intro _)); (all_goals (conv => whnf))
      all_goals (exact ⟨endP (by (repeat (first | exact Thin.nil _ | exact Thin.refl _ | refine Thin.keep rfl (fun _ h => h) ?_ | refine Thin.skip ?_))) rfl⟩)
  · rw [findV_old h0] at c1
    rw [stPut_old h0]
    (repeat' ((conv => whnf); first | (refine CallK_pack (key := 77) rfl (fun w hR h0 => c1 _ _ _ h0) ?_; rintro _ _ ⟨rfl, fp', rfl⟩; refine ⟨.v _, rfl, ?_⟩) | (refine CallK_pack (key := 77) rfl (fun w hR h0 => c3 _ _ _ h0) ?_; rintro _ _ ⟨rfl, fp', rfl⟩; refine ⟨.v _, rfl, ?_⟩) | (refine CallK_pack (key := 77) rfl (fun w hR h0 => c4 _ _ _ h0) ?_; rintro _ _ ⟨rfl, fp', rfl⟩; refine ⟨.v _, rfl, ?_⟩) | (refine CallK_pack (key := 77) rfl (fun w hR h0 => c5 _ _ _ h0) ?_; rintro _ _ ⟨rfl, fp', rfl⟩; refine ⟨.v _, rfl, ?_⟩) | (refine CallK_pack (key := 77) rfl (fun w hR h0 => c6 _ _ _ h0) ?_; rintro _ _ ⟨rfl, fp', rfl⟩; refine ⟨.v _, rfl, ?_⟩) | (first | refine CallK_pure (.v _) (fun w hR => c7 w) ?_ | refine QCall_pure (.v _) (fun w hR => c7 w) ?_) | (refine bcase_prop (fun h => ?_) (fun h => ?_) <;> try (exfalso; omega)) | (refine bcase_nprop (fun h => ?_) (fun h => ?_) <;> try (exfalso; omega)) | (refine bcase_intro (fun h => ?_) (fun h => ?_) <;> (try simp only [Bool.not_eq_true', Bool.not_eq_false', decide_eq_true_eq, decide_eq_false_iff_not, Bool.not_eq_true, Bool.not_eq_false, Decidable.not_not] at h)) | refine And.intro (by first | omega | exact rfl | assumption | exact ⟨rfl, rfl, rfl, rfl, rfl⟩ | exact ⟨rfl, rfl, rfl, rfl⟩ | exact ⟨rfl, by omega⟩ | exact oneAll_of rfl | exact ⟨rfl, oneAll_of rfl⟩ | exact Ref.refl _ | exact Thin.ref (.skip (Thin.refl _)) | exact Thin.ref (.skip (.skip (Thin.refl _))) | exact ⟨rfl, Nat.le_of_ble_eq_true rfl⟩ | ((try unfold maxLen); (try simp only [List.length_nil, List.length_cons, List.length_append]); omega) | (refine ⟨rfl, ?_⟩; (try simp only [List.length_nil, List.length_cons, List.length_append]); omega)) ?_ | intro _)); (all_goals (conv => whnf))
    exact ⟨endP (by (repeat (first | exact Thin.nil _ | exact Thin.refl _ | refine Thin.keep rfl (fun _ h => h) ?_ | refine Thin.skip ?_))) rfl⟩

theorem calls_Pair (b : Nat) (S : Sto) (hw : WF S) (i j : Int) : SC fn_P_intern_Store_Pair #[pS b, .int .i64 i, .int .i64 j] b S (stPair S i j).1 (resV (stPair S i j).2) := by
  unfold stPair
  have hE := hw.small
  by_cases hu : ¬ known S i ∨ ¬ known S j
  · rw [if_pos hu]
    intro key fp w hR
    refine part_call [.v (pS b), .v (.int .i64 i), .v (.int .i64 j)] ok_P_intern_Store_Pair (by simp) (hR.key 77) ?_
    by_cases hi : known S i
    · have c1 := calls_knownT b S hi
      have c2 := calls_knownF b S (by rcases hu with h | h; exact absurd hi h; exact h)
      (repeat' ((conv => whnf); first | (refine CallK_pack (key := 77) rfl (fun w hR h0 => c1 _ _ _ h0) ?_; rintro _ _ ⟨rfl, fp', rfl⟩; refine ⟨.v _, rfl, ?_⟩) | (refine CallK_pack (key := 77) rfl (fun w hR h0 => c2 _ _ _ h0) ?_; rintro _ _ ⟨rfl, fp', rfl⟩; refine ⟨.v _, rfl, ?_⟩) | (refine bcase_prop (fun h => ?_) (fun h => ?_) <;> try (exfalso; omega)) | (refine bcase_nprop (fun h => ?_) (fun h => ?_) <;> try (exfalso; omega)) | (refine bcase_intro (fun h => ?_) (fun h => ?_) <;> (try simp only [Bool.not_eq_true', Bool.not_eq_false', decide_eq_true_eq, decide_eq_false_iff_not, Bool.not_eq_true, Bool.not_eq_false, Decidable.not_not] at h)) | refine And.intro (by first | omega | exact rfl | assumption | exact ⟨rfl, rfl, rfl, rfl, rfl⟩ | exact ⟨rfl, rfl, rfl, rfl⟩ | exact ⟨rfl, by omega⟩ | exact oneAll_of rfl | exact ⟨rfl, oneAll_of rfl⟩ | exact Ref.refl _ | exact Thin.ref (.skip (Thin.refl _)) | exact Thin.ref (.skip (.skip (Thin.refl _))) | exact ⟨rfl, Nat.le_of_ble_eq_true rfl⟩ | ((try unfold maxLen); (try simp only [List.length_nil, List.length_cons, List.length_append]); omega) | (refine ⟨rfl, ?_⟩; (try simp only [List.length_nil, List.length_cons, List.length_append]); omega)) ?_ | intro _)); (all_goals (conv => whnf))
      exact ⟨endP (by (repeat (first | exact Thin.nil _ | exact Thin.refl _ | refine Thin.keep rfl (fun _ h => h) ?_ | refine Thin.skip ?_))) rfl⟩
    · have c1 := calls_knownF b S hi
      (repeat' ((conv => whnf); first | (refine CallK_pack (key := 77) rfl (fun w hR h0 => c1 _ _ _ h0) ?_; rintro _ _ ⟨rfl, fp', rfl⟩; refine ⟨.v _, rfl, ?_⟩) | (refine bcase_prop (fun h => ?_) (fun h => ?_) <;> try (exfalso; omega)) | (refine bcase_nprop (fun h => ?_) (fun h => ?_) <;> try (exfalso; omega)) | (refine bcase_intro (fun h => ?_) (fun h => ?_) <;> (try simp only [Bool.not_eq_true', Bool.not_eq_false', decide_eq_true_eq, decide_eq_false_iff_not, Bool.not_eq_true, Bool.not_eq_false, Decidable.not_not] at h)) | refine And.intro (by first | omega | exact rfl | assumption | exact ⟨rfl, rfl, rfl, rfl, rfl⟩ | exact ⟨rfl, rfl, rfl, rfl⟩ | exact ⟨rfl, by omega⟩ | exact oneAll_of rfl | exact ⟨rfl, oneAll_of rfl⟩ | exact Ref.refl _ | exact Thin.ref (.skip (Thin.refl _)) | exact Thin.ref (.skip (.skip (Thin.refl _))) | exact ⟨rfl, Nat.le_of_ble_eq_true rfl⟩ | ((try unfold maxLen); (try simp only [List.length_nil, List.length_cons, List.length_append]); omega) | (refine ⟨rfl, ?_⟩; (try simp only [List.length_nil, List.length_cons, List.length_append]); omega)) ?_ | intro _)); (all_goals (conv => whnf))
      exact ⟨endP (by (repeat (first | exact Thin.nil _ | exact Thin.refl _ | refine Thin.keep rfl (fun _ h => h) ?_ | refine Thin.skip ?_))) rfl⟩
  · rw [if_neg hu]
    have hi : known S i := Decidable.byContradiction fun h => hu (.inl h)
    have hj : known S j := Decidable.byContradiction fun h => hu (.inr h)
    have c1 := calls_knownT b S hi
    have c2 := calls_knownT b S hj
    by_cases hi0 : i = 0
    · rw [if_pos hi0]
      intro key fp w hR
      refine part_call [.v (pS b), .v (.int .i64 i), .v (.int .i64 j)] ok_P_intern_Store_Pair (by simp) (hR.key 77) ?_
      (repeat' ((conv => whnf); first | (refine CallK_pack (key := 77) rfl (fun w hR h0 => c1 _ _ _ h0) ?_; rintro _ _ ⟨rfl, fp', rfl⟩; refine ⟨.v _, rfl, ?_⟩) | (refine CallK_pack (key := 77) rfl (fun w hR h0 => c2 _ _ _ h0) ?_; rintro _ _ ⟨rfl, fp', rfl⟩; refine ⟨.v _, rfl, ?_⟩) | (refine bcase_prop (fun h => ?_) (fun h => ?_) <;> try (exfalso; omega)) | (refine bcase_nprop (fun h => ?_) (fun h => ?_) <;> try (exfalso; omega)) | (refine bcase_intro (fun h => ?_) (fun h => ?_) <;> (try simp only [Bool.not_eq_true', Bool.not_eq_false', decide_eq_true_eq, decide_eq_false_iff_not, Bool.not_eq_true, Bool.not_eq_false, Decidable.not_not] at h)) | refine And.intro (by first | omega | exact rfl | assumption | exact ⟨rfl, rfl, rfl, rfl, rfl⟩ | exact ⟨rfl, rfl, rfl, rfl⟩ | exact ⟨rfl, by omega⟩ | exact oneAll_of rfl | exact ⟨rfl, oneAll_of rfl⟩ | exact Ref.refl _ | exact Thin.ref (.skip (Thin.refl _)) | exact Thin.ref (.skip (.skip (Thin.refl _))) | exact ⟨rfl, Nat.le_of_ble_eq_true rfl⟩ | ((try unfold maxLen); (try simp only [List.length_nil, List.length_cons, List.length_append]); omega) | (refine ⟨rfl, ?_⟩; (try simp only [List.length_nil, List.length_cons, List.length_append]); omega)) ?_ | intro _)); (all_goals (conv => whnf))
      exact ⟨endP (by (repeat (first | exact Thin.nil _ | exact Thin.refl _ | refine Thin.keep rfl (fun _ h => h) ?_ | refine Thin.skip ?_))) rfl⟩
    · rw [if_neg hi0]
      by_cases hj0 : j = 0
      · rw [if_pos hj0]
        intro key fp w hR
        refine part_call [.v (pS b), .v (.int .i64 i), .v (.int .i64 j)] ok_P_intern_Store_Pair (by simp) (hR.key 77) ?_
        (repeat' ((conv => whnf); first | (refine CallK_pack (key := 77) rfl (fun w hR h0 => c1 _ _ _ h0) ?_; rintro _ _ ⟨rfl, fp', rfl⟩; refine ⟨.v _, rfl, ?_⟩) | (refine CallK_pack (key := 77) rfl (fun w hR h0 => c2 _ _ _ h0) ?_; rintro _ _ ⟨rfl, fp', rfl⟩; refine ⟨.v _, rfl, ?_⟩) | (refine bcase_prop (fun h => ?_) (fun h => ?_) <;> try (exfalso; omega)) | (refine bcase_nprop (fun h => ?_) (fun h => ?_) <;> try (exfalso; omega)) | (refine bcase_intro (fun h => ?_) (fun h => ?_) <;> (try simp only [Bool.not_eq_true', Bool.not_eq_false', decide_eq_true_eq, decide_eq_false_iff_not, Bool.not_eq_true, Bool.not_eq_false, Decidable.not_not] at h)) | refine And.intro (by first | omega | exact rfl | assumption | exact ⟨rfl, rfl, rfl, rfl, rfl⟩ | exact ⟨rfl, rfl, rfl, rfl⟩ | exact ⟨rfl, by omega⟩ | exact oneAll_of rfl | exact ⟨rfl, oneAll_of rfl⟩ | exact Ref.refl _ | exact Thin.ref (.skip (Thin.refl _)) | exact Thin.ref (.skip (.skip (Thin.refl _))) | exact ⟨rfl, Nat.le_of_ble_eq_true rfl⟩ | ((try unfold maxLen); (try simp only [List.length_nil, List.length_cons, List.length_append]); omega) | (refine ⟨rfl, ?_⟩; (try simp only [List.length_nil, List.length_cons, List.length_append]); omega)) ?_ | intro _)); (all_goals (conv => whnf))
        exact ⟨endP (by (repeat (first | exact Thin.nil _ | exact Thin.refl _ | refine Thin.keep rfl (fun _ h => h) ?_ | refine Thin.skip ?_))) rfl⟩
      · rw [if_neg hj0]
        by_cases hl : LM < (tm S.E i).len + (tm S.E j).len
        · rw [if_pos hl]
          intro key fp w hR
          refine part_call [.v (pS b), .v (.int .i64 i), .v (.int .i64 j)] ok_P_intern_Store_Pair (by simp) (hR.key 77) ?_
          have c5 := calls_atN b S hi hE
          have c6 := calls_atN b S hj hE
          have l1 := hw.le hi.2
          have l2 := hw.le hj.2
          unfold tm at *
          generalize atE S.E i = x at *
          generalize atE S.E j = y at *
          unfold Tm.len at hl l1 l2
          have c7 := calls_lAdd x.m.txt.length y.m.txt.length l1 l2
          rw [show addV x.m.txt.length y.m.txt.length = .tuple #[.int .i64 0, errV 2] from if_neg (by omega)] at c7
          (repeat' ((conv => whnf); first | (refine CallK_pack (key := 77) rfl (fun w hR h0 => c1 _ _ _ h0) ?_; rintro _ _ ⟨rfl, fp', rfl⟩; refine ⟨.v _, rfl, ?_⟩) | (refine CallK_pack (key := 77) rfl (fun w hR h0 => c2 _ _ _ h0) ?_; rintro _ _ ⟨rfl, fp', rfl⟩; refine ⟨.v _, rfl, ?_⟩) | (refine CallK_pack (key := 77) rfl (fun w hR h0 => c5 _ _ _ h0) ?_; rintro _ _ ⟨rfl, fp', rfl⟩; refine ⟨.v _, rfl, ?_⟩) | (refine CallK_pack (key := 77) rfl (fun w hR h0 => c6 _ _ _ h0) ?_; rintro _ _ ⟨rfl, fp', rfl⟩; refine ⟨.v _, rfl, ?_⟩) | (first | refine CallK_pure (.v _) (fun w hR => c7 w) ?_ | refine QCall_pure (.v _) (fun w hR => c7 w) ?_) | (refine bcase_prop (fun h => ?_) (fun h => ?_) <;> try (exfalso; omega)) | (refine bcase_nprop (fun h => ?_) (fun h => ?_) <;> try (exfalso; omega)) | (refine bcase_intro (fun h => ?_) (fun h => ?_) <;> (try simp only [Bool.not_eq_true', Bool.not_eq_false', decide_eq_true_eq, decide_eq_false_iff_not, Bool.not_eq_true, Bool.not_eq_false, Decidable.not_not] at h)) | refine And.intro (by first | omega | exact rfl | assumption | exact ⟨rfl, rfl, rfl, rfl, rfl⟩ | exact ⟨rfl, rfl, rfl, rfl⟩ | exact ⟨rfl, by omega⟩ | exact oneAll_of rfl | exact ⟨rfl, oneAll_of rfl⟩ | exact Ref.refl _ | exact Thin.ref (.skip (Thin.refl _)) | exact Thin.ref (.skip (.skip (Thin.refl _))) | exact ⟨rfl, Nat.le_of_ble_eq_true rfl⟩ | ((try unfold maxLen); (try simp only [List.length_nil, List.length_cons, List.length_append]); omega) | (refine ⟨rfl, ?_⟩; (try simp only [List.length_nil, List.length_cons, List.length_append]); omega)) ?_ | intro _)); (all_goals (conv => whnf))
          exact ⟨endP (by (repeat (first | exact Thin.nil _ | exact Thin.refl _ | refine Thin.keep rfl (fun _ h => h) ?_ | refine Thin.skip ?_))) rfl⟩
        · rw [if_neg hl]
          exact calls_PairOk b S i j hi hj hi0 hj0 hE (by omega) (hw.dep hi.2) (hw.dep hj.2)

theorem calls_Power (b : Nat) (S : Sto) (hw : WF S) (i k : Int) (hk : k ≤ 9223372036854775807) : SC fn_P_intern_Store_Power #[pS b, .int .i64 i, .int .i64 k] b S (stPower S i k).1 (resV (stPower S i k).2) := by
  unfold stPower
  have hE := hw.small
  by_cases hi : known S i
  case neg =>
    rw [if_pos (.inl hi)]
    have c1 := calls_knownF b S hi
    intro key fp w hR
    refine part_call [.v (pS b), .v (.int .i64 i), .v (.int .i64 k)] ok_P_intern_Store_Power (by simp) (hR.key 77) ?_
    (repeat' ((conv => whnf); first | (refine CallK_pack (key := 77) rfl (fun w hR h0 => c1 _ _ _ h0) ?_; rintro _ _ ⟨rfl, fp', rfl⟩; refine ⟨.v _, rfl, ?_⟩) | (refine bcase_prop (fun h => ?_) (fun h => ?_) <;> try (exfalso; omega)) | (refine bcase_nprop (fun h => ?_) (fun h => ?_) <;> try (exfalso; omega)) | (refine bcase_intro (fun h => ?_) (fun h => ?_) <;> (try simp only [Bool.not_eq_true', Bool.not_eq_false', decide_eq_true_eq, decide_eq_false_iff_not, Bool.not_eq_true, Bool.not_eq_false, Decidable.not_not] at h)) | refine And.intro (by first | omega | exact rfl | assumption | exact ⟨rfl, rfl, rfl, rfl, rfl⟩ | exact ⟨rfl, rfl, rfl, rfl⟩ | exact ⟨rfl, by omega⟩ | exact oneAll_of rfl | exact ⟨rfl, oneAll_of rfl⟩ | exact Ref.refl _ | exact Thin.ref (.skip (Thin.refl _)) | exact Thin.ref (.skip (.skip (Thin.refl _))) | exact ⟨rfl, Nat.le_of_ble_eq_true rfl⟩ | ((try unfold maxLen); (try simp only [List.length_nil, List.length_cons, List.length_append]); omega) | (refine ⟨rfl, ?_⟩; (try simp only [List.length_nil, List.length_cons, List.length_append]); omega)) ?_ | intro _)); (all_goals (conv => whnf))
    exact ⟨endP (by (repeat (first | exact Thin.nil _ | exact Thin.refl _ | refine Thin.keep rfl (fun _ h => h) ?_ | refine Thin.skip ?_))) rfl⟩
  have c1 := calls_knownT b S hi
  by_cases hk0 : k < 0
  · rw [if_pos (.inr hk0)]
    intro key fp w hR
    refine part_call [.v (pS b), .v (.int .i64 i), .v (.int .i64 k)] ok_P_intern_Store_Power (by simp) (hR.key 77) ?_
    (repeat' ((conv => whnf); first | (refine CallK_pack (key := 77) rfl (fun w hR h0 => c1 _ _ _ h0) ?_; rintro _ _ ⟨rfl, fp', rfl⟩; refine ⟨.v _, rfl, ?_⟩) | (refine bcase_prop (fun h => ?_) (fun h => ?_) <;> try (exfalso; omega)) | (refine bcase_nprop (fun h => ?_) (fun h => ?_) <;> try (exfalso; omega)) | (refine bcase_intro (fun h => ?_) (fun h => ?_) <;> (try simp only [Bool.not_eq_true', Bool.not_eq_false', decide_eq_true_eq, decide_eq_false_iff_not, Bool.not_eq_true, Bool.not_eq_false, Decidable.not_not] at h)) | refine And.intro (by first | omega | exact rfl | assumption | exact ⟨rfl, rfl, rfl, rfl, rfl⟩ | exact ⟨rfl, rfl, rfl, rfl⟩ | exact ⟨rfl, by omega⟩ | exact oneAll_of rfl | exact ⟨rfl, oneAll_of rfl⟩ | exact Ref.refl _ | exact Thin.ref (.skip (Thin.refl _)) | exact Thin.ref (.skip (.skip (Thin.refl _))) | exact ⟨rfl, Nat.le_of_ble_eq_true rfl⟩ | ((try unfold maxLen); (try simp only [List.length_nil, List.length_cons, List.length_append]); omega) | (refine ⟨rfl, ?_⟩; (try simp only [List.length_nil, List.length_cons, List.length_append]); omega)) ?_ | intro _)); (all_goals (conv => whnf))
    exact ⟨endP (by (repeat (first | exact Thin.nil _ | exact Thin.refl _ | refine Thin.keep rfl (fun _ h => h) ?_ | refine Thin.skip ?_))) rfl⟩
  · rw [if_neg (by rintro (h | h); exact h hi; exact hk0 h)]
    by_cases hz : k = 0 ∨ i = 0
    · rw [if_pos hz]
      intro key fp w hR
      refine part_call [.v (pS b), .v (.int .i64 i), .v (.int .i64 k)] ok_P_intern_Store_Power (by simp) (hR.key 77) ?_
      (repeat' ((conv => whnf); first | (refine CallK_pack (key := 77) rfl (fun w hR h0 => c1 _ _ _ h0) ?_; rintro _ _ ⟨rfl, fp', rfl⟩; refine ⟨.v _, rfl, ?_⟩) | (refine bcase_prop (fun h => ?_) (fun h => ?_) <;> try (exfalso; omega)) | (refine bcase_nprop (fun h => ?_) (fun h => ?_) <;> try (exfalso; omega)) | (refine bcase_intro (fun h => ?_) (fun h => ?_) <;> (try simp only [Bool.not_eq_true', Bool.not_eq_false', decide_eq_true_eq, decide_eq_false_iff_not, Bool.not_eq_true, Bool.not_eq_false, Decidable.not_not] at h)) | refine And.intro (by first | omega | exact rfl | assumption | exact ⟨rfl, rfl, rfl, rfl, rfl⟩ | exact ⟨rfl, rfl, rfl, rfl⟩ | exact ⟨rfl, by omega⟩ | exact oneAll_of rfl | exact ⟨rfl, oneAll_of rfl⟩ | exact Ref.refl _ | exact Thin.ref (.skip (Thin.refl _)) | exact Thin.ref (.skip (.skip (Thin.refl _))) | exact ⟨rfl, Nat.le_of_ble_eq_true rfl⟩ | ((try unfold maxLen); (try simp only [List.length_nil, List.length_cons, List.length_append]); omega) | (refine ⟨rfl, ?_⟩; (try simp only [List.length_nil, List.length_cons, List.length_append]); omega)) ?_ | intro _)); (all_goals (conv => whnf))
      all_goals first | (exfalso; omega) | exact ⟨endP (by (repeat (first | exact Thin.nil _ | exact Thin.refl _ | refine Thin.keep rfl (fun _ h => h) ?_ | refine Thin.skip ?_))) rfl⟩
    · rw [if_neg hz]
      by_cases h1 : k = 1
      · rw [if_pos h1]
        intro key fp w hR
        refine part_call [.v (pS b), .v (.int .i64 i), .v (.int .i64 k)] ok_P_intern_Store_Power (by simp) (hR.key 77) ?_
        (repeat' ((conv => whnf); first | (refine CallK_pack (key := 77) rfl (fun w hR h0 => c1 _ _ _ h0) ?_; rintro _ _ ⟨rfl, fp', rfl⟩; refine ⟨.v _, rfl, ?_⟩) | (refine bcase_prop (fun h => ?_) (fun h => ?_) <;> try (exfalso; omega)) | (refine bcase_nprop (fun h => ?_) (fun h => ?_) <;> try (exfalso; omega)) | (refine bcase_intro (fun h => ?_) (fun h => ?_) <;> (try simp only [Bool.not_eq_true', Bool.not_eq_false', decide_eq_true_eq, decide_eq_false_iff_not, Bool.not_eq_true, Bool.not_eq_false, Decidable.not_not] at h)) | refine And.intro (by first | omega | exact rfl | assumption | exact ⟨rfl, rfl, rfl, rfl, rfl⟩ | exact ⟨rfl, rfl, rfl, rfl⟩ | exact ⟨rfl, by omega⟩ | exact oneAll_of rfl | exact ⟨rfl, oneAll_of rfl⟩ | exact Ref.refl _ | exact Thin.ref (.skip (Thin.refl _)) | exact Thin.ref (.skip (.skip (Thin.refl _))) | exact ⟨rfl, Nat.le_of_ble_eq_true rfl⟩ | ((try unfold maxLen); (try simp only [List.length_nil, List.length_cons, List.length_append]); omega) | (refine ⟨rfl, ?_⟩; (try simp only [List.length_nil, List.length_cons, List.length_append]); omega)) ?_ | intro _)); (all_goals (conv => whnf))
        exact ⟨endP (by (repeat (first | exact Thin.nil _ | exact Thin.refl _ | refine Thin.keep rfl (fun _ h => h) ?_ | refine Thin.skip ?_))) rfl⟩
      · rw [if_neg h1]
        have l1 := hw.le hi.2
        have c5 := calls_atN b S hi hE
        obtain ⟨k', hk'⟩ : ∃ k' : Nat, k = k' := ⟨k.toNat, by omega⟩
        have hpe : mkE S.E (powR i k) = ⟨powR i k, .pw (tm S.E i) k.toNat⟩ := rfl
        have hdep := hw.dep hi.2
        by_cases hl : LM < (tm S.E i).len * k.toNat
        · rw [if_pos hl]
          intro key fp w hR
          refine part_call [.v (pS b), .v (.int .i64 i), .v (.int .i64 k)] ok_P_intern_Store_Power (by simp) (hR.key 77) ?_
          unfold tm at *
          generalize atE S.E i = x at *
          unfold Tm.len at hl l1
          subst hk'
          rw [Int.toNat_natCast] at hl
          have c7 := calls_lMul x.m.txt.length k' l1 (by omega)
          rw [show mulV x.m.txt.length k' = .tuple #[.int .i64 0, errV 2] from if_neg (by omega)] at c7
          (repeat' ((conv => whnf); first | (refine CallK_pack (key := 77) rfl (fun w hR h0 => c1 _ _ _ h0) ?_; rintro _ _ ⟨rfl, fp', rfl⟩; refine ⟨.v _, rfl, ?_⟩) | (refine CallK_pack (key := 77) rfl (fun w hR h0 => c5 _ _ _ h0) ?_; rintro _ _ ⟨rfl, fp', rfl⟩; refine ⟨.v _, rfl, ?_⟩) | (first | refine CallK_pure (.v _) (fun w hR => c7 w) ?_ | refine QCall_pure (.v _) (fun w hR => c7 w) ?_) | (refine bcase_prop (fun h => ?_) (fun h => ?_) <;> try (exfalso; omega)) | (refine bcase_nprop (fun h => ?_) (fun h => ?_) <;> try (exfalso; omega)) | (refine bcase_intro (fun h => ?_) (fun h => ?_) <;> (try simp only [Bool.not_eq_true', Bool.not_eq_false', decide_eq_true_eq, decide_eq_false_iff_not, Bool.not_eq_true, Bool.not_eq_false, Decidable.not_not] at h)) | refine And.intro (by first | omega | exact rfl | assumption | exact ⟨rfl, rfl, rfl, rfl, rfl⟩ | exact ⟨rfl, rfl, rfl, rfl⟩ | exact ⟨rfl, by omega⟩ | exact oneAll_of rfl | exact ⟨rfl, oneAll_of rfl⟩ | exact Ref.refl _ | exact Thin.ref (.skip (Thin.refl _)) | exact Thin.ref (.skip (.skip (Thin.refl _))) | exact ⟨rfl, Nat.le_of_ble_eq_true rfl⟩ | ((try unfold maxLen); (try simp only [List.length_nil, List.length_cons, List.length_append]); omega) | (refine ⟨rfl, ?_⟩; (try simp only [List.length_nil, List.length_cons, List.length_append]); omega)) ?_ | intro _)); (all_goals (conv => whnf))
          exact ⟨endP (by (repeat (first | exact Thin.nil _ | exact Thin.refl _ | refine Thin.keep rfl (fun _ h => h) ?_ | refine Thin.skip ?_))) rfl⟩
        · rw [if_neg hl]
          intro key fp w hR
          refine part_call [.v (pS b), .v (.int .i64 i), .v (.int .i64 k)] ok_P_intern_Store_Power (by simp) (hR.key 77) ?_
          have c2 := calls_find b S (powR i k)
          unfold tm at *
          generalize atE S.E i = x at *
          unfold Tm.len at hl l1
          subst hk'
          rw [Int.toNat_natCast] at hl hpe
          have c7 := calls_lMul x.m.txt.length k' l1 (by omega)
          rw [show mulV x.m.txt.length k' = .tuple #[.int .i64 ((x.m.txt.length * k' : Nat) : Int), .nilIface] from if_pos (by omega)] at c7
          have c8 := calls_wRepeat x.m.txt k' (by omega) (by omega) l1
          by_cases h0 : idOf (powR i k') S.E = 0
          · by_cases h1 : S.most ≤ S.E.length
            · rw [findV_none h0 h1] at c2
              rw [stPut_none h0 h1]
              (repeat' ((conv => whnf); first | (refine CallK_pack (key := 77) rfl (fun w hR h0 => c1 _ _ _ h0) ?_; rintro _ _ ⟨rfl, fp', rfl⟩; refine ⟨.v _, rfl, ?_⟩) | (refine CallK_pack (key := 77) rfl (fun w hR h0 => c5 _ _ _ h0) ?_; rintro _ _ ⟨rfl, fp', rfl⟩; refine ⟨.v _, rfl, ?_⟩) | (first | refine CallK_pure (.v _) (fun w hR => c7 w) ?_ | refine QCall_pure (.v _) (fun w hR => c7 w) ?_) | (refine CallK_pack (key := 77) rfl (fun w hR h0 => c2 _ _ _ h0) ?_; rintro _ _ ⟨rfl, fp', rfl⟩; refine ⟨.v _, rfl, ?_⟩) | (refine bcase_prop (fun h => ?_) (fun h => ?_) <;> try (exfalso; omega)) | (refine bcase_nprop (fun h => ?_) (fun h => ?_) <;> try (exfalso; omega)) | (refine bcase_intro (fun h => ?_) (fun h => ?_) <;> (try simp only [Bool.not_eq_true', Bool.not_eq_false', decide_eq_true_eq, decide_eq_false_iff_not, Bool.not_eq_true, Bool.not_eq_false, Decidable.not_not] at h)) | refine And.intro (by first | omega | exact rfl | assumption | exact ⟨rfl, rfl, rfl, rfl, rfl⟩ | exact ⟨rfl, rfl, rfl, rfl⟩ | exact ⟨rfl, by omega⟩ | exact oneAll_of rfl | exact ⟨rfl, oneAll_of rfl⟩ | exact Ref.refl _ | exact Thin.ref (.skip (Thin.refl _)) | exact Thin.ref (.skip (.skip (Thin.refl _))) | exact ⟨rfl, Nat.le_of_ble_eq_true rfl⟩ | ((try unfold maxLen); (try simp only [List.length_nil, List.length_cons, List.length_append]); omega) | (refine ⟨rfl, ?_⟩; (try simp only [List.length_nil, List.length_cons, List.length_append]); omega)) ?_ | intro _)); (all_goals (conv => whnf))
              exact ⟨endP (by (repeat (first | exact Thin.nil _ | exact Thin.refl _ | refine Thin.keep rfl (fun _ h => h) ?_ | refine Thin.skip ?_))) rfl⟩
            · rw [findV_new h0 h1] at c2
              rw [stPut_new h0 h1, hpe]
              have c3 := calls_add b S ⟨powR i k', .pw x.m k'⟩ h0 hE
              have q1 : (1 : Int) + (x.m.dep : Int) = ((1 + x.m.dep : Nat) : Int) := by omega
              (repeat' ((conv => whnf); first | rw [q1] | (refine CallK_pack (key := 77) rfl (fun w hR h0 => c1 _ _ _ h0) ?_; rintro _ _ ⟨rfl, fp', rfl⟩; refine ⟨.v _, rfl, ?_⟩) | (refine CallK_pack (key := 77) rfl (fun w hR h0 => c5 _ _ _ h0) ?_; rintro _ _ ⟨rfl, fp', rfl⟩; refine ⟨.v _, rfl, ?_⟩) | (first | refine CallK_pure (.v _) (fun w hR => c7 w) ?_ | refine QCall_pure (.v _) (fun w hR => c7 w) ?_) | (first | refine CallK_pure (.v _) (fun w hR => c8 w) ?_ | refine QCall_pure (.v _) (fun w hR => c8 w) ?_) | (refine CallK_pack (key := 77) rfl (fun w hR h0 => c2 _ _ _ h0) ?_; rintro _ _ ⟨rfl, fp', rfl⟩; refine ⟨.v _, rfl, ?_⟩) | (refine CallK_pack (key := 77) rfl (fun w hR h0 => c3 _ _ _ h0) ?_; rintro _ _ ⟨rfl, fp', rfl⟩; refine ⟨.v _, rfl, ?_⟩) | (refine bcase_prop (fun h => ?_) (fun h => ?_) <;> try (exfalso; omega)) | (refine bcase_nprop (fun h => ?_) (fun h => ?_) <;> try (exfalso; omega)) | (refine bcase_intro (fun h => ?_) (fun h => ?_) <;> (try simp only [Bool.not_eq_true', Bool.not_eq_false', decide_eq_true_eq, decide_eq_false_iff_not, Bool.not_eq_true, Bool.not_eq_false, Decidable.not_not] at h)) | refine And.intro (by first | omega | exact rfl | assumption | exact ⟨rfl, rfl, rfl, rfl, rfl⟩ | exact ⟨rfl, rfl, rfl, rfl⟩ | exact ⟨rfl, by omega⟩ | exact oneAll_of rfl | exact ⟨rfl, oneAll_of rfl⟩ | exact Ref.refl _ | exact Thin.ref (.skip (Thin.refl _)) | exact Thin.ref (.skip (.skip (Thin.refl _))) | exact ⟨rfl, Nat.le_of_ble_eq_true rfl⟩ | ((try unfold maxLen); (try simp only [List.length_nil, List.length_cons, List.length_append]); omega) | (refine ⟨rfl, ?_⟩; (try simp only [List.length_nil, List.length_cons, List.length_append]); omega)) ?_ | intro _)); (all_goals (conv => whnf))
              exact ⟨endP (by (repeat (first | exact Thin.nil _ | exact Thin.refl _ | refine Thin.keep rfl (fun _ h => h) ?_ | refine Thin.skip ?_))) rfl⟩
          · rw [findV_old h0] at c2
            rw [stPut_old h0]
            (repeat' ((conv => whnf); first | (refine CallK_pack (key := 77) rfl (fun w hR h0 => c1 _ _ _ h0) ?_; rintro _ _ ⟨rfl, fp', rfl⟩; refine ⟨.v _, rfl, ?_⟩) | (refine CallK_pack (key := 77) rfl (fun w hR h0 => c5 _ _ _ h0) ?_; rintro _ _ ⟨rfl, fp', rfl⟩; refine ⟨.v _, rfl, ?_⟩) | (first | refine CallK_pure (.v _) (fun w hR => c7 w) ?_ | refine QCall_pure (.v _) (fun w hR => c7 w) ?_) | (refine CallK_pack (key := 77) rfl (fun w hR h0 => c2 _ _ _ h0) ?_; rintro _ _ ⟨rfl, fp', rfl⟩; refine ⟨.v _, rfl, ?_⟩) | (refine bcase_prop (fun h => ?_) (fun h => ?_) <;> try (exfalso; omega)) | (refine bcase_nprop (fun h => ?_) (fun h => ?_) <;> try (exfalso; omega)) | (refine bcase_intro (fun h => ?_) (fun h => ?_) <;> (try simp only [Bool.not_eq_true', Bool.not_eq_false', decide_eq_true_eq, decide_eq_false_iff_not, Bool.not_eq_true, Bool.not_eq_false, Decidable.not_not] at h)) | refine And.intro (by first | omega | exact rfl | assumption | exact ⟨rfl, rfl, rfl, rfl, rfl⟩ | exact ⟨rfl, rfl, rfl, rfl⟩ | exact ⟨rfl, by omega⟩ | exact oneAll_of rfl | exact ⟨rfl, oneAll_of rfl⟩ | exact Ref.refl _ | exact Thin.ref (.skip (Thin.refl _)) | exact Thin.ref (.skip (.skip (Thin.refl _))) | exact ⟨rfl, Nat.le_of_ble_eq_true rfl⟩ | ((try unfold maxLen); (try simp only [List.length_nil, List.length_cons, List.length_append]); omega) | (refine ⟨rfl, ?_⟩; (try simp only [List.length_nil, List.length_cons, List.length_append]); omega)) ?_ | intro _)); (all_goals (conv => whnf))
            exact ⟨endP (by (repeat (first | exact Thin.nil _ | exact Thin.refl _ | refine Thin.keep rfl (fun _ h => h) ?_ | refine Thin.skip ?_))) rfl⟩
end Go.Proofs.Ytagoedllflalpaa
