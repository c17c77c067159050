/- The references' functions on rules and grammars; errors' numbers. -/
import Derived.Test.YticiljgbjdcmlaaDoorSImport
namespace Go.Proofs.YticiljgbjdcmlaaDoor
open Go.EG
attribute [local irreducible] CallK QCall Go.Calls
set_option linter.unusedSimpArgs false
set_option linter.unusedVariables false
set_option maxRecDepth 20000
set_option maxHeartbeats 1000000

theorem calls_Num0 (w : World) : Calls Tryd.prog fn_evergreenbase_Num #[.nilIface] w fun e w' => e = .returned (.int .i64 0) ∧ Ext w w' := by
  refine pure_call [.v .nilIface] w ok_evergreenbase_Num (by simp) ?_
  (repeat' ((conv => whnf); first | (refine bcase_prop (fun h => ?_) (fun h => ?_) <;> try (exfalso; omega)) | (refine bcase_nprop (fun h => ?_) (fun h => ?_) <;> try (exfalso; omega)) | (refine bcase_intro (fun h => ?_) (fun h => ?_) <;> (try simp only [Bool.not_eq_true', Bool.not_eq_false', decide_eq_true_eq, decide_eq_false_iff_not, Bool.not_eq_true, Bool.not_eq_false, Decidable.not_not] at h)) | refine And.intro (by first | omega | exact rfl | assumption | exact ⟨rfl, rfl, rfl, rfl, rfl⟩ | exact ⟨rfl, rfl, rfl, rfl⟩ | exact ⟨rfl, by omega⟩ | exact oneAll_of rfl | exact ⟨rfl, oneAll_of rfl⟩ | exact Ref.refl _ | exact Thin.ref (.skip (Thin.refl _)) | exact Thin.ref (.skip (.skip (Thin.refl _))) | exact ⟨rfl, Nat.le_of_ble_eq_true rfl⟩ | ((try unfold maxLen); (try simp only [List.length_nil, List.length_cons, List.length_append]); omega) | (refine ⟨rfl, ?_⟩; (try simp only [List.length_nil, List.length_cons, List.length_append]); omega)) ?_ | intro _)); (all_goals (conv => whnf))
  exact ⟨rfl⟩
theorem calls_Num (n : Int) (w : World) : Calls Tryd.prog fn_evergreenbase_Num #[errV n] w fun e w' => e = .returned (.int .i64 n) ∧ Ext w w' := by
  refine pure_call [.v (errV n)] w ok_evergreenbase_Num (by simp) ?_
  (repeat' ((conv => whnf); first | (refine bcase_prop (fun h => ?_) (fun h => ?_) <;> try (exfalso; omega)) | (refine bcase_nprop (fun h => ?_) (fun h => ?_) <;> try (exfalso; omega)) | (refine bcase_intro (fun h => ?_) (fun h => ?_) <;> (try simp only [Bool.not_eq_true', Bool.not_eq_false', decide_eq_true_eq, decide_eq_false_iff_not, Bool.not_eq_true, Bool.not_eq_false, Decidable.not_not] at h)) | refine And.intro (by first | omega | exact rfl | assumption | exact ⟨rfl, rfl, rfl, rfl, rfl⟩ | exact ⟨rfl, rfl, rfl, rfl⟩ | exact ⟨rfl, by omega⟩ | exact oneAll_of rfl | exact ⟨rfl, oneAll_of rfl⟩ | exact Ref.refl _ | exact Thin.ref (.skip (Thin.refl _)) | exact Thin.ref (.skip (.skip (Thin.refl _))) | exact ⟨rfl, Nat.le_of_ble_eq_true rfl⟩ | ((try unfold maxLen); (try simp only [List.length_nil, List.length_cons, List.length_append]); omega) | (refine ⟨rfl, ?_⟩; (try simp only [List.length_nil, List.length_cons, List.length_append]); omega)) ?_ | intro _)); (all_goals (conv => whnf))
  exact ⟨rfl⟩
theorem calls_Is (n m : Int) (hm : m ≠ 0) (w : World) : Calls Tryd.prog fn_evergreenbase_Is #[errV n, .int .i64 m] w fun e w' => e = .returned (.bool (decide (n = m))) ∧ Ext w w' := by
  refine pure_call [.v (errV n), .v (.int .i64 m)] w ok_evergreenbase_Is (by simp) ?_
  have c1 := calls_Num n
  (repeat' ((conv => whnf); first | (refine CallK_pure (.v _) (fun w hR => c1 w) ?_) | (refine bcase_prop (fun h => ?_) (fun h => ?_) <;> try (exfalso; omega)) | (refine bcase_nprop (fun h => ?_) (fun h => ?_) <;> try (exfalso; omega)) | (refine bcase_intro (fun h => ?_) (fun h => ?_) <;> (try simp only [Bool.not_eq_true', Bool.not_eq_false', decide_eq_true_eq, decide_eq_false_iff_not, Bool.not_eq_true, Bool.not_eq_false, Decidable.not_not] at h)) | refine And.intro (by first | omega | exact rfl | assumption | exact ⟨rfl, rfl, rfl, rfl, rfl⟩ | exact ⟨rfl, rfl, rfl, rfl⟩ | exact ⟨rfl, by omega⟩ | exact oneAll_of rfl | exact ⟨rfl, oneAll_of rfl⟩ | exact Ref.refl _ | exact Thin.ref (.skip (Thin.refl _)) | exact Thin.ref (.skip (.skip (Thin.refl _))) | exact ⟨rfl, Nat.le_of_ble_eq_true rfl⟩ | ((try unfold maxLen); (try simp only [List.length_nil, List.length_cons, List.length_append]); omega) | (refine ⟨rfl, ?_⟩; (try simp only [List.length_nil, List.length_cons, List.length_append]); omega)) ?_ | intro _)); (all_goals (conv => whnf))
  · refine ⟨?_⟩
    rw [decide_eq_true h]; simp [hm]
  · refine ⟨?_⟩
    rw [decide_eq_false h]
theorem calls_Is0 (m : Int) (hm : m ≠ 0) (w : World) : Calls Tryd.prog fn_evergreenbase_Is #[.nilIface, .int .i64 m] w fun e w' => e = .returned (.bool false) ∧ Ext w w' := by
  refine pure_call [.v .nilIface, .v (.int .i64 m)] w ok_evergreenbase_Is (by simp) ?_
  (repeat' ((conv => whnf); first | (refine CallK_pure (.v _) (fun w hR => calls_Num0 w) ?_) | (refine bcase_prop (fun h => ?_) (fun h => ?_) <;> try (exfalso; omega)) | (refine bcase_nprop (fun h => ?_) (fun h => ?_) <;> try (exfalso; omega)) | (refine bcase_intro (fun h => ?_) (fun h => ?_) <;> (try simp only [Bool.not_eq_true', Bool.not_eq_false', decide_eq_true_eq, decide_eq_false_iff_not, Bool.not_eq_true, Bool.not_eq_false, Decidable.not_not] at h)) | refine And.intro (by first | omega | exact rfl | assumption | exact ⟨rfl, rfl, rfl, rfl, rfl⟩ | exact ⟨rfl, rfl, rfl, rfl⟩ | exact ⟨rfl, by omega⟩ | exact oneAll_of rfl | exact ⟨rfl, oneAll_of rfl⟩ | exact Ref.refl _ | exact Thin.ref (.skip (Thin.refl _)) | exact Thin.ref (.skip (.skip (Thin.refl _))) | exact ⟨rfl, Nat.le_of_ble_eq_true rfl⟩ | ((try unfold maxLen); (try simp only [List.length_nil, List.length_cons, List.length_append]); omega) | (refine ⟨rfl, ?_⟩; (try simp only [List.length_nil, List.length_cons, List.length_append]); omega)) ?_ | intro _)); (all_goals (conv => whnf))
  all_goals exact ⟨rfl⟩

theorem calls_r1Valid (n : Int) (w : World) : Calls Tryd.prog fn_evergreenref01_Valid #[.int .i64 n] w fun e w' => e = .returned (.bool (decide (0 ≤ n ∧ n ≤ 1152921504606846976))) ∧ Ext w w' := by
  refine pure_call [.v (.int .i64 n)] w ok_evergreenref01_Valid (by simp) ?_
  (repeat' ((conv => whnf); first | (refine bcase_prop (fun h => ?_) (fun h => ?_) <;> try (exfalso; omega)) | (refine bcase_nprop (fun h => ?_) (fun h => ?_) <;> try (exfalso; omega)) | (refine bcase_intro (fun h => ?_) (fun h => ?_) <;> (try simp only [Bool.not_eq_true', Bool.not_eq_false', decide_eq_true_eq, decide_eq_false_iff_not, Bool.not_eq_true, Bool.not_eq_false, Decidable.not_not] at h)) | refine And.intro (by first | omega | exact rfl | assumption | exact ⟨rfl, rfl, rfl, rfl, rfl⟩ | exact ⟨rfl, rfl, rfl, rfl⟩ | exact ⟨rfl, by omega⟩ | exact oneAll_of rfl | exact ⟨rfl, oneAll_of rfl⟩ | exact Ref.refl _ | exact Thin.ref (.skip (Thin.refl _)) | exact Thin.ref (.skip (.skip (Thin.refl _))) | exact ⟨rfl, Nat.le_of_ble_eq_true rfl⟩ | ((try unfold maxLen); (try simp only [List.length_nil, List.length_cons, List.length_append]); omega) | (refine ⟨rfl, ?_⟩; (try simp only [List.length_nil, List.length_cons, List.length_append]); omega)) ?_ | intro _)); (all_goals (conv => whnf))
  all_goals (refine ⟨?_⟩; congr 1; simp; omega)
def radd (a b : Nat) : Value := if a + b ≤ LM then .tuple #[.int .i64 ((a + b : Nat) : Int), .int .i64 0] else .tuple #[.int .i64 0, .int .i64 2]
theorem calls_r1Add (a b : Nat) (ha : a ≤ LM) (hb : b ≤ LM) (w : World) : Calls Tryd.prog fn_evergreenref01_Add #[.int .i64 a, .int .i64 b] w fun e w' => e = .returned (radd a b) ∧ Ext w w' := by
  refine pure_call [.v (.int .i64 a), .v (.int .i64 b)] w ok_evergreenref01_Add (by simp) ?_
  unfold LM at ha hb
  have c1 := calls_r1Valid a
  have c2 := calls_r1Valid b
  rw [decide_eq_true (by omega)] at c1 c2
  (repeat' ((conv => whnf); first | (refine CallK_pure (.v _) (fun w hR => c1 w) ?_) | (refine CallK_pure (.v _) (fun w hR => c2 w) ?_) | (refine bcase_prop (fun h => ?_) (fun h => ?_) <;> try (exfalso; omega)) | (refine bcase_nprop (fun h => ?_) (fun h => ?_) <;> try (exfalso; omega)) | (refine bcase_intro (fun h => ?_) (fun h => ?_) <;> (try simp only [Bool.not_eq_true', Bool.not_eq_false', decide_eq_true_eq, decide_eq_false_iff_not, Bool.not_eq_true, Bool.not_eq_false, Decidable.not_not] at h)) | refine And.intro (by first | omega | exact rfl | assumption | exact ⟨rfl, rfl, rfl, rfl, rfl⟩ | exact ⟨rfl, rfl, rfl, rfl⟩ | exact ⟨rfl, by omega⟩ | exact oneAll_of rfl | exact ⟨rfl, oneAll_of rfl⟩ | exact Ref.refl _ | exact Thin.ref (.skip (Thin.refl _)) | exact Thin.ref (.skip (.skip (Thin.refl _))) | exact ⟨rfl, Nat.le_of_ble_eq_true rfl⟩ | ((try unfold maxLen); (try simp only [List.length_nil, List.length_cons, List.length_append]); omega) | (refine ⟨rfl, ?_⟩; (try simp only [List.length_nil, List.length_cons, List.length_append]); omega)) ?_ | intro _)); (all_goals (conv => whnf))
  all_goals (refine ⟨?_⟩; unfold radd LM; first | rw [if_pos (by omega)] | rw [if_neg (by omega)])
  all_goals first | rfl | (congr 4; omega)
def rmul (a k : Nat) : Value := if a * k ≤ LM then .tuple #[.int .i64 ((a * k : Nat) : Int), .int .i64 0] else .tuple #[.int .i64 0, .int .i64 2]
theorem calls_r1Mul (a k : Nat) (ha : a ≤ LM) (hk : k ≤ 9223372036854775807) (w : World) : Calls Tryd.prog fn_evergreenref01_Mul #[.int .i64 a, .int .i64 k] w fun e w' => e = .returned (rmul a k) ∧ Ext w w' := by
  refine pure_call [.v (.int .i64 a), .v (.int .i64 k)] w ok_evergreenref01_Mul (by simp) ?_
  unfold LM at ha
  have c1 := calls_r1Valid a
  rw [decide_eq_true (by omega)] at c1
  have hd : (1152921504606846976 : Int) / (a : Int) = ((1152921504606846976 / a : Nat) : Int) := by rw [Int.natCast_ediv]; rfl
  have hm : (a : Int) * (k : Int) = ((a * k : Nat) : Int) := by simp
  have hiff : 0 < a → (k ≤ 1152921504606846976 / a ↔ a * k ≤ 1152921504606846976) := fun h => by
    rw [Nat.le_div_iff_mul_le h, Nat.mul_comm]
  generalize 1152921504606846976 / a = q at *
  have hz : a = 0 → a * k = 0 := fun h => by rw [h, Nat.zero_mul]
  rw [show rmul a k = if a * k ≤ LM then .tuple #[.int .i64 ((a * k : Nat) : Int), .int .i64 0] else .tuple #[.int .i64 0, .int .i64 2] from rfl]
  unfold LM
  generalize a * k = p at *
  have hw1 : 0 < a → k ≤ q → p ≤ 1152921504606846976 := fun h1 h2 => (hiff h1).1 h2
  have hw2 : 0 < a → q < k → 1152921504606846976 < p := fun h1 h2 => by have := (hiff h1).2; omega
  have hp : a = 0 ∨ k ≤ q → p ≤ 1152921504606846976 := fun h => by
    rcases h with h | h
    · have := hz h; omega
    · by_cases h0 : 0 < a
      · exact hw1 h0 h
      · have := hz (by omega); omega
  (repeat' ((conv => whnf); first | rw [hd] | rw [hm] | (refine CallK_pure (.v _) (fun w hR => c1 w) ?_) | (refine bcase_prop (fun h => ?_) (fun h => ?_) <;> try (exfalso; omega)) | (refine bcase_nprop (fun h => ?_) (fun h => ?_) <;> try (exfalso; omega)) | (refine bcase_intro (fun h => ?_) (fun h => ?_) <;> (try simp only [Bool.not_eq_true', Bool.not_eq_false', decide_eq_true_eq, decide_eq_false_iff_not, Bool.not_eq_true, Bool.not_eq_false, Decidable.not_not] at h)) | refine And.intro (by first | omega | exact rfl | assumption | exact ⟨rfl, rfl, rfl, rfl, rfl⟩ | exact ⟨rfl, rfl, rfl, rfl⟩ | exact ⟨rfl, by omega⟩ | exact oneAll_of rfl | exact ⟨rfl, oneAll_of rfl⟩ | exact Ref.refl _ | exact Thin.ref (.skip (Thin.refl _)) | exact Thin.ref (.skip (.skip (Thin.refl _))) | exact ⟨by omega, by omega, by omega⟩ | (have := hp (by omega); omega) | exact ⟨rfl, Nat.le_of_ble_eq_true rfl⟩ | ((try unfold maxLen); (try simp only [List.length_nil, List.length_cons, List.length_append]); omega) | (refine ⟨rfl, ?_⟩; (try simp only [List.length_nil, List.length_cons, List.length_append]); omega)) ?_ | intro _)); (all_goals (conv => whnf))
  all_goals (refine ⟨?_⟩; first | (rw [if_neg (by have := hw2 (by omega) (by omega); omega)] <;> exact rfl) | (rw [if_pos (by have := hp (by omega); omega)] <;> exact rfl))

theorem calls_earlier (i n : Int) (w : World) : Calls Tryd.prog fn_evergreenref11_earlier #[.int .i64 i, .int .i64 n] w fun e w' => e = .returned (.bool (earl i n)) ∧ Ext w w' := by
  refine pure_call [.v (.int .i64 i), .v (.int .i64 n)] w ok_evergreenref11_earlier (by simp) ?_
  unfold earl
  (repeat' ((conv => whnf); first | (refine bcase_prop (fun h => ?_) (fun h => ?_) <;> try (exfalso; omega)) | (refine bcase_nprop (fun h => ?_) (fun h => ?_) <;> try (exfalso; omega)) | (refine bcase_intro (fun h => ?_) (fun h => ?_) <;> (try simp only [Bool.not_eq_true', Bool.not_eq_false', decide_eq_true_eq, decide_eq_false_iff_not, Bool.not_eq_true, Bool.not_eq_false, Decidable.not_not] at h)) | refine And.intro (by first | omega | exact rfl | assumption | exact ⟨rfl, rfl, rfl, rfl, rfl⟩ | exact ⟨rfl, rfl, rfl, rfl⟩ | exact ⟨rfl, by omega⟩ | exact oneAll_of rfl | exact ⟨rfl, oneAll_of rfl⟩ | exact Ref.refl _ | exact Thin.ref (.skip (Thin.refl _)) | exact Thin.ref (.skip (.skip (Thin.refl _))) | exact ⟨rfl, Nat.le_of_ble_eq_true rfl⟩ | ((try unfold maxLen); (try simp only [List.length_nil, List.length_cons, List.length_append]); omega) | (refine ⟨rfl, ?_⟩; (try simp only [List.length_nil, List.length_cons, List.length_append]); omega)) ?_ | intro _)); (all_goals (conv => whnf))
  · refine ⟨?_⟩
    rw [decide_eq_true h]; rfl
  · refine ⟨?_⟩
    rw [decide_eq_false h]; rfl
theorem calls_r11Rule (r : Rul) (n : Int) (w : World) : Calls Tryd.prog fn_evergreenref11_Rule #[ruV r, .int .i64 n] w fun e w' => e = .returned (.int .i64 (ruleCode r n)) ∧ Ext w w' := by
  refine pure_call [.v (ruV r), .v (.int .i64 n)] w ok_evergreenref11_Rule (by simp) ?_
  have c1 := calls_earlier r.a n
  have c2 := calls_earlier r.b n
  unfold ruleCode
  generalize earl r.a n = ea at *
  generalize earl r.b n = eb at *
  (repeat' ((conv => whnf); first | (refine CallK_pure (.v _) (fun w hR => c1 w) ?_) | (refine CallK_pure (.v _) (fun w hR => c2 w) ?_) | (refine bcase_prop (fun h => ?_) (fun h => ?_) <;> try (exfalso; omega)) | (refine bcase_nprop (fun h => ?_) (fun h => ?_) <;> try (exfalso; omega)) | (refine bcase_intro (fun h => ?_) (fun h => ?_) <;> (try simp only [Bool.not_eq_true', Bool.not_eq_false', decide_eq_true_eq, decide_eq_false_iff_not, Bool.not_eq_true, Bool.not_eq_false, Decidable.not_not] at h)) | refine And.intro (by first | omega | exact rfl | assumption | exact ⟨rfl, rfl, rfl, rfl, rfl⟩ | exact ⟨rfl, rfl, rfl, rfl⟩ | exact ⟨rfl, by omega⟩ | exact oneAll_of rfl | exact ⟨rfl, oneAll_of rfl⟩ | exact Ref.refl _ | exact Thin.ref (.skip (Thin.refl _)) | exact Thin.ref (.skip (.skip (Thin.refl _))) | exact ⟨rfl, Nat.le_of_ble_eq_true rfl⟩ | ((try unfold maxLen); (try simp only [List.length_nil, List.length_cons, List.length_append]); omega) | (refine ⟨rfl, ?_⟩; (try simp only [List.length_nil, List.length_cons, List.length_append]); omega)) ?_ | intro _)); (all_goals (conv => whnf))
  all_goals (refine ⟨?_⟩; congr 1; first | omega | (simp only [*, if_true, if_false]; simp) | (repeat' split) <;> (first | rfl | omega | (simp_all; done) | (exfalso; omega)))

theorem calls_r11Check (g : List Rul) (a : Option Addr) (c : Nat) (hl : g.length ≤ 140737488355328) (w : World) (hin : In w [] a (rulsC g)) : Calls Tryd.prog fn_evergreenref11_Check #[.slice a g.length c] w fun e w' => e = .returned (.int .i64 (chk 1 g)) ∧ Ext w w' := by
  refine pure_call [.v (.slice a g.length c)] w ok_evergreenref11_Check (by simp) ?_
  have hne : ∀ i, i < g.length → a ≠ none := fun i hi => hin.ne' (k := i * 5) (by rw [rulsC_length]; omega)
  have hrd := fun {L : List Ent} (i : Nat) (hi : i < g.length) => In.rdn (L := L) (vs := ruC (g.getD i rul0)) (k := i * 5) hin (Nat.succ_pos _) (rulsC_at hi)
  (repeat' ((conv => whnf); first | (refine bcase_prop (fun h => ?_) (fun h => ?_) <;> try (exfalso; omega)) | (refine bcase_nprop (fun h => ?_) (fun h => ?_) <;> try (exfalso; omega)) | (refine bcase_intro (fun h => ?_) (fun h => ?_) <;> (try simp only [Bool.not_eq_true', Bool.not_eq_false', decide_eq_true_eq, decide_eq_false_iff_not, Bool.not_eq_true, Bool.not_eq_false, Decidable.not_not] at h)) | refine And.intro (by first | omega | exact rfl | assumption | exact ⟨rfl, rfl, rfl, rfl, rfl⟩ | exact ⟨rfl, rfl, rfl, rfl⟩ | exact ⟨rfl, by omega⟩ | exact oneAll_of rfl | exact ⟨rfl, oneAll_of rfl⟩ | exact Ref.refl _ | exact Thin.ref (.skip (Thin.refl _)) | exact Thin.ref (.skip (.skip (Thin.refl _))) | exact ⟨rfl, Nat.le_of_ble_eq_true rfl⟩ | ((try unfold maxLen); (try simp only [List.length_nil, List.length_cons, List.length_append]); omega) | (refine ⟨rfl, ?_⟩; (try simp only [List.length_nil, List.length_cons, List.length_append]); omega)) ?_ | intro _)); (all_goals (conv => whnf))
  refine VC_loop Nat (fun i => [(0, .v (.slice a g.length c)), (3, .v (.int .i64 i))]) (fun _ => []) (fun i => i ≤ g.length ∧ chk 1 g = chk ((i : Int) + 1) (g.drop i)) (fun i => g.length - i) 0 ⟨Nat.zero_le _, rfl⟩ (by (repeat ((conv => whnf); refine And.intro (by first | exact rfl | exact vint_eq (by omega) | exact vint_eq (by (dsimp only; omega)) | exact vsl_eq (by omega) | exact vsl_eq (by first | (dsimp only; omega) | (simp; done) | (simp; omega))) ?_)); exact trivial) (.refl _) ?_
  rintro i ⟨hi, hc⟩
  rw [hc]
  have hi0 := hne i
  by_cases hlt : i < g.length
  · rw [drop_cons (d := rul0) hlt]
    simp only [chk]
    have hr1 := fun {L : List Ent} => hrd (L := L) i hlt
    have c1 := calls_r11Rule (g.getD i rul0) ((i : Int) + 1)
    rw [drop_cons (d := rul0) hlt] at hc
    simp only [chk] at hc
    generalize ruleCode (g.getD i rul0) ((i : Int) + 1) = cd at *
    (repeat' ((conv => whnf); first | rw [Int.toNat_natCast] | (refine CallK_pure (.v _) (fun w hR => c1 w) ?_) | refine ⟨ruC (g.getD i rul0), rfl, hr1, ?_⟩ | (refine bcase_prop (fun h => ?_) (fun h => ?_) <;> try (exfalso; omega)) | (refine bcase_nprop (fun h => ?_) (fun h => ?_) <;> try (exfalso; omega)) | (refine bcase_intro (fun h => ?_) (fun h => ?_) <;> (try simp only [Bool.not_eq_true', Bool.not_eq_false', decide_eq_true_eq, decide_eq_false_iff_not, Bool.not_eq_true, Bool.not_eq_false, Decidable.not_not] at h)) | refine And.intro (by first | omega | exact rfl | assumption | exact ⟨rfl, rfl, rfl, rfl, rfl⟩ | exact ⟨rfl, rfl, rfl, rfl⟩ | exact ⟨rfl, by omega⟩ | exact oneAll_of rfl | exact ⟨rfl, oneAll_of rfl⟩ | exact Ref.refl _ | exact Thin.ref (.skip (Thin.refl _)) | exact Thin.ref (.skip (.skip (Thin.refl _))) | exact hi0 (by omega) | exact ⟨rfl, Nat.le_of_ble_eq_true rfl⟩ | ((try unfold maxLen); (try simp only [List.length_nil, List.length_cons, List.length_append]); omega) | (refine ⟨rfl, ?_⟩; (try simp only [List.length_nil, List.length_cons, List.length_append]); omega)) ?_ | intro _)); (all_goals (conv => whnf))
    · exact ⟨by rw [if_pos h]⟩
    · refine loop_next (i + 1) ⟨hlt, ?_⟩ (by ((try dsimp only); omega)) (by (repeat ((conv => whnf); refine And.intro (by first | exact rfl | exact vint_eq (by omega) | exact vint_eq (by (dsimp only; omega)) | exact vsl_eq (by omega) | exact vsl_eq (by first | (dsimp only; omega) | (simp; done) | (simp; omega))) ?_)); exact trivial) (Thin.ref (by (repeat (first | exact Thin.nil _ | exact Thin.refl _ | refine Thin.keep rfl (fun _ h => h) ?_ | refine Thin.skip ?_))))
      rw [if_neg (by simp [h])]
      congr 1
  · rw [show g.drop i = [] from List.drop_eq_nil_of_le (by omega)]
    (repeat' ((conv => whnf); first | rw [Int.toNat_natCast] | (refine bcase_prop (fun h => ?_) (fun h => ?_) <;> try (exfalso; omega)) | (refine bcase_nprop (fun h => ?_) (fun h => ?_) <;> try (exfalso; omega)) | (refine bcase_intro (fun h => ?_) (fun h => ?_) <;> (try simp only [Bool.not_eq_true', Bool.not_eq_false', decide_eq_true_eq, decide_eq_false_iff_not, Bool.not_eq_true, Bool.not_eq_false, Decidable.not_not] at h)) | refine And.intro (by first | omega | exact rfl | assumption | exact ⟨rfl, rfl, rfl, rfl, rfl⟩ | exact ⟨rfl, rfl, rfl, rfl⟩ | exact ⟨rfl, by omega⟩ | exact oneAll_of rfl | exact ⟨rfl, oneAll_of rfl⟩ | exact Ref.refl _ | exact Thin.ref (.skip (Thin.refl _)) | exact Thin.ref (.skip (.skip (Thin.refl _))) | exact ⟨rfl, Nat.le_of_ble_eq_true rfl⟩ | ((try unfold maxLen); (try simp only [List.length_nil, List.length_cons, List.length_append]); omega) | (refine ⟨rfl, ?_⟩; (try simp only [List.length_nil, List.length_cons, List.length_append]); omega)) ?_ | intro _)); (all_goals (conv => whnf))
    exact ⟨rfl⟩
end Go.Proofs.YticiljgbjdcmlaaDoor
