/- Lengths, digests and weights of texts. No condition but the lengths'. -/
import Derived.Test.YtagoedllflalpaaSWalks1
import Derived.Test.YtagoedllflalpaaSText
namespace Go.Proofs.Ytagoedllflalpaa
open Go.EG
attribute [local irreducible] CallK QCall Go.Calls
set_option linter.unusedSimpArgs false
set_option linter.unusedVariables false
set_option maxRecDepth 20000

abbrev LM : Nat := 1152921504606846976
abbrev errV (n : Int) : Value := .iface ty_api_Errno (.int .i64 n)
abbrev digV (t : List Nat) : Value := .agg #[.int .u64 (valN t), .int .u64 (scaleN t)]
abbrev wtV (t : List Nat) : Value := .agg #[.int .i64 t.length, .int .i64 (linesN t), .int .i64 (headN t), .int .i64 (tailN t), .int .u64 (valN t), .int .u64 (scaleN t)]

theorem calls_lValid (n : Int) (w : World) : Calls Try.prog fn_length_Valid #[.int .i64 n] w fun e w' => e = .returned (.bool (decide (0 ≤ n ∧ n ≤ 1152921504606846976))) ∧ Ext w w' := by
  refine pure_call [.v (.int .i64 n)] w ok_length_Valid (by simp) ?_
  (repeat' ((conv => whnf); first | (refine bcase_prop (fun h => ?_) (fun h => ?_) <;> try (exfalso; omega)) | (refine bcase_nprop (fun h => ?_) (fun h => ?_) <;> try (exfalso; omega)) | (refine bcase_intro (fun h => ?_) (fun h => ?_) <;> (try simp only [Bool.not_eq_true', Bool.not_eq_false', decide_eq_true_eq, decide_eq_false_iff_not, Bool.not_eq_true, Bool.not_eq_false, Decidable.not_not] at h)) | refine And.intro (by first | omega | exact rfl | assumption | exact ⟨rfl, rfl, rfl, rfl, rfl⟩ | exact ⟨rfl, rfl, rfl, rfl⟩ | exact ⟨rfl, by omega⟩ | exact oneAll_of rfl | exact ⟨rfl, oneAll_of rfl⟩ | exact Ref.refl _ | exact Thin.ref (.skip (Thin.refl _)) | exact Thin.ref (.skip (.skip (Thin.refl _))) | exact ⟨rfl, Nat.le_of_ble_eq_true rfl⟩ | ((try unfold maxLen); (try simp only [List.length_nil, List.length_cons, List.length_append]); omega) | (refine ⟨rfl, ?_⟩; (try simp only [List.length_nil, List.length_cons, List.length_append]); omega)) ?_ | intro _)); (all_goals (conv => whnf))
  all_goals (refine ⟨?_⟩; congr 1; simp; omega)

theorem calls_lClip (n lo hi : Int) (w : World) : Calls Try.prog fn_length_Clip #[.int .i64 n, .int .i64 lo, .int .i64 hi] w fun e w' => e = .returned (.int .i64 (if n < lo then lo else if n > hi then hi else n)) ∧ Ext w w' := by
  refine pure_call [.v (.int .i64 n), .v (.int .i64 lo), .v (.int .i64 hi)] w ok_length_Clip (by simp) ?_
  (repeat' ((conv => whnf); first | (refine bcase_prop (fun h => ?_) (fun h => ?_) <;> try (exfalso; omega)) | (refine bcase_nprop (fun h => ?_) (fun h => ?_) <;> try (exfalso; omega)) | (refine bcase_intro (fun h => ?_) (fun h => ?_) <;> (try simp only [Bool.not_eq_true', Bool.not_eq_false', decide_eq_true_eq, decide_eq_false_iff_not, Bool.not_eq_true, Bool.not_eq_false, Decidable.not_not] at h)) | refine And.intro (by first | omega | exact rfl | assumption | exact ⟨rfl, rfl, rfl, rfl, rfl⟩ | exact ⟨rfl, rfl, rfl, rfl⟩ | exact ⟨rfl, by omega⟩ | exact oneAll_of rfl | exact ⟨rfl, oneAll_of rfl⟩ | exact Ref.refl _ | exact Thin.ref (.skip (Thin.refl _)) | exact Thin.ref (.skip (.skip (Thin.refl _))) | exact ⟨rfl, Nat.le_of_ble_eq_true rfl⟩ | ((try unfold maxLen); (try simp only [List.length_nil, List.length_cons, List.length_append]); omega) | (refine ⟨rfl, ?_⟩; (try simp only [List.length_nil, List.length_cons, List.length_append]); omega)) ?_ | intro _)); (all_goals (conv => whnf))
  all_goals (refine ⟨?_⟩; congr 1; repeat' split <;> omega)

def addV (a b : Nat) : Value := if a + b ≤ LM then .tuple #[.int .i64 ((a + b : Nat) : Int), .nilIface] else .tuple #[.int .i64 0, errV 2]
theorem calls_lAdd (a b : Nat) (ha : a ≤ LM) (hb : b ≤ LM) (w : World) : Calls Try.prog fn_length_Add #[.int .i64 a, .int .i64 b] w fun e w' => e = .returned (addV a b) ∧ Ext w w' := by
  refine pure_call [.v (.int .i64 a), .v (.int .i64 b)] w ok_length_Add (by simp) ?_
  unfold LM at ha hb
  have c1 := calls_lValid a
  have c2 := calls_lValid b
  rw [decide_eq_true (by omega)] at c1 c2
  (repeat' ((conv => whnf); first | refine CallK_pure (.v _) (fun w hR => c1 w) ?_ | refine CallK_pure (.v _) (fun w hR => c2 w) ?_ | (refine bcase_prop (fun h => ?_) (fun h => ?_) <;> try (exfalso; omega)) | (refine bcase_nprop (fun h => ?_) (fun h => ?_) <;> try (exfalso; omega)) | (refine bcase_intro (fun h => ?_) (fun h => ?_) <;> (try simp only [Bool.not_eq_true', Bool.not_eq_false', decide_eq_true_eq, decide_eq_false_iff_not, Bool.not_eq_true, Bool.not_eq_false, Decidable.not_not] at h)) | refine And.intro (by first | omega | exact rfl | assumption | exact ⟨rfl, rfl, rfl, rfl, rfl⟩ | exact ⟨rfl, rfl, rfl, rfl⟩ | exact ⟨rfl, by omega⟩ | exact oneAll_of rfl | exact ⟨rfl, oneAll_of rfl⟩ | exact Ref.refl _ | exact Thin.ref (.skip (Thin.refl _)) | exact Thin.ref (.skip (.skip (Thin.refl _))) | exact ⟨rfl, Nat.le_of_ble_eq_true rfl⟩ | ((try unfold maxLen); (try simp only [List.length_nil, List.length_cons, List.length_append]); omega) | (refine ⟨rfl, ?_⟩; (try simp only [List.length_nil, List.length_cons, List.length_append]); omega)) ?_ | intro _)); (all_goals (conv => whnf))
  all_goals (refine ⟨?_⟩; unfold addV LM; first | rw [if_pos (by omega)] | rw [if_neg (by omega)])
  all_goals first | rfl | (congr 4; omega)

def mulV (a k : Nat) : Value := if a * k ≤ LM then .tuple #[.int .i64 ((a * k : Nat) : Int), .nilIface] else .tuple #[.int .i64 0, errV 2]
theorem calls_lMul (a k : Nat) (ha : a ≤ LM) (hk : k ≤ 9223372036854775807) (w : World) : Calls Try.prog fn_length_Mul #[.int .i64 a, .int .i64 k] w fun e w' => e = .returned (mulV a k) ∧ Ext w w' := by
  refine pure_call [.v (.int .i64 a), .v (.int .i64 k)] w ok_length_Mul (by simp) ?_
  unfold LM at ha
  have c1 := calls_lValid a
  rw [decide_eq_true (by omega)] at c1
  have hd : (1152921504606846976 : Int) / (a : Int) = ((1152921504606846976 / a : Nat) : Int) := by rw [Int.natCast_ediv]; rfl
  have hm : (a : Int) * (k : Int) = ((a * k : Nat) : Int) := by simp
  have hiff : 0 < a → (k ≤ 1152921504606846976 / a ↔ a * k ≤ 1152921504606846976) := fun h => by
    rw [Nat.le_div_iff_mul_le h, Nat.mul_comm]
  generalize 1152921504606846976 / a = q at *
  have hz : a = 0 → a * k = 0 := fun h => by rw [h, Nat.zero_mul]
  rw [show mulV a k = if a * k ≤ LM then .tuple #[.int .i64 ((a * k : Nat) : Int), .nilIface] else .tuple #[.int .i64 0, errV 2] from rfl]
  unfold LM
  generalize a * k = p at *
  have hw1 : 0 < a → k ≤ q → p ≤ 1152921504606846976 := fun h1 h2 => (hiff h1).1 h2
  have hw2 : 0 < a → q < k → 1152921504606846976 < p := fun h1 h2 => by have := (hiff h1).2; omega
  (repeat' ((conv => whnf); first | rw [hd] | rw [hm] | refine CallK_pure (.v _) (fun w hR => c1 w) ?_ | (refine bcase_prop (fun h => ?_) (fun h => ?_) <;> try (exfalso; omega)) | (refine bcase_nprop (fun h => ?_) (fun h => ?_) <;> try (exfalso; omega)) | (refine bcase_intro (fun h => ?_) (fun h => ?_) <;> (try simp only [Bool.not_eq_true', Bool.not_eq_false', decide_eq_true_eq, decide_eq_false_iff_not, Bool.not_eq_true, Bool.not_eq_false, Decidable.not_not] at h)) | refine And.intro (by first | omega | exact rfl | assumption | exact ⟨rfl, rfl, rfl, rfl, rfl⟩ | exact ⟨rfl, rfl, rfl, rfl⟩ | exact ⟨rfl, by omega⟩ | exact oneAll_of rfl | exact ⟨rfl, oneAll_of rfl⟩ | exact Ref.refl _ | exact Thin.ref (.skip (Thin.refl _)) | exact Thin.ref (.skip (.skip (Thin.refl _))) | exact ⟨by omega, by omega, by omega⟩ | (have := hw1 (by omega) (by omega); omega) | exact ⟨rfl, Nat.le_of_ble_eq_true rfl⟩ | ((try unfold maxLen); (try simp only [List.length_nil, List.length_cons, List.length_append]); omega) | (refine ⟨rfl, ?_⟩; (try simp only [List.length_nil, List.length_cons, List.length_append]); omega)) ?_ | intro _)); (all_goals (conv => whnf))
  · refine ⟨?_⟩
    rw [if_pos (by have := hz (by omega); omega), hz (by omega)]; rfl
  · refine ⟨?_⟩
    rw [if_neg (by have := hw2 (by omega) (by omega); omega)]; exact rfl
  · refine ⟨?_⟩
    rw [if_pos (by have := hw1 (by omega) (by omega); omega)]

theorem calls_dUnit (w : World) : Calls Try.prog fn_digest_Unit #[] w fun e w' => e = .returned (digV []) ∧ Ext w w' := by
  refine pure_call [] w ok_digest_Unit (by simp) ?_
  (repeat' ((conv => whnf); first | (refine bcase_prop (fun h => ?_) (fun h => ?_) <;> try (exfalso; omega)) | (refine bcase_nprop (fun h => ?_) (fun h => ?_) <;> try (exfalso; omega)) | (refine bcase_intro (fun h => ?_) (fun h => ?_) <;> (try simp only [Bool.not_eq_true', Bool.not_eq_false', decide_eq_true_eq, decide_eq_false_iff_not, Bool.not_eq_true, Bool.not_eq_false, Decidable.not_not] at h)) | refine And.intro (by first | omega | exact rfl | assumption | exact ⟨rfl, rfl, rfl, rfl, rfl⟩ | exact ⟨rfl, rfl, rfl, rfl⟩ | exact ⟨rfl, by omega⟩ | exact oneAll_of rfl | exact ⟨rfl, oneAll_of rfl⟩ | exact Ref.refl _ | exact Thin.ref (.skip (Thin.refl _)) | exact Thin.ref (.skip (.skip (Thin.refl _))) | exact ⟨rfl, Nat.le_of_ble_eq_true rfl⟩ | ((try unfold maxLen); (try simp only [List.length_nil, List.length_cons, List.length_append]); omega) | (refine ⟨rfl, ?_⟩; (try simp only [List.length_nil, List.length_cons, List.length_append]); omega)) ?_ | intro _)); (all_goals (conv => whnf))
  exact ⟨rfl⟩
theorem calls_dLetter (b : Nat) (hb : b < 256) (w : World) : Calls Try.prog fn_digest_Letter #[.int .u8 b] w fun e w' => e = .returned (digV [b]) ∧ Ext w w' := by
  refine pure_call [.v (.int .u8 b)] w ok_digest_Letter (by simp) ?_
  have e1 : valN [b] = b + 1 := by
    have : poly [b] = b + 1 := by simp [poly, polyF]
    rw [valN, this]; exact Nat.mod_eq_of_lt (by unfold PP; omega)
  have e2 : scaleN [b] = 1103515245 := rfl
  have q : ((b : Int) + 1) % 18446744073709551616 = ((b + 1 : Nat) : Int) := by omega
  have q2 : (b : Int) % 18446744073709551616 = b := by omega
  unfold digV
  rw [e1, e2]
  (repeat' ((conv => whnf); first | rw [q] | rw [q2] | (refine bcase_prop (fun h => ?_) (fun h => ?_) <;> try (exfalso; omega)) | (refine bcase_nprop (fun h => ?_) (fun h => ?_) <;> try (exfalso; omega)) | (refine bcase_intro (fun h => ?_) (fun h => ?_) <;> (try simp only [Bool.not_eq_true', Bool.not_eq_false', decide_eq_true_eq, decide_eq_false_iff_not, Bool.not_eq_true, Bool.not_eq_false, Decidable.not_not] at h)) | refine And.intro (by first | omega | exact rfl | assumption | exact ⟨rfl, rfl, rfl, rfl, rfl⟩ | exact ⟨rfl, rfl, rfl, rfl⟩ | exact ⟨rfl, by omega⟩ | exact oneAll_of rfl | exact ⟨rfl, oneAll_of rfl⟩ | exact Ref.refl _ | exact Thin.ref (.skip (Thin.refl _)) | exact Thin.ref (.skip (.skip (Thin.refl _))) | exact ⟨rfl, Nat.le_of_ble_eq_true rfl⟩ | ((try unfold maxLen); (try simp only [List.length_nil, List.length_cons, List.length_append]); omega) | (refine ⟨rfl, ?_⟩; (try simp only [List.length_nil, List.length_cons, List.length_append]); omega)) ?_ | intro _)); (all_goals (conv => whnf))
  exact ⟨rfl⟩
theorem PPlt {n : Nat} : n % PP < 18446744073709551616 := Nat.lt_trans (Nat.mod_lt n (by decide)) (by decide)
theorem valN_lt' (t : List Nat) : valN t < 18446744073709551616 := PPlt
theorem scaleN_lt' (t : List Nat) : scaleN t < 18446744073709551616 := PPlt
theorem calls_dJoin (s t : List Nat) (w : World) : Calls Try.prog fn_digest_Join #[digV s, digV t] w fun e w' => e = .returned (digV (s ++ t)) ∧ Ext w w' := by
  refine pure_call [.v (digV s), .v (digV t)] w ok_digest_Join (by simp) ?_
  have c1 := calls_mMul (valN s) (scaleN t) (valN_lt' _) (scaleN_lt' _)
  have c2 := calls_mAdd (valN s * scaleN t % PP) (valN t) PPlt (valN_lt' _)
  have c3 := calls_mMul (scaleN s) (scaleN t) (scaleN_lt' _) (scaleN_lt' _)
  rw [valN_append] at c2
  rw [scaleN_append] at c3
  (repeat' ((conv => whnf); first | refine CallK_pure (.v _) (fun w hR => c1 w) ?_ | refine CallK_pure (.v _) (fun w hR => c2 w) ?_ | refine CallK_pure (.v _) (fun w hR => c3 w) ?_ | refine QCall_pure (.v _) (fun w hR => c1 w) ?_ | refine QCall_pure (.v _) (fun w hR => c2 w) ?_ | refine QCall_pure (.v _) (fun w hR => c3 w) ?_ | (refine bcase_prop (fun h => ?_) (fun h => ?_) <;> try (exfalso; omega)) | (refine bcase_nprop (fun h => ?_) (fun h => ?_) <;> try (exfalso; omega)) | (refine bcase_intro (fun h => ?_) (fun h => ?_) <;> (try simp only [Bool.not_eq_true', Bool.not_eq_false', decide_eq_true_eq, decide_eq_false_iff_not, Bool.not_eq_true, Bool.not_eq_false, Decidable.not_not] at h)) | refine And.intro (by first | omega | exact rfl | assumption | exact ⟨rfl, rfl, rfl, rfl, rfl⟩ | exact ⟨rfl, rfl, rfl, rfl⟩ | exact ⟨rfl, by omega⟩ | exact oneAll_of rfl | exact ⟨rfl, oneAll_of rfl⟩ | exact Ref.refl _ | exact Thin.ref (.skip (Thin.refl _)) | exact Thin.ref (.skip (.skip (Thin.refl _))) | exact ⟨rfl, Nat.le_of_ble_eq_true rfl⟩ | ((try unfold maxLen); (try simp only [List.length_nil, List.length_cons, List.length_append]); omega) | (refine ⟨rfl, ?_⟩; (try simp only [List.length_nil, List.length_cons, List.length_append]); omega)) ?_ | intro _)); (all_goals (conv => whnf))
  exact ⟨rfl⟩

structure RepG where
  m : Nat
  i : Nat
  k : Nat
theorem rep_half (m k p : Nat) : m + k % 2 * p + k / 2 * (p + p) = m + k * p := by
  conv => rhs; rw [← Nat.div_add_mod k 2]
  rw [Nat.add_mul, Nat.mul_assoc, Nat.mul_left_comm, Nat.two_mul]
  omega
theorem calls_dRepeat (t : List Nat) (k : Nat) (hk : k ≤ 9223372036854775807) (w : World) : Calls Try.prog fn_digest_Repeat #[digV t, .int .i64 k] w fun e w' => e = .returned (digV (rep k t)) ∧ Ext w w' := by
  refine pure_call [.v (digV t), .v (.int .i64 k)] w ok_digest_Repeat (by simp) ?_
  (repeat' ((conv => whnf); first | refine CallK_pure (.v _) (fun w hR => calls_dUnit w) ?_ | (refine bcase_prop (fun h => ?_) (fun h => ?_) <;> try (exfalso; omega)) | (refine bcase_nprop (fun h => ?_) (fun h => ?_) <;> try (exfalso; omega)) | (refine bcase_intro (fun h => ?_) (fun h => ?_) <;> (try simp only [Bool.not_eq_true', Bool.not_eq_false', decide_eq_true_eq, decide_eq_false_iff_not, Bool.not_eq_true, Bool.not_eq_false, Decidable.not_not] at h)) | refine And.intro (by first | omega | exact rfl | assumption | exact ⟨rfl, rfl, rfl, rfl, rfl⟩ | exact ⟨rfl, rfl, rfl, rfl⟩ | exact ⟨rfl, by omega⟩ | exact oneAll_of rfl | exact ⟨rfl, oneAll_of rfl⟩ | exact Ref.refl _ | exact Thin.ref (.skip (Thin.refl _)) | exact Thin.ref (.skip (.skip (Thin.refl _))) | exact ⟨rfl, Nat.le_of_ble_eq_true rfl⟩ | ((try unfold maxLen); (try simp only [List.length_nil, List.length_cons, List.length_append]); omega) | (refine ⟨rfl, ?_⟩; (try simp only [List.length_nil, List.length_cons, List.length_append]); omega)) ?_ | intro _)); (all_goals (conv => whnf))
  rename_i b2 b4 b5
  refine VC_loop RepG (fun g => [(1, .v (.int .i64 g.k)), (2, .ptr 2 b2 0), (5, .ptr 5 b5 0), (4, .ptr 4 b4 0)])
    (fun g => [Ent.box 5 b5 [.int .u64 (valN (rep g.m t)), .int .u64 (scaleN (rep g.m t))] ty_api_Digest, Ent.box 4 b4 [.int .u64 0, .int .u64 0] ty_api_Digest, Ent.box 2 b2 [.int .u64 (valN (rep g.i t)), .int .u64 (scaleN (rep g.i t))] ty_api_Digest])
    (fun g => g.m + g.k * g.i = k ∧ g.k ≤ 9223372036854775807) (fun g => g.k) ⟨0, 1, k⟩ ⟨by dsimp only; omega, hk⟩ (by (repeat ((conv => whnf); refine And.intro (by first | exact rfl | exact vint_eq (by omega) | exact vint_eq (by (dsimp only; omega)) | exact vsl_eq (by omega) | exact vsl_eq (by first | (dsimp only; omega) | (simp; done) | (simp; omega))) ?_)); exact trivial) (by dsimp only; rw [rep_zero, rep_one]; exact Ref.refl _) ?_
  rintro ⟨m, i, j⟩ ⟨hi, hj⟩
  dsimp only at hi hj ⊢
  have c1 := calls_dJoin (rep m t) (rep i t)
  have c2 := calls_dJoin (rep i t) (rep i t)
  rw [← rep_add] at c1 c2
  have q1 : (j : Int) / 2 = ((j / 2 : Nat) : Int) := by omega
  have hh := rep_half m j i
  (repeat' ((conv => whnf); first | rw [q1] | refine CallK_pure (.v _) (fun w hR => c1 w) ?_ | refine CallK_pure (.v _) (fun w hR => c2 w) ?_ | (refine bcase_prop (fun h => ?_) (fun h => ?_) <;> try (exfalso; omega)) | (refine bcase_nprop (fun h => ?_) (fun h => ?_) <;> try (exfalso; omega)) | (refine bcase_intro (fun h => ?_) (fun h => ?_) <;> (try simp only [Bool.not_eq_true', Bool.not_eq_false', decide_eq_true_eq, decide_eq_false_iff_not, Bool.not_eq_true, Bool.not_eq_false, Decidable.not_not] at h)) | refine And.intro (by first | omega | exact rfl | assumption | exact ⟨rfl, rfl, rfl, rfl, rfl⟩ | exact ⟨rfl, rfl, rfl, rfl⟩ | exact ⟨rfl, by omega⟩ | exact oneAll_of rfl | exact ⟨rfl, oneAll_of rfl⟩ | exact Ref.refl _ | exact Thin.ref (.skip (Thin.refl _)) | exact Thin.ref (.skip (.skip (Thin.refl _))) | exact ⟨rfl, Nat.le_of_ble_eq_true rfl⟩ | ((try unfold maxLen); (try simp only [List.length_nil, List.length_cons, List.length_append]); omega) | (refine ⟨rfl, ?_⟩; (try simp only [List.length_nil, List.length_cons, List.length_append]); omega)) ?_ | intro _)); (all_goals (conv => whnf))
  · refine loop_next ⟨m + i, i + i, j / 2⟩ (by dsimp only; rw [show j % 2 = 1 by omega] at hh; omega) (by ((try dsimp only); omega)) (by (repeat ((conv => whnf); refine And.intro (by first | exact rfl | exact vint_eq (by omega) | exact vint_eq (by (dsimp only; omega)) | exact vsl_eq (by omega) | exact vsl_eq (by first | (dsimp only; omega) | (simp; done) | (simp; omega))) ?_)); exact trivial) (Ref.refl _)
  · refine loop_next ⟨m, i + i, j / 2⟩ (by dsimp only; rw [show j % 2 = 0 by omega] at hh; omega) (by ((try dsimp only); omega)) (by (repeat ((conv => whnf); refine And.intro (by first | exact rfl | exact vint_eq (by omega) | exact vint_eq (by (dsimp only; omega)) | exact vsl_eq (by omega) | exact vsl_eq (by first | (dsimp only; omega) | (simp; done) | (simp; omega))) ?_)); exact trivial) (Ref.refl _)
  · have : j = 0 := by omega
    subst this
    rw [Nat.zero_mul, Nat.add_zero] at hi
    subst hi
    exact ⟨rfl⟩

theorem calls_wUnit (w : World) : Calls Try.prog fn_weight_Unit #[] w fun e w' => e = .returned (wtV []) ∧ Ext w w' := by
  refine pure_call [] w ok_weight_Unit (by simp) ?_
  (repeat' ((conv => whnf); first | refine CallK_pure (.v _) (fun w hR => calls_dUnit w) ?_ | (refine bcase_prop (fun h => ?_) (fun h => ?_) <;> try (exfalso; omega)) | (refine bcase_nprop (fun h => ?_) (fun h => ?_) <;> try (exfalso; omega)) | (refine bcase_intro (fun h => ?_) (fun h => ?_) <;> (try simp only [Bool.not_eq_true', Bool.not_eq_false', decide_eq_true_eq, decide_eq_false_iff_not, Bool.not_eq_true, Bool.not_eq_false, Decidable.not_not] at h)) | refine And.intro (by first | omega | exact rfl | assumption | exact ⟨rfl, rfl, rfl, rfl, rfl⟩ | exact ⟨rfl, rfl, rfl, rfl⟩ | exact ⟨rfl, by omega⟩ | exact oneAll_of rfl | exact ⟨rfl, oneAll_of rfl⟩ | exact Ref.refl _ | exact Thin.ref (.skip (Thin.refl _)) | exact Thin.ref (.skip (.skip (Thin.refl _))) | exact ⟨rfl, Nat.le_of_ble_eq_true rfl⟩ | ((try unfold maxLen); (try simp only [List.length_nil, List.length_cons, List.length_append]); omega) | (refine ⟨rfl, ?_⟩; (try simp only [List.length_nil, List.length_cons, List.length_append]); omega)) ?_ | intro _)); (all_goals (conv => whnf))
  exact ⟨rfl⟩
theorem calls_wLetter (b : Nat) (hb : b < 256) (w : World) : Calls Try.prog fn_weight_Letter #[.int .u8 b] w fun e w' => e = .returned (wtV [b]) ∧ Ext w w' := by
  refine pure_call [.v (.int .u8 b)] w ok_weight_Letter (by simp) ?_
  have e0 : b ≠ 10 → linesN [b] = 0 ∧ headN [b] = 1 ∧ tailN [b] = 1 := fun h => by
    have h0 : linesN [b] = 0 := by simp [linesN, h]
    exact ⟨h0, head_zero h0, tail_zero h0⟩
  (repeat' ((conv => whnf); first | refine CallK_pure (.v _) (fun w hR => calls_dLetter b hb w) ?_ | (refine bcase_prop (fun h => ?_) (fun h => ?_) <;> try (exfalso; omega)) | (refine bcase_nprop (fun h => ?_) (fun h => ?_) <;> try (exfalso; omega)) | (refine bcase_intro (fun h => ?_) (fun h => ?_) <;> (try simp only [Bool.not_eq_true', Bool.not_eq_false', decide_eq_true_eq, decide_eq_false_iff_not, Bool.not_eq_true, Bool.not_eq_false, Decidable.not_not] at h)) | refine And.intro (by first | omega | exact rfl | assumption | exact ⟨rfl, rfl, rfl, rfl, rfl⟩ | exact ⟨rfl, rfl, rfl, rfl⟩ | exact ⟨rfl, by omega⟩ | exact oneAll_of rfl | exact ⟨rfl, oneAll_of rfl⟩ | exact Ref.refl _ | exact Thin.ref (.skip (Thin.refl _)) | exact Thin.ref (.skip (.skip (Thin.refl _))) | exact ⟨rfl, Nat.le_of_ble_eq_true rfl⟩ | ((try unfold maxLen); (try simp only [List.length_nil, List.length_cons, List.length_append]); omega) | (refine ⟨rfl, ?_⟩; (try simp only [List.length_nil, List.length_cons, List.length_append]); omega)) ?_ | intro _)); (all_goals (conv => whnf))
  · refine ⟨?_⟩
    have : b = 10 := by omega
    subst this
    rfl
  · refine ⟨?_⟩
    obtain ⟨e1, e2, e3⟩ := e0 (by omega)
    unfold wtV
    rw [e1, e2, e3]
    rfl

theorem calls_wValid (t : List Nat) (ht : t.length ≤ LM) (w : World) : Calls Try.prog fn_weight_Valid #[wtV t] w fun e w' => e = .returned (.bool true) ∧ Ext w w' := by
  refine pure_call [.v (wtV t)] w ok_weight_Valid (by simp) ?_
  unfold LM at ht
  have c1 := calls_lValid t.length
  rw [decide_eq_true (by omega)] at c1
  have c2 := calls_mPow 1103515245 t.length (by decide) (by omega)
  have h0 : linesN t = 0 → headN t = t.length ∧ tailN t = t.length := fun h => ⟨head_zero h, tail_zero h⟩
  have h1 := fit_lines t
  have h2 := valN_lt t
  have h3 : t.length = 0 → valN t = 0 := fun h => by rw [List.eq_nil_of_length_eq_zero h]; rfl
  have h4 : scaleN t = 1103515245 ^ t.length % PP := rfl
  rw [← h4] at c2
  have q1 : (t.length : Int) % 18446744073709551616 = t.length := by omega
  clear h4
  unfold PP at h2
  unfold wtV
  generalize t.length = n at *
  generalize linesN t = l at *
  generalize headN t = hd at *
  generalize tailN t = tl at *
  generalize valN t = v at *
  generalize scaleN t = sc at *
  (repeat' ((conv => whnf); first | rw [q1] | refine CallK_pure (.v _) (fun w hR => c1 w) ?_ | refine QCall_pure (.v _) (fun w hR => c2 w) ?_ | (refine bcase_prop (fun h => ?_) (fun h => ?_) <;> try (exfalso; omega)) | (refine bcase_nprop (fun h => ?_) (fun h => ?_) <;> try (exfalso; omega)) | (refine bcase_intro (fun h => ?_) (fun h => ?_) <;> (try simp only [Bool.not_eq_true', Bool.not_eq_false', decide_eq_true_eq, decide_eq_false_iff_not, Bool.not_eq_true, Bool.not_eq_false, Decidable.not_not] at h)) | refine And.intro (by first | omega | exact rfl | assumption | exact ⟨rfl, rfl, rfl, rfl, rfl⟩ | exact ⟨rfl, rfl, rfl, rfl⟩ | exact ⟨rfl, by omega⟩ | exact oneAll_of rfl | exact ⟨rfl, oneAll_of rfl⟩ | exact Ref.refl _ | exact Thin.ref (.skip (Thin.refl _)) | exact Thin.ref (.skip (.skip (Thin.refl _))) | exact ⟨rfl, Nat.le_of_ble_eq_true rfl⟩ | ((try unfold maxLen); (try simp only [List.length_nil, List.length_cons, List.length_append]); omega) | (refine ⟨rfl, ?_⟩; (try simp only [List.length_nil, List.length_cons, List.length_append]); omega)) ?_ | intro _)); (all_goals (conv => whnf))
  all_goals (refine ⟨?_⟩; first | rfl | (exfalso; omega) | (congr 1; simp))

theorem calls_wJoin (s t : List Nat) (h : s.length + t.length ≤ LM) (w : World) : Calls Try.prog fn_weight_Join #[wtV s, wtV t] w fun e w' => e = .returned (.tuple #[wtV (s ++ t), .nilIface]) ∧ Ext w w' := by
  refine pure_call [.v (wtV s), .v (wtV t)] w ok_weight_Join (by simp) ?_
  have c1 := calls_wValid s (by omega)
  have c2 := calls_wValid t (by omega)
  have c3 := calls_lAdd s.length t.length (by omega) (by omega)
  rw [show addV s.length t.length = .tuple #[.int .i64 ((s.length + t.length : Nat) : Int), .nilIface] from if_pos h] at c3
  have c4 := calls_dJoin s t
  have e1 := lines_append s t
  have e2 := head_append s t
  have e3 := tail_append s t
  have b1 := fit_lines s
  have b2 := fit_lines t
  have z1 : linesN s = 0 → headN s = s.length ∧ tailN s = s.length := fun h => ⟨head_zero h, tail_zero h⟩
  have z2 : linesN t = 0 → headN t = t.length ∧ tailN t = t.length := fun h => ⟨head_zero h, tail_zero h⟩
  unfold LM at h
  unfold wtV at *
  unfold digV at c4
  rw [List.length_append, e1, e2, e3]
  generalize valN (s ++ t) = v at *
  generalize scaleN (s ++ t) = sc at *
  clear e1 e2 e3
  generalize s.length = n at *
  generalize t.length = n' at *
  generalize linesN s = l at *
  generalize linesN t = l' at *
  generalize headN s = hd at *
  generalize headN t = hd' at *
  generalize tailN s = tl at *
  generalize tailN t = tl' at *
  (repeat' ((conv => whnf); first | refine CallK_pure (.v _) (fun w hR => c1 w) ?_ | refine CallK_pure (.v _) (fun w hR => c2 w) ?_ | refine CallK_pure (.v _) (fun w hR => c3 w) ?_ | refine QCall_pure (.v _) (fun w hR => c1 w) ?_ | refine QCall_pure (.v _) (fun w hR => c2 w) ?_ | refine QCall_pure (.v _) (fun w hR => c4 w) ?_ | (refine bcase_prop (fun h => ?_) (fun h => ?_) <;> try (exfalso; omega)) | (refine bcase_nprop (fun h => ?_) (fun h => ?_) <;> try (exfalso; omega)) | (refine bcase_intro (fun h => ?_) (fun h => ?_) <;> (try simp only [Bool.not_eq_true', Bool.not_eq_false', decide_eq_true_eq, decide_eq_false_iff_not, Bool.not_eq_true, Bool.not_eq_false, Decidable.not_not] at h)) | refine And.intro (by first | omega | exact rfl | assumption | exact ⟨rfl, rfl, rfl, rfl, rfl⟩ | exact ⟨rfl, rfl, rfl, rfl⟩ | exact ⟨rfl, by omega⟩ | exact oneAll_of rfl | exact ⟨rfl, oneAll_of rfl⟩ | exact Ref.refl _ | exact Thin.ref (.skip (Thin.refl _)) | exact Thin.ref (.skip (.skip (Thin.refl _))) | exact ⟨rfl, Nat.le_of_ble_eq_true rfl⟩ | ((try unfold maxLen); (try simp only [List.length_nil, List.length_cons, List.length_append]); omega) | (refine ⟨rfl, ?_⟩; (try simp only [List.length_nil, List.length_cons, List.length_append]); omega)) ?_ | intro _)); (all_goals (conv => whnf))
  all_goals (refine ⟨?_⟩)
  all_goals (try rw [if_pos (by omega : l = 0)]) 
  all_goals (try rw [if_neg (by omega : ¬ l = 0)])
  all_goals (try rw [if_pos (by omega : l' = 0)])
  all_goals (try rw [if_neg (by omega : ¬ l' = 0)])
  all_goals exact rfl

theorem calls_wRepeat (t : List Nat) (k : Nat) (hk : k ≤ 9223372036854775807) (h : t.length * k ≤ LM) (ht : t.length ≤ LM) (w : World) : Calls Try.prog fn_weight_Repeat #[wtV t, .int .i64 k] w fun e w' => e = .returned (.tuple #[wtV (rep k t), .nilIface]) ∧ Ext w w' := by
  refine pure_call [.v (wtV t), .v (.int .i64 k)] w ok_weight_Repeat (by simp) ?_
  have c1 := calls_wValid t ht
  have c3 := calls_lMul t.length k ht hk
  rw [show mulV t.length k = .tuple #[.int .i64 ((t.length * k : Nat) : Int), .nilIface] from if_pos h] at c3
  have c4 := calls_dRepeat t k hk
  have c5 := calls_wUnit
  have e1 := rep_lines k t
  have e0 := rep_length k t
  have hm : (linesN t : Int) * (k : Int) = ((linesN t * k : Nat) : Int) := by simp
  have hlk : linesN t * k ≤ t.length * k := Nat.mul_le_mul_right _ (List.count_le_length)
  by_cases hz : t.length * k = 0
  · have hr : rep k t = [] := List.eq_nil_of_length_eq_zero (by rw [e0, Nat.mul_comm]; exact hz)
    rw [hr] at *
    rw [hz] at c3
    (repeat' ((conv => whnf); first | refine CallK_pure (.v _) (fun w hR => c1 w) ?_ | refine CallK_pure (.v _) (fun w hR => c3 w) ?_ | refine CallK_pure (.v _) (fun w hR => c5 w) ?_ | (refine bcase_prop (fun h => ?_) (fun h => ?_) <;> try (exfalso; omega)) | (refine bcase_nprop (fun h => ?_) (fun h => ?_) <;> try (exfalso; omega)) | (refine bcase_intro (fun h => ?_) (fun h => ?_) <;> (try simp only [Bool.not_eq_true', Bool.not_eq_false', decide_eq_true_eq, decide_eq_false_iff_not, Bool.not_eq_true, Bool.not_eq_false, Decidable.not_not] at h)) | refine And.intro (by first | omega | exact rfl | assumption | exact ⟨rfl, rfl, rfl, rfl, rfl⟩ | exact ⟨rfl, rfl, rfl, rfl⟩ | exact ⟨rfl, by omega⟩ | exact oneAll_of rfl | exact ⟨rfl, oneAll_of rfl⟩ | exact Ref.refl _ | exact Thin.ref (.skip (Thin.refl _)) | exact Thin.ref (.skip (.skip (Thin.refl _))) | exact ⟨rfl, Nat.le_of_ble_eq_true rfl⟩ | ((try unfold maxLen); (try simp only [List.length_nil, List.length_cons, List.length_append]); omega) | (refine ⟨rfl, ?_⟩; (try simp only [List.length_nil, List.length_cons, List.length_append]); omega)) ?_ | intro _)); (all_goals (conv => whnf))
    exact ⟨rfl⟩
  · have hk0 : 0 < k := by
      rcases Nat.eq_zero_or_pos k with h | h
      · rw [h, Nat.mul_zero] at hz; exact absurd rfl hz
      · exact h
    have e2 : linesN t ≠ 0 → headN (rep k t) = headN t := rep_head hk0 t
    have e3 : linesN t ≠ 0 → tailN (rep k t) = tailN t := rep_tail hk0 t
    have e4 : linesN t = 0 → headN (rep k t) = t.length * k ∧ tailN (rep k t) = t.length * k := fun h => by
      have h0 : linesN (rep k t) = 0 := by rw [e1, h, Nat.mul_zero]
      rw [head_zero h0, tail_zero h0, e0, Nat.mul_comm]; exact ⟨rfl, rfl⟩
    rw [Nat.mul_comm] at e0 e1
    unfold LM at h
    unfold wtV at *
    unfold digV at c4
    rw [e0, e1]
    clear e0 e1
    generalize valN (rep k t) = v at *
    generalize scaleN (rep k t) = sc at *
    generalize headN (rep k t) = hh at *
    generalize tailN (rep k t) = tt at *
    generalize t.length * k = nk at *
    generalize hlk2 : linesN t * k = lk at *
    generalize linesN t = l at *
    have hl0 : l = 0 → lk = 0 := fun h => by rw [← hlk2, h, Nat.zero_mul]
    (repeat' ((conv => whnf); first | rw [hm] | refine CallK_pure (.v _) (fun w hR => c1 w) ?_ | refine CallK_pure (.v _) (fun w hR => c3 w) ?_ | refine CallK_pure (.v _) (fun w hR => c4 w) ?_ | refine QCall_pure (.v _) (fun w hR => c1 w) ?_ | refine QCall_pure (.v _) (fun w hR => c4 w) ?_ | (refine bcase_prop (fun h => ?_) (fun h => ?_) <;> try (exfalso; omega)) | (refine bcase_nprop (fun h => ?_) (fun h => ?_) <;> try (exfalso; omega)) | (refine bcase_intro (fun h => ?_) (fun h => ?_) <;> (try simp only [Bool.not_eq_true', Bool.not_eq_false', decide_eq_true_eq, decide_eq_false_iff_not, Bool.not_eq_true, Bool.not_eq_false, Decidable.not_not] at h)) | refine And.intro (by first | omega | exact rfl | assumption | exact ⟨rfl, rfl, rfl, rfl, rfl⟩ | exact ⟨rfl, rfl, rfl, rfl⟩ | exact ⟨rfl, by omega⟩ | exact oneAll_of rfl | exact ⟨rfl, oneAll_of rfl⟩ | exact Ref.refl _ | exact Thin.ref (.skip (Thin.refl _)) | exact Thin.ref (.skip (.skip (Thin.refl _))) | exact ⟨rfl, Nat.le_of_ble_eq_true rfl⟩ | ((try unfold maxLen); (try simp only [List.length_nil, List.length_cons, List.length_append]); omega) | (refine ⟨rfl, ?_⟩; (try simp only [List.length_nil, List.length_cons, List.length_append]); omega)) ?_ | intro _)); (all_goals (conv => whnf))
    · refine ⟨?_⟩
      obtain ⟨h1, h2⟩ := e4 (by omega)
      rw [h1, h2]
      exact rfl
    · refine ⟨?_⟩
      rw [e2 (by omega), e3 (by omega)]
      exact rfl
end Go.Proofs.Ytagoedllflalpaa
