/- Arithmetic modulo 2^61 - 1: program and reference. No condition. -/
import Derived.Test.YtagoedllflalpaaIr
import Derived.Test.YtagoedllflalpaaSMath
namespace Go.Proofs.Ytagoedllflalpaa
open Go.EG
attribute [local irreducible] CallK QCall Go.Calls
set_option linter.unusedSimpArgs false
set_option linter.unusedVariables false
set_option maxRecDepth 20000

theorem and_mask (x : Nat) : x &&& 2305843009213693951 = x % 2305843009213693952 := Nat.and_two_pow_sub_one_eq_mod x 61
theorem and_mask32 (x : Nat) : x &&& 4294967295 = x % 4294967296 := Nat.and_two_pow_sub_one_eq_mod x 32

theorem calls_Reduce (x : Nat) (hx : x < 18446744073709551616) (w : World) : Calls Try.prog fn_modular_Reduce #[.int .u64 x] w fun e w' => e = .returned (.int .u64 (x % PP : Nat)) ∧ Ext w w' := by
  refine pure_call [.v (.int .u64 x)] w ok_modular_Reduce (by simp) ?_
  have e1 : (((x : Int).toNat &&& (2305843009213693951 : Int).toNat : Nat) : Int) = ((x % 2305843009213693952 : Nat) : Int) := by
    rw [Int.toNat_natCast]; exact congrArg _ (and_mask x)
  have e2 : (x : Int) / ((2 ^ (61 : Int).toNat : Nat) : Int) = ((x / 2305843009213693952 : Nat) : Int) := by
    rw [Int.natCast_ediv]; rfl
  have hr := red_small hx rfl
  generalize hs : x % 2305843009213693952 + x / 2305843009213693952 = s at *
  have hss : ((x % 2305843009213693952 : Nat) : Int) + ((x / 2305843009213693952 : Nat) : Int) = (s : Int) := by omega
  have hsb : s < 2305843009213693960 := by omega
  unfold PP at hr
  (repeat' ((conv => whnf); first | rw [e1] | rw [e2] | rw [hss] | (refine bcase_prop (fun h => ?_) (fun h => ?_) <;> try (exfalso; omega)) | (refine bcase_nprop (fun h => ?_) (fun h => ?_) <;> try (exfalso; omega)) | (refine bcase_intro (fun h => ?_) (fun h => ?_) <;> (try simp only [Bool.not_eq_true', Bool.not_eq_false', decide_eq_true_eq, decide_eq_false_iff_not, Bool.not_eq_true, Bool.not_eq_false, Decidable.not_not] at h)) | refine And.intro (by first | omega | exact rfl | assumption | exact ⟨rfl, rfl, rfl, rfl, rfl⟩ | exact ⟨rfl, rfl, rfl, rfl⟩ | exact ⟨rfl, by omega⟩ | exact oneAll_of rfl | exact ⟨rfl, oneAll_of rfl⟩ | exact Ref.refl _ | exact Thin.ref (.skip (Thin.refl _)) | exact Thin.ref (.skip (.skip (Thin.refl _))) | exact ⟨by omega, by omega, by decide, by decide⟩ | exact ⟨by decide, by show _ ≤ (64 : Int); decide⟩ | exact ⟨rfl, Nat.le_of_ble_eq_true rfl⟩ | ((try unfold maxLen); (try simp only [List.length_nil, List.length_cons, List.length_append]); omega) | (refine ⟨rfl, ?_⟩; (try simp only [List.length_nil, List.length_cons, List.length_append]); omega)) ?_ | intro _)); (all_goals (conv => whnf))
  all_goals (refine ⟨?_⟩; rw [hr]; congr 1; split <;> omega)

theorem calls_Mul64 (a b : Nat) (ha : a < 18446744073709551616) (hb : b < 18446744073709551616) (w : World) : Calls Try.prog fn_math_bits_Mul64 #[.int .u64 a, .int .u64 b] w fun e w' => e = .returned (.tuple #[.int .u64 (a * b / 18446744073709551616 : Nat), .int .u64 (a * b % 18446744073709551616 : Nat)]) ∧ Ext w w' := by
  refine pure_call [.v (.int .u64 a), .v (.int .u64 b)] w ok_math_bits_Mul64 (by simp) ?_
  have hand : ∀ x : Nat, (((x : Int).toNat &&& (4294967295 : Int).toNat : Nat) : Int) = ((x % 4294967296 : Nat) : Int) := fun x => by
    rw [Int.toNat_natCast]; exact congrArg _ (and_mask32 x)
  have hsh : ∀ x : Nat, (x : Int) / ((2 ^ (32 : Int).toNat : Nat) : Int) = ((x / 4294967296 : Nat) : Int) := fun x => by
    rw [Int.natCast_ediv]; rfl
  obtain ⟨x0, hx0⟩ : ∃ x0, x0 = a % 4294967296 := ⟨_, rfl⟩
  obtain ⟨x1, hx1⟩ : ∃ x1, x1 = a / 4294967296 := ⟨_, rfl⟩
  obtain ⟨y0, hy0⟩ : ∃ y0, y0 = b % 4294967296 := ⟨_, rfl⟩
  obtain ⟨y1, hy1⟩ : ∃ y1, y1 = b / 4294967296 := ⟨_, rfl⟩
  obtain ⟨w0, hw0⟩ : ∃ w0, w0 = x0 * y0 := ⟨_, rfl⟩
  obtain ⟨t, ht⟩ : ∃ t, t = x1 * y0 + w0 / 4294967296 := ⟨_, rfl⟩
  obtain ⟨w1, hw1⟩ : ∃ w1, w1 = t % 4294967296 := ⟨_, rfl⟩
  obtain ⟨w2, hw2⟩ : ∃ w2, w2 = t / 4294967296 := ⟨_, rfl⟩
  obtain ⟨v1, hv1⟩ : ∃ v1, v1 = w1 + x0 * y1 := ⟨_, rfl⟩
  obtain ⟨k1, k2, k3, k4, k5, k6, k7, k8, k9⟩ := mul64 ha hb hx0 hx1 hy0 hy1 hw0 ht hw1 hw2 hv1
  have wr : ∀ n : Nat, n < 18446744073709551616 → (n : Int) % 18446744073709551616 = n := fun n hn => by omega
  have q1 := hand a
  have q2 := hsh a
  have q3 := hand b
  have q4 := hsh b
  rw [← hx0] at q1
  rw [← hx1] at q2
  rw [← hy0] at q3
  rw [← hy1] at q4
  have q5 : (x0 : Int) * (y0 : Int) % 18446744073709551616 = (w0 : Int) := by rw [hw0, ← Int.natCast_mul, wr _ k4]
  have q6 : (x1 : Int) * (y0 : Int) % 18446744073709551616 = ((x1 * y0 : Nat) : Int) := by rw [← Int.natCast_mul, wr _ k5]
  have q7 := hsh w0
  have q8 : (((x1 * y0 : Nat) : Int) + ((w0 / 4294967296 : Nat) : Int)) % 18446744073709551616 = (t : Int) := by rw [← Int.natCast_add, ← ht, wr _ k1]
  have q9 := hand t
  have q10 := hsh t
  rw [← hw1] at q9
  rw [← hw2] at q10
  have q11 : (x0 : Int) * (y1 : Int) % 18446744073709551616 = ((x0 * y1 : Nat) : Int) := by rw [← Int.natCast_mul, wr _ k6]
  have q12 : ((w1 : Int) + ((x0 * y1 : Nat) : Int)) % 18446744073709551616 = (v1 : Int) := by rw [← Int.natCast_add, ← hv1, wr _ k2]
  have q13 : (x1 : Int) * (y1 : Int) % 18446744073709551616 = ((x1 * y1 : Nat) : Int) := by rw [← Int.natCast_mul, wr _ k9]
  have q14 : (((x1 * y1 : Nat) : Int) + (w2 : Int)) % 18446744073709551616 = ((x1 * y1 + w2 : Nat) : Int) := by rw [← Int.natCast_add, wr _ k8]
  have q15 := hsh v1
  have q16 : (((x1 * y1 + w2 : Nat) : Int) + ((v1 / 4294967296 : Nat) : Int)) % 18446744073709551616 = ((a * b / 18446744073709551616 : Nat) : Int) := by rw [← Int.natCast_add, k3, wr _ (by omega)]
  have q17 : (a : Int) * (b : Int) % 18446744073709551616 = ((a * b % 18446744073709551616 : Nat) : Int) := by rw [← Int.natCast_mul]; omega
  have bx0 : x0 ≤ 4294967295 := by omega
  clear hw0 ht hv1 hx0 hx1 hy0 hy1 hw1 hw2
  (repeat' ((conv => whnf); first | rw [q1] | rw [q2] | rw [q3] | rw [q4] | rw [q5] | rw [q6] | rw [q7] | rw [q8] | rw [q9] | rw [q10] | rw [q11] | rw [q12] | rw [q13] | rw [q14] | rw [q15] | rw [q16] | rw [q17] | (refine bcase_prop (fun h => ?_) (fun h => ?_) <;> try (exfalso; omega)) | (refine bcase_nprop (fun h => ?_) (fun h => ?_) <;> try (exfalso; omega)) | (refine bcase_intro (fun h => ?_) (fun h => ?_) <;> (try simp only [Bool.not_eq_true', Bool.not_eq_false', decide_eq_true_eq, decide_eq_false_iff_not, Bool.not_eq_true, Bool.not_eq_false, Decidable.not_not] at h)) | refine And.intro (by first | omega | exact rfl | assumption | exact ⟨rfl, rfl, rfl, rfl, rfl⟩ | exact ⟨rfl, rfl, rfl, rfl⟩ | exact ⟨rfl, by omega⟩ | exact oneAll_of rfl | exact ⟨rfl, oneAll_of rfl⟩ | exact Ref.refl _ | exact Thin.ref (.skip (Thin.refl _)) | exact Thin.ref (.skip (.skip (Thin.refl _))) | exact ⟨by omega, by omega, by decide, by decide⟩ | exact ⟨by decide, by show _ ≤ (64 : Int); decide⟩ | exact ⟨rfl, Nat.le_of_ble_eq_true rfl⟩ | ((try unfold maxLen); (try simp only [List.length_nil, List.length_cons, List.length_append]); omega) | (refine ⟨rfl, ?_⟩; (try simp only [List.length_nil, List.length_cons, List.length_append]); omega)) ?_ | intro _)); (all_goals (conv => whnf))
  exact ⟨rfl⟩

theorem calls_mAdd (a b : Nat) (ha : a < 18446744073709551616) (hb : b < 18446744073709551616) (w : World) : Calls Try.prog fn_modular_Add #[.int .u64 a, .int .u64 b] w fun e w' => e = .returned (.int .u64 ((a + b) % PP : Nat)) ∧ Ext w w' := by
  refine pure_call [.v (.int .u64 a), .v (.int .u64 b)] w ok_modular_Add (by simp) ?_
  have h1 : a % PP < PP := Nat.mod_lt _ (by decide)
  have h2 : b % PP < PP := Nat.mod_lt _ (by decide)
  have hs : (((a % PP : Nat) : Int) + ((b % PP : Nat) : Int)) % 18446744073709551616 = ((a % PP + b % PP : Nat) : Int) := by unfold PP at *; omega
  rw [← mod_add_mod']
  have hlt : a % PP + b % PP < 18446744073709551616 := by unfold PP at *; omega
  generalize a % PP + b % PP = s at *
  (repeat' ((conv => whnf); first | rw [hs] | refine CallK_pure (.v _) (fun w hR => calls_Reduce a ha w) ?_ | refine CallK_pure (.v _) (fun w hR => calls_Reduce b hb w) ?_ | refine CallK_pure (.v _) (fun w hR => calls_Reduce s hlt w) ?_ | (refine bcase_prop (fun h => ?_) (fun h => ?_) <;> try (exfalso; omega)) | (refine bcase_nprop (fun h => ?_) (fun h => ?_) <;> try (exfalso; omega)) | (refine bcase_intro (fun h => ?_) (fun h => ?_) <;> (try simp only [Bool.not_eq_true', Bool.not_eq_false', decide_eq_true_eq, decide_eq_false_iff_not, Bool.not_eq_true, Bool.not_eq_false, Decidable.not_not] at h)) | refine And.intro (by first | omega | exact rfl | assumption | exact ⟨rfl, rfl, rfl, rfl, rfl⟩ | exact ⟨rfl, rfl, rfl, rfl⟩ | exact ⟨rfl, by omega⟩ | exact oneAll_of rfl | exact ⟨rfl, oneAll_of rfl⟩ | exact Ref.refl _ | exact Thin.ref (.skip (Thin.refl _)) | exact Thin.ref (.skip (.skip (Thin.refl _))) | exact ⟨rfl, Nat.le_of_ble_eq_true rfl⟩ | ((try unfold maxLen); (try simp only [List.length_nil, List.length_cons, List.length_append]); omega) | (refine ⟨rfl, ?_⟩; (try simp only [List.length_nil, List.length_cons, List.length_append]); omega)) ?_ | intro _)); (all_goals (conv => whnf))
  exact ⟨rfl⟩

theorem calls_mMul (a b : Nat) (ha : a < 18446744073709551616) (hb : b < 18446744073709551616) (w : World) : Calls Try.prog fn_modular_Mul #[.int .u64 a, .int .u64 b] w fun e w' => e = .returned (.int .u64 (a * b % PP : Nat)) ∧ Ext w w' := by
  refine pure_call [.v (.int .u64 a), .v (.int .u64 b)] w ok_modular_Mul (by simp) ?_
  rw [← mod_mul_mod]
  have h1 : a % PP < PP := Nat.mod_lt _ (by decide)
  have h2 : b % PP < PP := Nat.mod_lt _ (by decide)
  have c1 := calls_Reduce a ha
  have c2 := calls_Reduce b hb
  generalize a % PP = x at *
  generalize b % PP = y at *
  have c3 := calls_Mul64 x y (Nat.lt_trans h1 (by decide)) (Nat.lt_trans h2 (by decide))
  obtain ⟨k1, k2, k3, k4⟩ := mulP h1 h2 rfl rfl
  rw [← k4]
  generalize hhi : x * y / 18446744073709551616 = hi at *
  generalize hlo : x * y % 18446744073709551616 = lo at *
  have hlo2 : lo < 18446744073709551616 := by omega
  have c4 := calls_Reduce _ k1
  have q1 : (hi : Int) * ((2 ^ (3 : Int).toNat : Nat) : Int) % 18446744073709551616 = ((hi * 8 : Nat) : Int) := by
    show (hi : Int) * 8 % 18446744073709551616 = _
    omega
  have q2 : (lo : Int) / ((2 ^ (61 : Int).toNat : Nat) : Int) = ((lo / 2305843009213693952 : Nat) : Int) := by rw [Int.natCast_ediv]; rfl
  have q3 : (((hi * 8 : Nat) : Int) + ((lo / 2305843009213693952 : Nat) : Int)) % 18446744073709551616 = ((hi * 8 + lo / 2305843009213693952 : Nat) : Int) := by omega
  have q4 : (((lo : Int).toNat &&& (2305843009213693951 : Int).toNat : Nat) : Int) = ((lo % 2305843009213693952 : Nat) : Int) := by rw [Int.toNat_natCast]; exact congrArg _ (and_mask lo)
  have q5 : (((hi * 8 + lo / 2305843009213693952 : Nat) : Int) + ((lo % 2305843009213693952 : Nat) : Int)) % 18446744073709551616 = ((hi * 8 + lo / 2305843009213693952 + lo % 2305843009213693952 : Nat) : Int) := by omega
  (repeat' ((conv => whnf); first | rw [q1] | rw [q2] | rw [q3] | rw [q4] | rw [q5] | refine CallK_pure (.v _) (fun w hR => c1 w) ?_ | refine CallK_pure (.v _) (fun w hR => c2 w) ?_ | refine CallK_pure (.v _) (fun w hR => c3 w) ?_ | refine CallK_pure (.v _) (fun w hR => c4 w) ?_ | (refine bcase_prop (fun h => ?_) (fun h => ?_) <;> try (exfalso; omega)) | (refine bcase_nprop (fun h => ?_) (fun h => ?_) <;> try (exfalso; omega)) | (refine bcase_intro (fun h => ?_) (fun h => ?_) <;> (try simp only [Bool.not_eq_true', Bool.not_eq_false', decide_eq_true_eq, decide_eq_false_iff_not, Bool.not_eq_true, Bool.not_eq_false, Decidable.not_not] at h)) | refine And.intro (by first | omega | exact rfl | assumption | exact ⟨rfl, rfl, rfl, rfl, rfl⟩ | exact ⟨rfl, rfl, rfl, rfl⟩ | exact ⟨rfl, by omega⟩ | exact oneAll_of rfl | exact ⟨rfl, oneAll_of rfl⟩ | exact Ref.refl _ | exact Thin.ref (.skip (Thin.refl _)) | exact Thin.ref (.skip (.skip (Thin.refl _))) | exact ⟨by omega, by omega, by decide, by decide⟩ | exact ⟨by decide, by show _ ≤ (64 : Int); decide⟩ | exact ⟨rfl, Nat.le_of_ble_eq_true rfl⟩ | ((try unfold maxLen); (try simp only [List.length_nil, List.length_cons, List.length_append]); omega) | (refine ⟨rfl, ?_⟩; (try simp only [List.length_nil, List.length_cons, List.length_append]); omega)) ?_ | intro _)); (all_goals (conv => whnf))
  exact ⟨rfl⟩

structure PowG where
  r : Nat
  a : Nat
  n : Nat
theorem calls_mPow (a n : Nat) (ha : a < 18446744073709551616) (hn : n < 18446744073709551616) (w : World) : Calls Try.prog fn_modular_Pow #[.int .u64 a, .int .u64 n] w fun e w' => e = .returned (.int .u64 (a ^ n % PP : Nat)) ∧ Ext w w' := by
  refine pure_call [.v (.int .u64 a), .v (.int .u64 n)] w ok_modular_Pow (by simp) ?_
  (repeat' ((conv => whnf); first | refine CallK_pure (.v _) (fun w hR => calls_Reduce a ha w) ?_ | (refine bcase_prop (fun h => ?_) (fun h => ?_) <;> try (exfalso; omega)) | (refine bcase_nprop (fun h => ?_) (fun h => ?_) <;> try (exfalso; omega)) | (refine bcase_intro (fun h => ?_) (fun h => ?_) <;> (try simp only [Bool.not_eq_true', Bool.not_eq_false', decide_eq_true_eq, decide_eq_false_iff_not, Bool.not_eq_true, Bool.not_eq_false, Decidable.not_not] at h)) | refine And.intro (by first | omega | exact rfl | assumption | exact ⟨rfl, rfl, rfl, rfl, rfl⟩ | exact ⟨rfl, rfl, rfl, rfl⟩ | exact ⟨rfl, by omega⟩ | exact oneAll_of rfl | exact ⟨rfl, oneAll_of rfl⟩ | exact Ref.refl _ | exact Thin.ref (.skip (Thin.refl _)) | exact Thin.ref (.skip (.skip (Thin.refl _))) | exact ⟨rfl, Nat.le_of_ble_eq_true rfl⟩ | ((try unfold maxLen); (try simp only [List.length_nil, List.length_cons, List.length_append]); omega) | (refine ⟨rfl, ?_⟩; (try simp only [List.length_nil, List.length_cons, List.length_append]); omega)) ?_ | intro _)); (all_goals (conv => whnf))
  refine VC_loop PowG (fun g => [(0, .v (.int .u64 g.a)), (1, .v (.int .u64 g.n)), (5, .v (.int .u64 g.r))]) (fun _ => []) (fun g => g.r < PP ∧ g.a < PP ∧ g.n < 18446744073709551616 ∧ g.r * g.a ^ g.n % PP = a ^ n % PP) (fun g => g.n) ⟨1, a % PP, n⟩ ⟨by dsimp only; decide, Nat.mod_lt _ (by decide), hn, by dsimp only; rw [Nat.one_mul, mod_pow]⟩ (by (repeat ((conv => whnf); refine And.intro (by first | exact rfl | exact vint_eq (by omega) | exact vint_eq (by (dsimp only; omega)) | exact vsl_eq (by omega) | exact vsl_eq (by first | (dsimp only; omega) | (simp; done) | (simp; omega))) ?_)); exact trivial) (Ref.refl _) ?_
  rintro ⟨r, x, m⟩ ⟨hr, hx, hm, hi⟩
  dsimp only at hr hx hm hi ⊢
  have c1 := calls_mMul r x (Nat.lt_trans hr (by decide)) (Nat.lt_trans hx (by decide))
  have c2 := calls_mMul x x (Nat.lt_trans hx (by decide)) (Nat.lt_trans hx (by decide))
  have hm2 : (m : Int) / 2 = ((m / 2 : Nat) : Int) := by omega
  (repeat' ((conv => whnf); first | refine CallK_pure (.v _) (fun w hR => c1 w) ?_ | refine CallK_pure (.v _) (fun w hR => c2 w) ?_ | rw [hm2] | (refine bcase_prop (fun h => ?_) (fun h => ?_) <;> try (exfalso; omega)) | (refine bcase_nprop (fun h => ?_) (fun h => ?_) <;> try (exfalso; omega)) | (refine bcase_intro (fun h => ?_) (fun h => ?_) <;> (try simp only [Bool.not_eq_true', Bool.not_eq_false', decide_eq_true_eq, decide_eq_false_iff_not, Bool.not_eq_true, Bool.not_eq_false, Decidable.not_not] at h)) | refine And.intro (by first | omega | exact rfl | assumption | exact ⟨rfl, rfl, rfl, rfl, rfl⟩ | exact ⟨rfl, rfl, rfl, rfl⟩ | exact ⟨rfl, by omega⟩ | exact oneAll_of rfl | exact ⟨rfl, oneAll_of rfl⟩ | exact Ref.refl _ | exact Thin.ref (.skip (Thin.refl _)) | exact Thin.ref (.skip (.skip (Thin.refl _))) | exact ⟨rfl, Nat.le_of_ble_eq_true rfl⟩ | ((try unfold maxLen); (try simp only [List.length_nil, List.length_cons, List.length_append]); omega) | (refine ⟨rfl, ?_⟩; (try simp only [List.length_nil, List.length_cons, List.length_append]); omega)) ?_ | intro _)); (all_goals (conv => whnf))
  · refine loop_next ⟨r * x % PP, x * x % PP, m / 2⟩ (by dsimp only; exact ⟨Nat.mod_lt _ (by decide), Nat.mod_lt _ (by decide), by omega, pow_round1 hi (by omega)⟩) (by ((try dsimp only); omega)) (by (repeat ((conv => whnf); refine And.intro (by first | exact rfl | exact vint_eq (by omega) | exact vint_eq (by (dsimp only; omega)) | exact vsl_eq (by omega) | exact vsl_eq (by first | (dsimp only; omega) | (simp; done) | (simp; omega))) ?_)); exact trivial) (Ref.refl _)
  · refine loop_next ⟨r, x * x % PP, m / 2⟩ (by dsimp only; exact ⟨hr, Nat.mod_lt _ (by decide), by omega, pow_round0 hi (by omega)⟩) (by ((try dsimp only); omega)) (by (repeat ((conv => whnf); refine And.intro (by first | exact rfl | exact vint_eq (by omega) | exact vint_eq (by (dsimp only; omega)) | exact vsl_eq (by omega) | exact vsl_eq (by first | (dsimp only; omega) | (simp; done) | (simp; omega))) ?_)); exact trivial) (Ref.refl _)
  · have hm0 : m = 0 := by omega
    subst hm0
    rw [Nat.pow_zero, Nat.mul_one, Nat.mod_eq_of_lt hr] at hi
    rw [← hi]
    exact ⟨rfl⟩

def mixN (k x y : Nat) : Nat := (k + (1234567890123456789 * x + 987654321987654321 * y)) ^ 17 % PP
theorem mixN_lt (k x y : Nat) : mixN k x y < PP := Nat.mod_lt _ (by decide)
theorem mixN_eq (k x y : Nat) : ((k + (1234567890123456789 * x % PP + 987654321987654321 * y % PP) % PP) % PP) ^ 17 % PP = mixN k x y := by
  unfold mixN
  rw [mod_add_mod', mod_pow]
  conv => lhs; rw [Nat.pow_mod, Nat.add_mod, Nat.mod_mod, ← Nat.add_mod, ← Nat.pow_mod]
end Go.Proofs.Ytagoedllflalpaa
