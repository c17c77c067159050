/- The reference's stretches and runs. Condition: at most 1000 elements. -/
import Derived.Test.YtkekhgnbdhlmhaaWalks1
namespace Go.Proofs.Ytkekhgnbdhlmhaa
open Go.EG
attribute [local irreducible] CallK QCall Go.Calls
set_option linter.unusedSimpArgs false
set_option linter.unusedVariables false
set_option maxRecDepth 20000

theorem vc_rStretches (w : World) (a : Option Addr) (c : Nat) (xs : List Int) (hx : In w [] a (ints .u64 xs)) (hl : xs.length ≤ 1000) :
    VC Try.prog w [] ir_evergreenref21_Stretches (fnK [.t 2] (endS w ty_api_Span 2 (stretches xs).length (prs .i64 (stretches xs)))) (startE 0 [.v (.slice a xs.length c)]) [] := by
  (repeat' ((conv => whnf); first | (refine bcase_prop (fun h => ?_) (fun h => ?_) <;> try (exfalso; omega)) | (refine bcase_nprop (fun h => ?_) (fun h => ?_) <;> try (exfalso; omega)) | (refine bcase_intro (fun h => ?_) (fun h => ?_) <;> (try simp only [Bool.not_eq_true', Bool.not_eq_false', decide_eq_true_eq, decide_eq_false_iff_not, Bool.not_eq_true, Bool.not_eq_false, Decidable.not_not] at h)) | refine And.intro (by first | omega | exact rfl | assumption | exact ⟨rfl, rfl, rfl, rfl, rfl⟩ | exact ⟨rfl, rfl, rfl, rfl⟩ | exact ⟨rfl, by omega⟩ | exact oneAll_of rfl | exact ⟨rfl, oneAll_of rfl⟩ | exact ⟨rfl, Nat.le_of_ble_eq_true rfl⟩ | ((try unfold maxLen); (try simp only [List.length_nil, List.length_cons, List.length_append]); omega) | (refine ⟨rfl, ?_⟩; (try simp only [List.length_nil, List.length_cons, List.length_append]); omega)) ?_ | intro _)); (all_goals (conv => whnf))
  refine VC_loop (Nat × List (Int × Int) × Option Addr × Nat) (fun (i, out, a', c') => [(0, .v (.slice a xs.length c)), (3, .sl 3 a' out.length c'), (4, .v (.int .i64 i))])
    (fun (i, out, a', c') => [.own 3 a' out.length c' ty_api_Span 2 (prs .i64 out)])
    (fun (i, out, a', c') => i ≤ xs.length ∧ out.length ≤ i ∧ stretches xs = out ++ strFrom xs i)
    (fun (i, out, a', c') => xs.length - i) (0, [], none, 0) ⟨by omega, by simp, by simp [strFrom_zero]⟩ (by (repeat ((conv => whnf); refine And.intro (by first | exact rfl | exact vint_eq (by omega) | exact vsl_eq (by omega)) ?_)); exact trivial) (Ref.ownNil 3 _ _) ?_
  rintro ⟨i, out, a', c'⟩ ⟨h1, h2, h3⟩
  dsimp only at h1 h2 h3 ⊢
  (repeat' ((conv => whnf); first | (refine bcase_prop (fun h => ?_) (fun h => ?_) <;> try (exfalso; omega)) | (refine bcase_nprop (fun h => ?_) (fun h => ?_) <;> try (exfalso; omega)) | (refine bcase_intro (fun h => ?_) (fun h => ?_) <;> (try simp only [Bool.not_eq_true', Bool.not_eq_false', decide_eq_true_eq, decide_eq_false_iff_not, Bool.not_eq_true, Bool.not_eq_false, Decidable.not_not] at h)) | refine And.intro (by first | omega | exact rfl | assumption | exact ⟨rfl, rfl, rfl, rfl, rfl⟩ | exact ⟨rfl, rfl, rfl, rfl⟩ | exact ⟨rfl, by omega⟩ | exact oneAll_of rfl | exact ⟨rfl, oneAll_of rfl⟩ | exact ⟨rfl, Nat.le_of_ble_eq_true rfl⟩ | ((try unfold maxLen); (try simp only [List.length_nil, List.length_cons, List.length_append]); omega) | (refine ⟨rfl, ?_⟩; (try simp only [List.length_nil, List.length_cons, List.length_append]); omega)) ?_ | intro _)); (all_goals (conv => whnf))
  · refine VC_loop Nat (fun k => [(0, .v (.slice a xs.length c)), (3, .sl 3 a' out.length c'), (4, .v (.int .i64 i)), (5, .v (.int .i64 k))])
      (fun k => [.own 3 a' out.length c' ty_api_Span 2 (prs .i64 out)])
      (fun k => i ≤ k ∧ k ≤ xs.length ∧ ∀ j, i ≤ j → j < k → xs.getD j 0 = xs.getD i 0) (fun k => xs.length - k) i ⟨by omega, by omega, fun j hj hk => by omega⟩ (by (repeat ((conv => whnf); refine And.intro (by first | exact rfl | exact vint_eq (by omega) | exact vsl_eq (by omega)) ?_)); exact trivial) (.refl _) ?_
    rintro k ⟨k1, k2, k3⟩
    (repeat' ((conv => whnf); first | refine ⟨_, rdI hx (by omega), ?_⟩ | (refine bcase_prop (fun h => ?_) (fun h => ?_) <;> try (exfalso; omega)) | (refine bcase_nprop (fun h => ?_) (fun h => ?_) <;> try (exfalso; omega)) | (refine bcase_intro (fun h => ?_) (fun h => ?_) <;> (try simp only [Bool.not_eq_true', Bool.not_eq_false', decide_eq_true_eq, decide_eq_false_iff_not, Bool.not_eq_true, Bool.not_eq_false, Decidable.not_not] at h)) | refine And.intro (by first | omega | exact rfl | assumption | exact ⟨rfl, rfl, rfl, rfl, rfl⟩ | exact ⟨rfl, rfl, rfl, rfl⟩ | exact ⟨rfl, by omega⟩ | exact oneAll_of rfl | exact ⟨rfl, oneAll_of rfl⟩ | exact neI hx (by omega) | exact ⟨rfl, Nat.le_of_ble_eq_true rfl⟩ | ((try unfold maxLen); (try simp only [List.length_nil, List.length_cons, List.length_append]); omega) | (refine ⟨rfl, ?_⟩; (try simp only [List.length_nil, List.length_cons, List.length_append]); omega)) ?_ | intro _)); (all_goals (conv => whnf))
    · simp only [Int.toNat_natCast] at h
      refine loop_next (k + 1) ⟨by omega, by omega, fun j hj hk => ?_⟩ (by show xs.length - (k + 1) < _; omega) (by (repeat ((conv => whnf); refine And.intro (by first | exact rfl | exact vint_eq (by omega) | exact vsl_eq (by omega)) ?_)); exact trivial) (.refl _)
      rcases Nat.lt_succ_iff_lt_or_eq.1 hk with h9 | rfl
      · exact k3 j hj h9
      · exact h
    · rename_i hik hkn hne b2 a2 b
      simp only [Int.toNat_natCast] at hne
      have hB : Block xs i k := ⟨by
        rcases Nat.lt_or_ge i k with h | h
        · exact h
        · rw [show k = i from by omega] at hne; exact absurd rfl hne, k2, k3, fun _ => hne⟩
      exact loop_next (k, out ++ [((i : Int), (k : Int) - i)], a2, b) (by dsimp only; refine ⟨by omega, by simp; have := hB.lt; omega, by rw [h3]; exact hB.str1 rfl h out⟩) (by dsimp only; have := hB.lt; omega) (by simp only [List.length_append, List.length_cons, List.length_nil]; (repeat ((conv => whnf); refine And.intro (by first | exact rfl | exact vint_eq (by omega) | exact vsl_eq (by omega)) ?_)); exact trivial) (Thin.ref (.skip (.own (by simp) prs_snoc (.nil _))))
    · rename_i hik hkn hne
      simp only [Int.toNat_natCast] at hne
      have hB : Block xs i k := ⟨by
        rcases Nat.lt_or_ge i k with h | h
        · exact h
        · rw [show k = i from by omega] at hne; exact absurd rfl hne, k2, k3, fun _ => hne⟩
      exact loop_next (k, out, a', c') (by dsimp only; refine ⟨by omega, by have := hB.lt; omega, by rw [h3]; exact hB.str2 rfl h out⟩) (by dsimp only; have := hB.lt; omega) (by (repeat ((conv => whnf); refine And.intro (by first | exact rfl | exact vint_eq (by omega) | exact vsl_eq (by omega)) ?_)); exact trivial) (.refl _)
    · rename_i hik hkn b2 a2 b
      have hB : Block xs i k := ⟨by omega, k2, k3, fun hh => by omega⟩
      exact loop_next (k, out ++ [((i : Int), (k : Int) - i)], a2, b) (by dsimp only; refine ⟨by omega, by simp; have := hB.lt; omega, by rw [h3]; exact hB.str1 rfl h out⟩) (by dsimp only; have := hB.lt; omega) (by simp only [List.length_append, List.length_cons, List.length_nil]; (repeat ((conv => whnf); refine And.intro (by first | exact rfl | exact vint_eq (by omega) | exact vsl_eq (by omega)) ?_)); exact trivial) (Thin.ref (.skip (.own (by simp) prs_snoc (.nil _))))
    · rename_i hik hkn
      have hB : Block xs i k := ⟨by omega, k2, k3, fun hh => by omega⟩
      exact loop_next (k, out, a', c') (by dsimp only; refine ⟨by omega, by have := hB.lt; omega, by rw [h3]; exact hB.str2 rfl h out⟩) (by dsimp only; have := hB.lt; omega) (by (repeat ((conv => whnf); refine And.intro (by first | exact rfl | exact vint_eq (by omega) | exact vsl_eq (by omega)) ?_)); exact trivial) (.refl _)
  · have e2 : stretches xs = out := by rw [h3, strFrom_end (by omega), List.append_nil]
    refine ⟨a', c', by rw [e2], ?_⟩
    rw [e2]
    exact Thin.ref (.own rfl rfl (.nil _))

theorem vc_rRuns (w : World) (a : Option Addr) (c : Nat) (xs : List Int) (hx : In w [] a (ints .i64 xs)) (hl : xs.length ≤ 1000) :
    VC Try.prog w [] ir_evergreenref21_Runs (fnK [.t 2] (endS w ty_api_Group 2 (runs xs).length (prs .i64 (runs xs)))) (startE 0 [.v (.slice a xs.length c)]) [] := by
  (repeat' ((conv => whnf); first | (refine bcase_prop (fun h => ?_) (fun h => ?_) <;> try (exfalso; omega)) | (refine bcase_nprop (fun h => ?_) (fun h => ?_) <;> try (exfalso; omega)) | (refine bcase_intro (fun h => ?_) (fun h => ?_) <;> (try simp only [Bool.not_eq_true', Bool.not_eq_false', decide_eq_true_eq, decide_eq_false_iff_not, Bool.not_eq_true, Bool.not_eq_false, Decidable.not_not] at h)) | refine And.intro (by first | omega | exact rfl | assumption | exact ⟨rfl, rfl, rfl, rfl, rfl⟩ | exact ⟨rfl, rfl, rfl, rfl⟩ | exact ⟨rfl, by omega⟩ | exact oneAll_of rfl | exact ⟨rfl, oneAll_of rfl⟩ | exact ⟨rfl, Nat.le_of_ble_eq_true rfl⟩ | ((try unfold maxLen); (try simp only [List.length_nil, List.length_cons, List.length_append]); omega) | (refine ⟨rfl, ?_⟩; (try simp only [List.length_nil, List.length_cons, List.length_append]); omega)) ?_ | intro _)); (all_goals (conv => whnf))
  refine VC_loop (Nat × List (Int × Int) × Option Addr × Nat) (fun (i, out, a', c') => [(0, .v (.slice a xs.length c)), (3, .sl 3 a' out.length c'), (4, .v (.int .i64 i))])
    (fun (i, out, a', c') => [.own 3 a' out.length c' ty_api_Group 2 (prs .i64 out)])
    (fun (i, out, a', c') => i ≤ xs.length ∧ out.length ≤ i ∧ runs xs = out ++ runs (xs.drop i))
    (fun (i, out, a', c') => xs.length - i) (0, [], none, 0) ⟨by omega, by simp, by simp⟩ (by (repeat ((conv => whnf); refine And.intro (by first | exact rfl | exact vint_eq (by omega) | exact vsl_eq (by omega)) ?_)); exact trivial) (Ref.ownNil 3 _ _) ?_
  rintro ⟨i, out, a', c'⟩ ⟨h1, h2, h3⟩
  dsimp only at h1 h2 h3 ⊢
  (repeat' ((conv => whnf); first | (refine bcase_prop (fun h => ?_) (fun h => ?_) <;> try (exfalso; omega)) | (refine bcase_nprop (fun h => ?_) (fun h => ?_) <;> try (exfalso; omega)) | (refine bcase_intro (fun h => ?_) (fun h => ?_) <;> (try simp only [Bool.not_eq_true', Bool.not_eq_false', decide_eq_true_eq, decide_eq_false_iff_not, Bool.not_eq_true, Bool.not_eq_false, Decidable.not_not] at h)) | refine And.intro (by first | omega | exact rfl | assumption | exact ⟨rfl, rfl, rfl, rfl, rfl⟩ | exact ⟨rfl, rfl, rfl, rfl⟩ | exact ⟨rfl, by omega⟩ | exact oneAll_of rfl | exact ⟨rfl, oneAll_of rfl⟩ | exact ⟨rfl, Nat.le_of_ble_eq_true rfl⟩ | ((try unfold maxLen); (try simp only [List.length_nil, List.length_cons, List.length_append]); omega) | (refine ⟨rfl, ?_⟩; (try simp only [List.length_nil, List.length_cons, List.length_append]); omega)) ?_ | intro _)); (all_goals (conv => whnf))
  · refine VC_loop Nat (fun k => [(0, .v (.slice a xs.length c)), (3, .sl 3 a' out.length c'), (4, .v (.int .i64 i)), (5, .v (.int .i64 k))])
      (fun k => [.own 3 a' out.length c' ty_api_Group 2 (prs .i64 out)])
      (fun k => i ≤ k ∧ k ≤ xs.length ∧ ∀ j, i ≤ j → j < k → xs.getD j 0 = xs.getD i 0) (fun k => xs.length - k) i ⟨by omega, by omega, fun j hj hk => by omega⟩ (by (repeat ((conv => whnf); refine And.intro (by first | exact rfl | exact vint_eq (by omega) | exact vsl_eq (by omega)) ?_)); exact trivial) (.refl _) ?_
    rintro k ⟨k1, k2, k3⟩
    (repeat' ((conv => whnf); first | refine ⟨_, rdI hx (by omega), ?_⟩ | (refine bcase_prop (fun h => ?_) (fun h => ?_) <;> try (exfalso; omega)) | (refine bcase_nprop (fun h => ?_) (fun h => ?_) <;> try (exfalso; omega)) | (refine bcase_intro (fun h => ?_) (fun h => ?_) <;> (try simp only [Bool.not_eq_true', Bool.not_eq_false', decide_eq_true_eq, decide_eq_false_iff_not, Bool.not_eq_true, Bool.not_eq_false, Decidable.not_not] at h)) | refine And.intro (by first | omega | exact rfl | assumption | exact ⟨rfl, rfl, rfl, rfl, rfl⟩ | exact ⟨rfl, rfl, rfl, rfl⟩ | exact ⟨rfl, by omega⟩ | exact oneAll_of rfl | exact ⟨rfl, oneAll_of rfl⟩ | exact neI hx (by omega) | exact ⟨rfl, Nat.le_of_ble_eq_true rfl⟩ | ((try unfold maxLen); (try simp only [List.length_nil, List.length_cons, List.length_append]); omega) | (refine ⟨rfl, ?_⟩; (try simp only [List.length_nil, List.length_cons, List.length_append]); omega)) ?_ | intro _)); (all_goals (conv => whnf))
    · simp only [Int.toNat_natCast] at h
      refine loop_next (k + 1) ⟨by omega, by omega, fun j hj hk => ?_⟩ (by show xs.length - (k + 1) < _; omega) (by (repeat ((conv => whnf); refine And.intro (by first | exact rfl | exact vint_eq (by omega) | exact vsl_eq (by omega)) ?_)); exact trivial) (.refl _)
      rcases Nat.lt_succ_iff_lt_or_eq.1 hk with h9 | rfl
      · exact k3 j hj h9
      · exact h
    · rename_i hik hkn b2 a2 b
      simp only [Int.toNat_natCast] at h
      have hB : Block xs i k := ⟨by
        rcases Nat.lt_or_ge i k with h9 | h9
        · exact h9
        · rw [show k = i from by omega] at h; exact absurd rfl h, k2, k3, fun _ => h⟩
      exact loop_next (k, out ++ [(xs.getD i 0, (k : Int) - i)], a2, b) (by dsimp only; refine ⟨by omega, by simp; have := hB.lt; omega, by rw [h3, hB.runs, List.append_assoc]; rfl⟩) (by dsimp only; have := hB.lt; omega) (by simp only [List.length_append, List.length_cons, List.length_nil]; (repeat ((conv => whnf); refine And.intro (by first | exact rfl | exact vint_eq (by omega) | exact vsl_eq (by omega)) ?_)); exact trivial) (Thin.ref (.skip (.own (by simp) prs_snoc (.nil _))))
    · rename_i hik b2 a2 b
      have hB : Block xs i k := ⟨by omega, k2, k3, fun hh => by omega⟩
      exact loop_next (k, out ++ [(xs.getD i 0, (k : Int) - i)], a2, b) (by dsimp only; refine ⟨by omega, by simp; have := hB.lt; omega, by rw [h3, hB.runs, List.append_assoc]; rfl⟩) (by dsimp only; have := hB.lt; omega) (by simp only [List.length_append, List.length_cons, List.length_nil]; (repeat ((conv => whnf); refine And.intro (by first | exact rfl | exact vint_eq (by omega) | exact vsl_eq (by omega)) ?_)); exact trivial) (Thin.ref (.skip (.own (by simp) prs_snoc (.nil _))))
  · have e2 : runs xs = out := by rw [h3, runs_end (by omega), List.append_nil]
    refine ⟨a', c', by rw [e2], ?_⟩
    rw [e2]
    exact Thin.ref (.own rfl rfl (.nil _))
end Go.Proofs.Ytkekhgnbdhlmhaa
