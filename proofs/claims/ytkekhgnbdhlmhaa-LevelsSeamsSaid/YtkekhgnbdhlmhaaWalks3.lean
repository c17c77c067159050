/- The program's runs. Condition: at most 1000 elements. -/
import Derived.Test.YtkekhgnbdhlmhaaWalks2
namespace Go.Proofs.Ytkekhgnbdhlmhaa
open Go.EG
attribute [local irreducible] CallK QCall Go.Calls
set_option linter.unusedSimpArgs false
set_option linter.unusedVariables false
set_option maxRecDepth 20000

def RunRel (xs : List Int) (i : Nat) (out : List (Int × Int)) : Prop :=
  (i = 0 ∧ out = []) ∨ ∃ s init, s < i ∧ i ≤ xs.length ∧ init.length ≤ s ∧ out = init ++ [(xs.getD s 0, (i : Int) - s)] ∧ runs xs = init ++ runs (xs.drop s) ∧ ∀ j, s ≤ j → j < i → xs.getD j 0 = xs.getD s 0

theorem vc_Runs (w : World) (a : Option Addr) (c : Nat) (xs : List Int) (hx : In w [] a (ints .i64 xs)) (hl : xs.length ≤ 1000) :
    VC Try.prog w [] ir_levels_Runs (fnK [.t 2] (endS w ty_api_Group 2 (runs xs).length (prs .i64 (runs xs)))) (startE 0 [.v (.slice a xs.length c)]) [] := by
  (repeat' ((conv => whnf); first | (refine bcase_prop (fun h => ?_) (fun h => ?_) <;> try (exfalso; omega)) | (refine bcase_nprop (fun h => ?_) (fun h => ?_) <;> try (exfalso; omega)) | (refine bcase_intro (fun h => ?_) (fun h => ?_) <;> (try simp only [Bool.not_eq_true', Bool.not_eq_false', decide_eq_true_eq, decide_eq_false_iff_not, Bool.not_eq_true, Bool.not_eq_false, Decidable.not_not] at h)) | refine And.intro (by first | omega | exact rfl | assumption | exact ⟨rfl, rfl, rfl, rfl, rfl⟩ | exact ⟨rfl, rfl, rfl, rfl⟩ | exact ⟨rfl, by omega⟩ | exact oneAll_of rfl | exact ⟨rfl, oneAll_of rfl⟩ | exact ⟨rfl, Nat.le_of_ble_eq_true rfl⟩ | ((try unfold maxLen); (try simp only [List.length_nil, List.length_cons, List.length_append]); omega) | (refine ⟨rfl, ?_⟩; (try simp only [List.length_nil, List.length_cons, List.length_append]); omega)) ?_ | intro _)); (all_goals (conv => whnf))
  refine VC_loop (Nat × List (Int × Int) × Option Addr × Nat) (fun (i, out, a', c') => [(0, .v (.slice a xs.length c)), (3, .sl 3 a' out.length c'), (6, .v (.slice a xs.length c)), (7, .v (.int .i64 xs.length)), (8, .v (.int .i64 i))])
    (fun (i, out, a', c') => [.own 3 a' out.length c' ty_api_Group 2 (prs .i64 out)])
    (fun (i, out, a', c') => i ≤ xs.length ∧ RunRel xs i out)
    (fun (i, out, a', c') => xs.length - i) (0, [], none, 0) ⟨by omega, .inl ⟨rfl, rfl⟩⟩ (by (repeat ((conv => whnf); refine And.intro (by first | exact rfl | exact vint_eq (by omega) | exact vsl_eq (by omega)) ?_)); exact trivial) (Ref.ownNil 3 _ _) ?_
  rintro ⟨i, out, a', c'⟩ ⟨h1, h2⟩
  dsimp only at h1 h2 ⊢
  rcases h2 with ⟨rfl, rfl⟩ | ⟨s, init, hs, _, hi, rfl, hr, hall⟩
  · (repeat' ((conv => whnf); first | rw [prs_snoc] | (rw [last_prs]; rotate_left; · simp) | (rw [set_prs]; rotate_left; · simp) | refine ⟨_, rdI hx (by omega), ?_⟩ | (refine bcase_prop (fun h => ?_) (fun h => ?_) <;> try (exfalso; omega)) | (refine bcase_nprop (fun h => ?_) (fun h => ?_) <;> try (exfalso; omega)) | (refine bcase_intro (fun h => ?_) (fun h => ?_) <;> (try simp only [Bool.not_eq_true', Bool.not_eq_false', decide_eq_true_eq, decide_eq_false_iff_not, Bool.not_eq_true, Bool.not_eq_false, Decidable.not_not] at h)) | refine And.intro (by first | omega | exact rfl | assumption | exact ⟨rfl, rfl, rfl, rfl, rfl⟩ | exact ⟨rfl, rfl, rfl, rfl⟩ | exact ⟨rfl, by omega⟩ | exact oneAll_of rfl | exact ⟨rfl, oneAll_of rfl⟩ | exact neI hx (by omega) | exact isK_prs2 (by simp) | exact ⟨rfl, Nat.le_of_ble_eq_true rfl⟩ | ((try unfold maxLen); (try simp only [List.length_nil, List.length_cons, List.length_append]); omega) | (refine ⟨rfl, ?_⟩; (try simp only [List.length_nil, List.length_cons, List.length_append]); omega)) ?_ | intro _)); (all_goals (conv => whnf))
    · exact loop_next (1, [] ++ [(xs.getD 0 0, 0 + 1)], _, _) ⟨by ((try dsimp only); omega), .inr ⟨0, [], by omega, by ((try dsimp only); omega), by simp, rfl, by simp, fun j h1 h2 => by dsimp only at h2; rw [show j = 0 from by omega]⟩⟩ (by ((try dsimp only); omega)) (by (repeat ((conv => whnf); refine And.intro (by first | exact rfl | exact vint_eq (by omega) | exact vsl_eq (by omega)) ?_)); exact trivial) (Thin.ref (.skip (.own rfl rfl (.nil _))))
    · rw [show xs = [] from List.eq_nil_of_length_eq_zero (by omega)]
      exact ⟨_, _, rfl, Thin.ref (.own rfl rfl (.nil _))⟩
  · have e1 : ((i : Int) - 1).toNat = i - 1 := by omega
    have e2 : xs.getD (i - 1) 0 = xs.getD s 0 := hall (i - 1) (by omega) (by omega)
    (repeat' ((conv => whnf); first | rw [prs_snoc] | (rw [last_prs]; rotate_left; · simp) | (rw [set_prs]; rotate_left; · simp) | refine ⟨_, rdI hx (by omega), ?_⟩ | (refine bcase_prop (fun h => ?_) (fun h => ?_) <;> try (exfalso; omega)) | (refine bcase_nprop (fun h => ?_) (fun h => ?_) <;> try (exfalso; omega)) | (refine bcase_intro (fun h => ?_) (fun h => ?_) <;> (try simp only [Bool.not_eq_true', Bool.not_eq_false', decide_eq_true_eq, decide_eq_false_iff_not, Bool.not_eq_true, Bool.not_eq_false, Decidable.not_not] at h)) | refine And.intro (by first | omega | exact rfl | assumption | exact ⟨rfl, rfl, rfl, rfl, rfl⟩ | exact ⟨rfl, rfl, rfl, rfl⟩ | exact ⟨rfl, by omega⟩ | exact oneAll_of rfl | exact ⟨rfl, oneAll_of rfl⟩ | exact neI hx (by omega) | exact isK_prs2 (by simp) | (dsimp only; omega) | (refine ⟨rfl, ?_⟩; rw [prs_length]; simp; omega) | exact ⟨rfl, Nat.le_of_ble_eq_true rfl⟩ | ((try unfold maxLen); (try simp only [List.length_nil, List.length_cons, List.length_append]); omega) | (refine ⟨rfl, ?_⟩; (try simp only [List.length_nil, List.length_cons, List.length_append]); omega)) ?_ | intro _)); (all_goals (conv => whnf))
    · rename_i hin hi0 b2 a2 b
      simp only [Int.toNat_natCast, e1, e2] at h
      have hB : Block xs s i := ⟨hs, h1, hall, fun _ hh => h hh.symm⟩
      refine loop_next (i + 1, (init ++ [(xs.getD s 0, (i : Int) - s)]) ++ [(xs.getD i 0, 0 + 1)], _, _) ⟨by ((try dsimp only); omega), .inr ⟨i, init ++ [(xs.getD s 0, (i : Int) - s)], by ((try dsimp only); omega), by ((try dsimp only); omega), by simp; omega, ?_, ?_, fun j h1 h2 => by dsimp only at h2; rw [show j = i from by omega]⟩⟩ (by ((try dsimp only); omega)) (by (try simp only [List.length_append, List.length_cons, List.length_nil]); (repeat ((conv => whnf); refine And.intro (by first | exact rfl | exact vint_eq (by omega) | exact vsl_eq (by omega)) ?_)); exact trivial) (Thin.ref (.skip (.own (by simp) rfl (.nil _))))
      · dsimp only
        rw [show ((i + 1 : Nat) : Int) - i = 0 + 1 from by omega]
      · rw [hr, hB.runs, List.append_assoc]; rfl
    · rename_i hin hi0
      simp only [Int.toNat_natCast, e1, e2] at h
      refine loop_next (i + 1, init ++ [(xs.getD s 0, (i : Int) - s + 1)], _, _) ⟨by ((try dsimp only); omega), .inr ⟨s, init, by ((try dsimp only); omega), by ((try dsimp only); omega), hi, ?_, hr, fun j h1 h2 => ?_⟩⟩ (by ((try dsimp only); omega)) (by (try simp only [List.length_append, List.length_cons, List.length_nil]); (repeat ((conv => whnf); refine And.intro (by first | exact rfl | exact vint_eq (by omega) | exact vsl_eq (by omega)) ?_)); exact trivial) (Thin.ref (.own (by simp) rfl (.nil _)))
      · dsimp only
        rw [show ((i + 1 : Nat) : Int) - s = (i : Int) - s + 1 from by omega]
      · dsimp only at h2
        rcases Nat.lt_succ_iff_lt_or_eq.1 h2 with h9 | rfl
        · exact hall j h1 h9
        · exact h.symm
    · have hB : Block xs s i := ⟨hs, h1, hall, fun hh => by omega⟩
      have e3 : runs xs = init ++ [(xs.getD s 0, (i : Int) - s)] := by rw [hr, hB.runs, runs_end (by omega)]
      exact ⟨_, _, by rw [e3], by rw [e3]; exact Thin.ref (.own rfl rfl (.nil _))⟩
end Go.Proofs.Ytkekhgnbdhlmhaa
