/- Equality of rows of integers. No condition. -/
import Derived.Test.YtkekhgnbdhlmhaaUse
import Derived.Test.YtkekhgnbdhlmhaaIr
namespace Go.Proofs.Ytkekhgnbdhlmhaa
open Go.EG
attribute [local irreducible] CallK QCall Go.Calls
set_option linter.unusedSimpArgs false
set_option linter.unusedVariables false
set_option maxRecDepth 20000

theorem getD_some {xs : List Int} {i : Nat} (h : i < xs.length) : xs[i]? = some (xs.getD i 0) := by
  simp [h]

theorem vc_Ints (w : World) (a b : Option Addr) (c d : Nat) (xs ys : List Int) (hx : In w [] a (ints .i64 xs)) (hy : In w [] b (ints .i64 ys)) (hl : xs.length < 9223372036854775807) :
    VC Try.prog w [] ir_evergreenbase_Ints (fnK [.t 4] fun v L => v = .bool (decide (xs = ys))) (startE 0 [.v (.slice a xs.length c), .v (.slice b ys.length d)]) [] := by
  (repeat' ((conv => whnf); first | (refine bcase_prop (fun h => ?_) (fun h => ?_) <;> try (exfalso; omega)) | (refine bcase_nprop (fun h => ?_) (fun h => ?_) <;> try (exfalso; omega)) | (refine bcase_intro (fun h => ?_) (fun h => ?_) <;> (try simp only [Bool.not_eq_true', Bool.not_eq_false', decide_eq_true_eq, decide_eq_false_iff_not, Bool.not_eq_true, Bool.not_eq_false, Decidable.not_not] at h)) | refine And.intro (by first | omega | exact rfl | assumption | exact ⟨rfl, rfl, rfl, rfl, rfl⟩ | exact ⟨rfl, rfl, rfl, rfl⟩ | exact ⟨rfl, by omega⟩ | exact oneAll_of rfl | exact ⟨rfl, oneAll_of rfl⟩ | exact ⟨rfl, Nat.le_of_ble_eq_true rfl⟩ | ((try unfold maxLen); (try simp only [List.length_nil, List.length_cons, List.length_append]); omega) | (refine ⟨rfl, ?_⟩; (try simp only [List.length_nil, List.length_cons, List.length_append]); omega)) ?_ | intro _)); (all_goals (conv => whnf))
  · refine ⟨?_⟩
    rw [decide_eq_false (by rintro rfl; exact h rfl)]
  · have hxy : xs.length = ys.length := by omega
    (conv => whnf)
    refine VC_loop Nat (fun i => [(0, .v (.slice a xs.length c)), (1, .v (.slice b ys.length d)), (5, .v (.int .i64 i))]) (fun _ => []) (fun i => i ≤ xs.length ∧ ∀ j, j < i → xs[j]? = ys[j]?) (fun i => xs.length - i) 0 ⟨by omega, fun j hj => by omega⟩ (by (repeat ((conv => whnf); refine And.intro (by first | exact rfl | exact vint_eq (by omega) | exact vsl_eq (by omega)) ?_)); exact trivial) (.refl _) ?_
    rintro i ⟨hi, hall⟩
    (repeat' ((conv => whnf); first | refine ⟨_, rdI hx (by omega), ?_⟩ | refine ⟨_, rdI hy (by omega), ?_⟩ | (refine bcase_prop (fun h => ?_) (fun h => ?_) <;> try (exfalso; omega)) | (refine bcase_nprop (fun h => ?_) (fun h => ?_) <;> try (exfalso; omega)) | (refine bcase_intro (fun h => ?_) (fun h => ?_) <;> (try simp only [Bool.not_eq_true', Bool.not_eq_false', decide_eq_true_eq, decide_eq_false_iff_not, Bool.not_eq_true, Bool.not_eq_false, Decidable.not_not] at h)) | refine And.intro (by first | omega | exact rfl | assumption | exact ⟨rfl, rfl, rfl, rfl, rfl⟩ | exact ⟨rfl, rfl, rfl, rfl⟩ | exact ⟨rfl, by omega⟩ | exact oneAll_of rfl | exact ⟨rfl, oneAll_of rfl⟩ | exact neI hx (by omega) | exact neI hy (by omega) | exact ⟨rfl, Nat.le_of_ble_eq_true rfl⟩ | ((try unfold maxLen); (try simp only [List.length_nil, List.length_cons, List.length_append]); omega) | (refine ⟨rfl, ?_⟩; (try simp only [List.length_nil, List.length_cons, List.length_append]); omega)) ?_ | intro _)); (all_goals (conv => whnf))
    · refine ⟨?_⟩
      rw [decide_eq_false (by rintro rfl; exact h rfl)]
    · refine loop_next (i + 1) ⟨by omega, fun j hj => ?_⟩ (by show xs.length - (i + 1) < _; omega) (by (repeat ((conv => whnf); refine And.intro (by first | exact rfl | exact vint_eq (by omega) | exact vsl_eq (by omega)) ?_)); exact trivial) (.refl _)
      rcases Nat.lt_succ_iff_lt_or_eq.1 hj with h1 | rfl
      · exact hall j h1
      · rw [getD_some (by omega), getD_some (by omega)]
        simp only [Int.toNat_natCast] at h
        rw [h]
    · refine ⟨?_⟩
      rw [decide_eq_true]
      apply List.ext_getElem?
      intro j
      by_cases hj : j < i
      · exact hall j hj
      · rw [List.getElem?_eq_none (by omega), List.getElem?_eq_none (by omega)]

theorem calls_Ints (w : World) (a b : Option Addr) (c d : Nat) (xs ys : List Int) (hx : In w [] a (ints .i64 xs)) (hy : In w [] b (ints .i64 ys)) (hl : xs.length < 9223372036854775807) :
    Calls Try.prog fn_evergreenbase_Ints #[.slice a xs.length c, .slice b ys.length d] w fun x w' => x = .returned (.bool (decide (xs = ys))) ∧ Ext w w' :=
  pure_call [.v (.slice a xs.length c), .v (.slice b ys.length d)] w ok_evergreenbase_Ints (by simp) (vc_Ints w a b c d xs ys hx hy hl)
end Go.Proofs.Ytkekhgnbdhlmhaa
