/- Runs and stretches, program and reference: the rows that they return. Condition: at most 1000 elements. -/
import Derived.Test.YtkekhgnbdhlmhaaBase
import Derived.Test.YtkekhgnbdhlmhaaMath
namespace Go.Proofs.Ytkekhgnbdhlmhaa
open Go.EG
attribute [local irreducible] CallK QCall Go.Calls
set_option linter.unusedSimpArgs false
set_option linter.unusedVariables false
set_option maxRecDepth 20000

theorem vc_Stretches (w : World) (a : Option Addr) (c : Nat) (xs : List Int) (hx : In w [] a (ints .u64 xs)) (hl : xs.length ≤ 1000) :
    VC Try.prog w [] ir_levels_Stretches (fnK [.t 2] (endS w ty_api_Span 2 (stretches xs).length (prs .i64 (stretches xs)))) (startE 0 [.v (.slice a xs.length c)]) [] := by
  (repeat' ((conv => whnf); first | (refine bcase_prop (fun h => ?_) (fun h => ?_) <;> try (exfalso; omega)) | (refine bcase_nprop (fun h => ?_) (fun h => ?_) <;> try (exfalso; omega)) | (refine bcase_intro (fun h => ?_) (fun h => ?_) <;> (try simp only [Bool.not_eq_true', Bool.not_eq_false', decide_eq_true_eq, decide_eq_false_iff_not, Bool.not_eq_true, Bool.not_eq_false, Decidable.not_not] at h)) | refine And.intro (by first | omega | exact rfl | assumption | exact ⟨rfl, rfl, rfl, rfl, rfl⟩ | exact ⟨rfl, rfl, rfl, rfl⟩ | exact ⟨rfl, by omega⟩ | exact oneAll_of rfl | exact ⟨rfl, oneAll_of rfl⟩ | exact ⟨rfl, Nat.le_of_ble_eq_true rfl⟩ | ((try unfold maxLen); (try simp only [List.length_nil, List.length_cons, List.length_append]); omega) | (refine ⟨rfl, ?_⟩; (try simp only [List.length_nil, List.length_cons, List.length_append]); omega)) ?_ | intro _)); (all_goals (conv => whnf))
  (conv => whnf)
  refine VC_loop (Nat × Nat × List (Int × Int) × Option Addr × Nat) (fun (i, f, out, a', c') => [(0, .v (.slice a xs.length c)), (3, .sl 3 a' out.length c'), (4, .v (.int .i64 f)), (8, .v (.int .i64 xs.length)), (9, .v (.int .i64 i))])
    (fun (i, f, out, a', c') => [.own 3 a' out.length c' ty_api_Span 2 (prs .i64 out)])
    (fun (i, f, out, a', c') => f ≤ i ∧ i ≤ xs.length ∧ out.length ≤ f ∧ stretches xs = out ++ strFrom xs f ∧ (i = xs.length → f = i) ∧ ∀ j, f ≤ j → j ≤ i → i < xs.length → xs.getD j 0 = xs.getD f 0)
    (fun (i, f, out, a', c') => xs.length - i) (0, 0, [], none, 0) ⟨by omega, by omega, by simp, by simp [strFrom_zero], by omega, fun j h1 h2 h3 => by rw [show j = 0 from by omega]⟩ (by (repeat ((conv => whnf); refine And.intro (by first | exact rfl | exact vint_eq (by omega) | exact vsl_eq (by omega)) ?_)); exact trivial) (Ref.ownNil 3 _ _) ?_
  rintro ⟨i, f, out, a', c'⟩ ⟨h1, h2, h3, h4, h5, h6⟩
  simp only at h1 h2 h3 h4 h5 h6 ⊢
  have hb : ∀ (h : (i : Int) < xs.length) (hs : i + 1 < xs.length → xs.getD (i + 1) 0 ≠ xs.getD i 0), Block xs f (i + 1) := fun h hs =>
    ⟨by omega, by omega, fun j ha hb => h6 j ha (by omega) (by omega), fun hk => by rw [← h6 i h1 (Nat.le_refl _) (by omega)]; exact hs hk⟩
  have hnew : ∀ j, i + 1 ≤ j → j ≤ i + 1 → i + 1 < xs.length → xs.getD j 0 = xs.getD (i + 1) 0 := fun j ha hb _ => by rw [show j = i + 1 from by omega]
  have e1 : ((i : Int) + 1).toNat = i + 1 := by omega
  have hst : xs.getD (i + 1) 0 = xs.getD i 0 → ∀ j, f ≤ j → j ≤ i + 1 → i + 1 < xs.length → xs.getD j 0 = xs.getD f 0 := fun h j ha hb _ => by
    rcases Nat.lt_succ_iff_lt_or_eq.1 (Nat.lt_succ_iff.2 hb) with h9 | rfl
    · exact h6 j ha (by omega) (by omega)
    · rw [h]; exact h6 i h1 (Nat.le_refl _) (by omega)
  (repeat' ((conv => whnf); first | refine ⟨_, rdI hx (by omega), ?_⟩ | (refine bcase_prop (fun h => ?_) (fun h => ?_) <;> try (exfalso; omega)) | (refine bcase_nprop (fun h => ?_) (fun h => ?_) <;> try (exfalso; omega)) | (refine bcase_intro (fun h => ?_) (fun h => ?_) <;> (try simp only [Bool.not_eq_true', Bool.not_eq_false', decide_eq_true_eq, decide_eq_false_iff_not, Bool.not_eq_true, Bool.not_eq_false, Decidable.not_not] at h)) | refine And.intro (by first | omega | exact rfl | assumption | exact ⟨rfl, rfl, rfl, rfl, rfl⟩ | exact ⟨rfl, rfl, rfl, rfl⟩ | exact ⟨rfl, by omega⟩ | exact oneAll_of rfl | exact ⟨rfl, oneAll_of rfl⟩ | exact neI hx (by omega) | exact ⟨rfl, Nat.le_of_ble_eq_true rfl⟩ | ((try unfold maxLen); (try simp only [List.length_nil, List.length_cons, List.length_append]); omega) | (refine ⟨rfl, ?_⟩; (try simp only [List.length_nil, List.length_cons, List.length_append]); omega)) ?_ | intro _)); (all_goals (conv => whnf))
  · rename_i h7 h8
    simp only [e1, Int.toNat_natCast] at h
    refine loop_next (i + 1, f, out, a', c') (by dsimp only; refine ⟨by omega, by omega, h3, h4, fun hh => by omega, hst h⟩) (by ((try dsimp only); omega)) (by (repeat ((conv => whnf); refine And.intro (by first | exact rfl | exact vint_eq (by omega) | exact vsl_eq (by omega)) ?_)); exact trivial) (.refl _)
  · rename_i h7 h8 h9 b2 a2 b
    rw [e1, Int.toNat_natCast] at h9
    have hB := hb h7 (fun _ => h9)
    refine loop_next (i + 1, i + 1, out ++ [((f : Int), (i : Int) + 1 - f)], a2, b) (by dsimp only; refine ⟨by omega, by omega, by simp; omega, by rw [h4]; first | exact hB.str1 (by omega) h out | exact hB.str2 (by omega) h out, by omega, hnew⟩) (by ((try dsimp only); omega)) (by simp only [List.length_append, List.length_cons, List.length_nil]; (repeat ((conv => whnf); refine And.intro (by first | exact rfl | exact vint_eq (by omega) | exact vsl_eq (by omega)) ?_)); exact trivial) (Thin.ref (.skip (.own (by simp) prs_snoc (.nil _))))
  · rename_i h7 h8 h9
    rw [e1, Int.toNat_natCast] at h9
    have hB := hb h7 (fun _ => h9)
    refine loop_next (i + 1, i + 1, out, a', c') (by dsimp only; refine ⟨by omega, by omega, by omega, by rw [h4]; first | exact hB.str1 (by omega) h out | exact hB.str2 (by omega) h out, by omega, hnew⟩) (by ((try dsimp only); omega)) (by (repeat ((conv => whnf); refine And.intro (by first | exact rfl | exact vint_eq (by omega) | exact vsl_eq (by omega)) ?_)); exact trivial) (.refl _)
  · rename_i h7 h8 b2 a2 b
    have hB := hb h7 (fun _ => by omega)
    refine loop_next (i + 1, i + 1, out ++ [((f : Int), (i : Int) + 1 - f)], a2, b) (by dsimp only; refine ⟨by omega, by omega, by simp; omega, by rw [h4]; first | exact hB.str1 (by omega) h out | exact hB.str2 (by omega) h out, by omega, hnew⟩) (by ((try dsimp only); omega)) (by simp only [List.length_append, List.length_cons, List.length_nil]; (repeat ((conv => whnf); refine And.intro (by first | exact rfl | exact vint_eq (by omega) | exact vsl_eq (by omega)) ?_)); exact trivial) (Thin.ref (.skip (.own (by simp) prs_snoc (.nil _))))
  · rename_i h7 h8
    have hB := hb h7 (fun _ => by omega)
    refine loop_next (i + 1, i + 1, out, a', c') (by dsimp only; refine ⟨by omega, by omega, by omega, by rw [h4]; first | exact hB.str1 (by omega) h out | exact hB.str2 (by omega) h out, by omega, hnew⟩) (by ((try dsimp only); omega)) (by (repeat ((conv => whnf); refine And.intro (by first | exact rfl | exact vint_eq (by omega) | exact vsl_eq (by omega)) ?_)); exact trivial) (.refl _)
  · have e2 : stretches xs = out := by rw [h4, strFrom_end (by omega), List.append_nil]
    refine ⟨a', c', by rw [e2], ?_⟩
    rw [e2]
    exact Thin.ref (.own rfl rfl (.nil _))
end Go.Proofs.Ytkekhgnbdhlmhaa
