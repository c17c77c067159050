/- The law of pairs that are apart: the Go function returns true. No condition but that what is read was there at the start. -/
import Derived.Test.YtkekhgnbdhlmhaaLaws3
namespace Go.Proofs.Ytkekhgnbdhlmhaa
open Go.EG
attribute [local irreducible] CallK QCall Go.Calls
set_option linter.unusedSimpArgs false
set_option linter.unusedVariables false
set_option maxRecDepth 20000

theorem law_LevelsApart (w : World) (a : Option Addr) (c : Nat) (xs : List Int) (l : Int) (hx : In w [] a (ints .u64 xs)) (hu : U64s xs) (hm : xs.length ≤ 140737488351232) (hl1 : l ≤ 9223372036854775807) :
    Calls Try.prog fn_evergreenlaw21_LevelsApart #[.slice a xs.length c, .int .i64 l] w fun x w' => x = .returned (.bool true) ∧ Ext w w' := by
  refine pure_call [.v (.slice a xs.length c), .v (.int .i64 l)] w ok_evergreenlaw21_LevelsApart (by simp) ?_
  have hpl := pairsF_length xs l
  have hgap := pairs_gap xs l
  generalize hP : pairsF xs l = P at hpl hgap
  have hfit : ∀ z ∈ P, 0 ≤ z ∧ z + 1 < xs.length ∧ fitsF (xs.getD z.toNat 0) (xs.getD (z + 1).toNat 0) l = true := fun z hz => pairs_fit (by rw [hP]; exact hz)
  (repeat' ((conv => whnf); first | refine CallK_pure (.v _) (fun w' hR => calls_awake w') ?_ | refine CallK_slice 25 (fun w' hR => calls_Pairs w' a c xs l (hx.cast hR (by simp)) (by omega) hu (by omega)) ?_ | (refine bcase_prop (fun h => ?_) (fun h => ?_) <;> try (exfalso; omega)) | (refine bcase_nprop (fun h => ?_) (fun h => ?_) <;> try (exfalso; omega)) | (refine bcase_intro (fun h => ?_) (fun h => ?_) <;> (try simp only [Bool.not_eq_true', Bool.not_eq_false', decide_eq_true_eq, decide_eq_false_iff_not, Bool.not_eq_true, Bool.not_eq_false, Decidable.not_not] at h)) | refine And.intro (by first | omega | exact rfl | assumption | exact ⟨rfl, rfl, rfl, rfl, rfl⟩ | exact ⟨rfl, rfl, rfl, rfl⟩ | exact ⟨rfl, by omega⟩ | exact oneAll_of rfl | exact ⟨rfl, oneAll_of rfl⟩ | exact ⟨rfl, Nat.le_of_ble_eq_true rfl⟩ | ((try unfold maxLen); (try simp only [List.length_nil, List.length_cons, List.length_append]); omega) | (refine ⟨rfl, ?_⟩; (try simp only [List.length_nil, List.length_cons, List.length_append]); omega)) ?_ | intro _)); (all_goals (conv => whnf))
  · exact ⟨rfl⟩
  · rename_i a1 c1
    rw [hP]
    refine VC_loop Nat (fun i => [(0, .v (.slice a xs.length c)), (1, .v (.int .i64 l)), (5, .sl 25 a1 P.length c1), (6, .v (.int .i64 (if i = 0 then -2 else P.getD (i - 1) 0))), (7, .v (.int .i64 0)), (26, .sl 25 a1 P.length c1), (27, .v (.int .i64 P.length)), (28, .v (.int .i64 i))])
      (fun i => [.own 25 a1 P.length c1 ty_int 1 (ints .i64 P)]) (fun i => i ≤ P.length) (fun i => P.length - i) 0 (by ((try dsimp only); omega)) (by (repeat ((conv => whnf); refine And.intro (by first | exact rfl | exact vint_eq (by omega) | exact vsl_eq (by omega)) ?_)); exact trivial) (.refl _) ?_
    intro i hi
    by_cases h1 : i < P.length
    · have hz := hfit (P.getD i 0) (by simp [h1])
      have hg := hgap.get h1
      have e1 := intOf_ints (k := .i64) h1
      have hlast : (if i = 0 then -2 else P.getD (i - 1) 0) + 2 ≤ P.getD i 0 ∧ -2 ≤ (if i = 0 then -2 else P.getD (i - 1) 0) := by
        split at hg
        · rename_i h0; rw [if_pos h0]; omega
        · rename_i h0; rw [if_neg h0]
          have := hfit (P.getD (i - 1) 0) (by simp [show i - 1 < P.length from by omega])
          omega
      have hnx : (if i + 1 = 0 then (-2 : Int) else P.getD (i + 1 - 1) 0) = P.getD i 0 := by simp
      generalize hlz : (if i = 0 then (-2 : Int) else P.getD (i - 1) 0) = last at hlast
      generalize hzz : P.getD i 0 = z at *
      have hcf : ∀ w', Calls Try.prog fn_keys_Fits #[.int .u64 (xs.getD z.toNat 0), .int .u64 (xs.getD (z + 1).toNat 0), .int .i64 l] w' fun e w'' => e = .returned (.bool true) ∧ Ext w' w'' := fun w' => by
        have := calls_Fits (xs.getD z.toNat 0) (xs.getD (z + 1).toNat 0) l w' (hu _) (hu _) hl1
        rw [hz.2.2] at this; exact this
      (repeat' ((conv => whnf); first | rw [Int.toNat_natCast] | rw [e1] | refine ⟨_, rdI hx (by omega), ?_⟩ | refine CallK_pure (.v _) (fun w' hR => hcf w') ?_ | refine And.intro (Ref.refl _) ?_ | (refine bcase_prop (fun h => ?_) (fun h => ?_) <;> try (exfalso; omega)) | (refine bcase_nprop (fun h => ?_) (fun h => ?_) <;> try (exfalso; omega)) | (refine bcase_intro (fun h => ?_) (fun h => ?_) <;> (try simp only [Bool.not_eq_true', Bool.not_eq_false', decide_eq_true_eq, decide_eq_false_iff_not, Bool.not_eq_true, Bool.not_eq_false, Decidable.not_not] at h)) | refine And.intro (by first | omega | exact rfl | assumption | exact ⟨rfl, rfl, rfl, rfl, rfl⟩ | exact ⟨rfl, rfl, rfl, rfl⟩ | exact ⟨rfl, by omega⟩ | exact oneAll_of rfl | exact ⟨rfl, oneAll_of rfl⟩ | exact neI hx (by omega) | exact isK_ints (by omega) | exact ⟨rfl, Nat.le_of_ble_eq_true rfl⟩ | ((try unfold maxLen); (try simp only [List.length_nil, List.length_cons, List.length_append]); omega) | (refine ⟨rfl, ?_⟩; (try simp only [List.length_nil, List.length_cons, List.length_append]); omega)) ?_ | intro _)); (all_goals (conv => whnf))
      exact loop_next (i + 1) (by ((try dsimp only); omega)) (by ((try dsimp only); omega)) (by rw [hnx]; (repeat ((conv => whnf); refine And.intro (by first | exact rfl | exact vint_eq (by omega) | exact vsl_eq (by omega)) ?_)); exact trivial) (.refl _)
    · clear hgap
      cases ht : tieF l with
      | true =>
        have hc : ∀ w, Calls Try.prog fn_keys_Number #[.int .i64 l] w fun x w' => x = .returned (.tuple #[.int .i64 (bitN l), .int .u64 (firstN l), .bool true]) ∧ Ext w w' := fun w => by
          have := calls_Number l w hl1
          rw [ht] at this; exact this
        (repeat' ((conv => whnf); first | refine CallK_pure (.v _) (fun w hR => hc w) ?_ | (refine bcase_prop (fun h => ?_) (fun h => ?_) <;> try (exfalso; omega)) | (refine bcase_nprop (fun h => ?_) (fun h => ?_) <;> try (exfalso; omega)) | (refine bcase_intro (fun h => ?_) (fun h => ?_) <;> (try simp only [Bool.not_eq_true', Bool.not_eq_false', decide_eq_true_eq, decide_eq_false_iff_not, Bool.not_eq_true, Bool.not_eq_false, Decidable.not_not] at h)) | refine And.intro (by first | omega | exact rfl | assumption | exact ⟨rfl, rfl, rfl, rfl, rfl⟩ | exact ⟨rfl, rfl, rfl, rfl⟩ | exact ⟨rfl, by omega⟩ | exact oneAll_of rfl | exact ⟨rfl, oneAll_of rfl⟩ | exact ⟨rfl, Nat.le_of_ble_eq_true rfl⟩ | ((try unfold maxLen); (try simp only [List.length_nil, List.length_cons, List.length_append]); omega) | (refine ⟨rfl, ?_⟩; (try simp only [List.length_nil, List.length_cons, List.length_append]); omega)) ?_ | intro _)); (all_goals (conv => whnf))
        refine VC_loop Nat (fun i => [(0, .v (.slice a xs.length c)), (12, .v (.bool true)), (13, .v (.int .i64 0))])
          (fun i => []) (fun i => True) (fun i => 0) 0 trivial (by (repeat ((conv => whnf); refine And.intro (by first | exact rfl | exact vint_eq (by omega) | exact vsl_eq (by omega)) ?_)); exact trivial) (Thin.ref (.nil _)) ?_
        intro i _
        (repeat' ((conv => whnf); first | (refine bcase_prop (fun h => ?_) (fun h => ?_) <;> try (exfalso; omega)) | (refine bcase_nprop (fun h => ?_) (fun h => ?_) <;> try (exfalso; omega)) | (refine bcase_intro (fun h => ?_) (fun h => ?_) <;> (try simp only [Bool.not_eq_true', Bool.not_eq_false', decide_eq_true_eq, decide_eq_false_iff_not, Bool.not_eq_true, Bool.not_eq_false, Decidable.not_not] at h)) | refine And.intro (by first | omega | exact rfl | assumption | exact ⟨rfl, rfl, rfl, rfl, rfl⟩ | exact ⟨rfl, rfl, rfl, rfl⟩ | exact ⟨rfl, by omega⟩ | exact oneAll_of rfl | exact ⟨rfl, oneAll_of rfl⟩ | exact ⟨rfl, Nat.le_of_ble_eq_true rfl⟩ | ((try unfold maxLen); (try simp only [List.length_nil, List.length_cons, List.length_append]); omega) | (refine ⟨rfl, ?_⟩; (try simp only [List.length_nil, List.length_cons, List.length_append]); omega)) ?_ | intro _)); (all_goals (conv => whnf))
        · exact ⟨rfl⟩
        · exact ⟨rfl⟩
      | false =>
        have hpk := pairs_pick (xs := xs) ht
        rw [hP] at hpk
        have hc : ∀ w, Calls Try.prog fn_keys_Number #[.int .i64 l] w fun x w' => x = .returned (.tuple #[.int .i64 (bitN l), .int .u64 (firstN l), .bool false]) ∧ Ext w w' := fun w => by
          have := calls_Number l w hl1
          rw [ht] at this; exact this
        (repeat' ((conv => whnf); first | refine CallK_pure (.v _) (fun w hR => hc w) ?_ | (refine bcase_prop (fun h => ?_) (fun h => ?_) <;> try (exfalso; omega)) | (refine bcase_nprop (fun h => ?_) (fun h => ?_) <;> try (exfalso; omega)) | (refine bcase_intro (fun h => ?_) (fun h => ?_) <;> (try simp only [Bool.not_eq_true', Bool.not_eq_false', decide_eq_true_eq, decide_eq_false_iff_not, Bool.not_eq_true, Bool.not_eq_false, Decidable.not_not] at h)) | refine And.intro (by first | omega | exact rfl | assumption | exact ⟨rfl, rfl, rfl, rfl, rfl⟩ | exact ⟨rfl, rfl, rfl, rfl⟩ | exact ⟨rfl, by omega⟩ | exact oneAll_of rfl | exact ⟨rfl, oneAll_of rfl⟩ | exact ⟨rfl, Nat.le_of_ble_eq_true rfl⟩ | ((try unfold maxLen); (try simp only [List.length_nil, List.length_cons, List.length_append]); omega) | (refine ⟨rfl, ?_⟩; (try simp only [List.length_nil, List.length_cons, List.length_append]); omega)) ?_ | intro _)); (all_goals (conv => whnf))
        refine VC_loop Nat (fun i => [(0, .v (.slice a xs.length c)), (1, .v (.int .i64 l)), (5, .sl 25 a1 P.length c1), (7, .v (.int .i64 (pick (pF xs l) i).length)), (12, .v (.bool false)), (13, .v (.int .i64 i))])
          (fun i => [.own 25 a1 P.length c1 ty_int 1 (ints .i64 P)]) (fun i => i ≤ xs.length - 1) (fun i => xs.length - 1 - i) 0 (by ((try dsimp only); omega)) (by (repeat ((conv => whnf); refine And.intro (by first | exact rfl | exact vint_eq (by omega) | exact vsl_eq (by omega)) ?_)); exact trivial) (.refl _) ?_
        intro i hi2
        have e2 : ((i : Int) + 1).toNat = i + 1 := by omega
        have hk := pick_length (pF xs l) i
        by_cases h2 : i < xs.length - 1
        · have hat := pick_at (p := pF xs l) h2
          rw [← hpk] at hat
          have hs : pick (pF xs l) (i + 1) = pick (pF xs l) i ++ if pF xs l i = true then [(i : Int)] else [] := rfl
          cases hf : pF xs l i with
          | true =>
            have hcf : ∀ w', Calls Try.prog fn_keys_Fits #[.int .u64 (xs.getD i 0), .int .u64 (xs.getD (i + 1) 0), .int .i64 l] w' fun e w'' => e = .returned (.bool true) ∧ Ext w' w'' := fun w' => by
              have := calls_Fits (xs.getD i 0) (xs.getD (i + 1) 0) l w' (hu _) (hu _) hl1
              rw [show fitsF (xs.getD i 0) (xs.getD (i + 1) 0) l = true from hf] at this; exact this
            have h3 := hat.2 hf
            rw [hf, if_pos rfl] at hs
            generalize hkk : pick (pF xs l) i = pk at *
            have e1 := intOf_ints (k := .i64) h3.1
            rw [h3.2] at e1
            (repeat' ((conv => whnf); first | rw [Int.toNat_natCast] | rw [e2] | rw [e1] | refine ⟨_, rdI hx (by omega), ?_⟩ | refine CallK_pure (.v _) (fun w' hR => hcf w') ?_ | refine And.intro (Ref.refl _) ?_ | (refine bcase_prop (fun h => ?_) (fun h => ?_) <;> try (exfalso; omega)) | (refine bcase_nprop (fun h => ?_) (fun h => ?_) <;> try (exfalso; omega)) | (refine bcase_intro (fun h => ?_) (fun h => ?_) <;> (try simp only [Bool.not_eq_true', Bool.not_eq_false', decide_eq_true_eq, decide_eq_false_iff_not, Bool.not_eq_true, Bool.not_eq_false, Decidable.not_not] at h)) | refine And.intro (by first | omega | exact rfl | assumption | exact ⟨rfl, rfl, rfl, rfl, rfl⟩ | exact ⟨rfl, rfl, rfl, rfl⟩ | exact ⟨rfl, by omega⟩ | exact oneAll_of rfl | exact ⟨rfl, oneAll_of rfl⟩ | exact neI hx (by omega) | exact isK_ints (by omega) | exact ⟨rfl, Nat.le_of_ble_eq_true rfl⟩ | ((try unfold maxLen); (try simp only [List.length_nil, List.length_cons, List.length_append]); omega) | (refine ⟨rfl, ?_⟩; (try simp only [List.length_nil, List.length_cons, List.length_append]); omega)) ?_ | intro _)); (all_goals (conv => whnf))
            · exfalso; simp at h
            · exact loop_next (i + 1) (by ((try dsimp only); omega)) (by ((try dsimp only); omega)) (by rw [hs]; (try simp only [List.length_append, List.length_cons, List.length_nil]); (repeat ((conv => whnf); refine And.intro (by first | exact rfl | exact vint_eq (by omega) | exact vsl_eq (by omega)) ?_)); exact trivial) (.refl _)
          | false =>
            have hcf : ∀ w', Calls Try.prog fn_keys_Fits #[.int .u64 (xs.getD i 0), .int .u64 (xs.getD (i + 1) 0), .int .i64 l] w' fun e w'' => e = .returned (.bool false) ∧ Ext w' w'' := fun w' => by
              have := calls_Fits (xs.getD i 0) (xs.getD (i + 1) 0) l w' (hu _) (hu _) hl1
              rw [show fitsF (xs.getD i 0) (xs.getD (i + 1) 0) l = false from hf] at this; exact this
            have h3 : ¬ ((pick (pF xs l) i).length < P.length ∧ P.getD (pick (pF xs l) i).length 0 = i) := fun h => by
              have := hat.1 h
              rw [hf] at this; cases this
            rw [hf, if_neg (by simp), List.append_nil] at hs
            rw [← hs] at h3
            rw [← hs] at hk
            rw [← hs]
            generalize hkk : (pick (pF xs l) (i + 1)).length = kk at *
            (repeat' ((conv => whnf); first | rw [Int.toNat_natCast] | rw [e2] | refine ⟨_, rdI hx (by omega), ?_⟩ | refine CallK_pure (.v _) (fun w' hR => hcf w') ?_ | refine And.intro (Ref.refl _) ?_ | (refine bcase_prop (fun h => ?_) (fun h => ?_) <;> try (exfalso; omega)) | (refine bcase_nprop (fun h => ?_) (fun h => ?_) <;> try (exfalso; omega)) | (refine bcase_intro (fun h => ?_) (fun h => ?_) <;> (try simp only [Bool.not_eq_true', Bool.not_eq_false', decide_eq_true_eq, decide_eq_false_iff_not, Bool.not_eq_true, Bool.not_eq_false, Decidable.not_not] at h)) | refine And.intro (by first | omega | exact rfl | assumption | exact ⟨rfl, rfl, rfl, rfl, rfl⟩ | exact ⟨rfl, rfl, rfl, rfl⟩ | exact ⟨rfl, by omega⟩ | exact oneAll_of rfl | exact ⟨rfl, oneAll_of rfl⟩ | exact neI hx (by omega) | exact isK_ints (by omega) | exact ⟨rfl, Nat.le_of_ble_eq_true rfl⟩ | ((try unfold maxLen); (try simp only [List.length_nil, List.length_cons, List.length_append]); omega) | (refine ⟨rfl, ?_⟩; (try simp only [List.length_nil, List.length_cons, List.length_append]); omega)) ?_ | intro _)); (all_goals (conv => whnf))
            · rename_i h5
              exfalso
              rw [intOf_ints (by omega), decide_eq_false (fun h9 => h3 ⟨by omega, h9⟩)] at h
              exact h rfl
            all_goals exact loop_next (i + 1) (by ((try dsimp only); omega)) (by ((try dsimp only); omega)) (by rw [hkk]; (repeat ((conv => whnf); refine And.intro (by first | exact rfl | exact vint_eq (by omega) | exact vsl_eq (by omega)) ?_)); exact trivial) (.refl _)
        · (repeat' ((conv => whnf); first | (refine bcase_prop (fun h => ?_) (fun h => ?_) <;> try (exfalso; omega)) | (refine bcase_nprop (fun h => ?_) (fun h => ?_) <;> try (exfalso; omega)) | (refine bcase_intro (fun h => ?_) (fun h => ?_) <;> (try simp only [Bool.not_eq_true', Bool.not_eq_false', decide_eq_true_eq, decide_eq_false_iff_not, Bool.not_eq_true, Bool.not_eq_false, Decidable.not_not] at h)) | refine And.intro (by first | omega | exact rfl | assumption | exact ⟨rfl, rfl, rfl, rfl, rfl⟩ | exact ⟨rfl, rfl, rfl, rfl⟩ | exact ⟨rfl, by omega⟩ | exact oneAll_of rfl | exact ⟨rfl, oneAll_of rfl⟩ | exact ⟨rfl, Nat.le_of_ble_eq_true rfl⟩ | ((try unfold maxLen); (try simp only [List.length_nil, List.length_cons, List.length_append]); omega) | (refine ⟨rfl, ?_⟩; (try simp only [List.length_nil, List.length_cons, List.length_append]); omega)) ?_ | intro _)); (all_goals (conv => whnf))
          exact ⟨by rw [decide_eq_true]; rw [hpk, show i = xs.length - 1 from by omega]⟩
end Go.Proofs.Ytkekhgnbdhlmhaa
