/- The pairs of a row at a level: program and reference. Condition: at most 1000 elements. -/
import Derived.Test.YtkekhgnbdhlmhaaWalks3
import Derived.Test.YtkekhgnbdhlmhaaKeys
namespace Go.Proofs.Ytkekhgnbdhlmhaa
open Go.EG
attribute [local irreducible] CallK QCall Go.Calls
set_option linter.unusedSimpArgs false
set_option linter.unusedVariables false
set_option maxRecDepth 20000

theorem calls_Stretches (w : World) (a : Option Addr) (c : Nat) (xs : List Int) (hx : In w [] a (ints .u64 xs)) (hl : xs.length ≤ 1000) :
    Calls Try.prog fn_levels_Stretches #[.slice a xs.length c] w (RetS ty_api_Span 2 (stretches xs).length (prs .i64 (stretches xs)) w) :=
  slice_call [.v (.slice a xs.length c)] w ok_levels_Stretches (by simp) (vc_Stretches w a c xs hx hl)
theorem calls_rStretches (w : World) (a : Option Addr) (c : Nat) (xs : List Int) (hx : In w [] a (ints .u64 xs)) (hl : xs.length ≤ 1000) :
    Calls Try.prog fn_evergreenref21_Stretches #[.slice a xs.length c] w (RetS ty_api_Span 2 (stretches xs).length (prs .i64 (stretches xs)) w) :=
  slice_call [.v (.slice a xs.length c)] w ok_evergreenref21_Stretches (by simp) (vc_rStretches w a c xs hx hl)

/-- Every element fits. -/
def U64s (xs : List Int) : Prop := ∀ i, 0 ≤ xs.getD i 0 ∧ xs.getD i 0 ≤ 18446744073709551615

theorem shr_fits {z : Int} (h : 0 ≤ z ∧ z ≤ 18446744073709551615) (b : Int) : 0 ≤ z / ((2 ^ b.toNat : Nat) : Int) ∧ z / ((2 ^ b.toNat : Nat) : Int) ≤ 18446744073709551615 :=
  ⟨Int.ediv_nonneg h.1 (Int.natCast_nonneg _), Int.le_trans (Int.ediv_le_self _ h.1) h.2⟩
theorem bit_ob {z : Int} (h : 0 ≤ z ∧ z ≤ 18446744073709551615) (b : Int) : 0 ≤ z / ((2 ^ b.toNat : Nat) : Int) ∧ z / ((2 ^ b.toNat : Nat) : Int) ≤ 18446744073709551615 ∧ (0 : Int) ≤ 1 ∧ (1 : Int) ≤ 18446744073709551615 :=
  ⟨(shr_fits h b).1, (shr_fits h b).2, by decide, by decide⟩
theorem str_len (xs : List Int) : (stretches xs).length ≤ xs.length := by
  have := strFrom_length xs 0
  rwa [strFrom_zero] at this

/-- Two neighbors at a level that is no tie. -/
theorem fits_eq {x y l : Int} (he : evenF l = true) (ht : ¬ numF l = 122) : fitsF x y l = (decide (bitI x (numF l / 2) = numF l % 2) && !decide (bitI y (numF l / 2) = numF l % 2)) := by
  have h1 := bitI_range y (numF l / 2)
  have h2 : numF l % 2 = 0 ∨ numF l % 2 = 1 := by omega
  simp only [fitsF, he, ht, if_false, Bool.true_and]
  congr 1
  rw [Bool.eq_iff_iff]
  simp
  omega

theorem vc_Pairs (w : World) (a : Option Addr) (c : Nat) (xs : List Int) (l : Int) (hx : In w [] a (ints .u64 xs)) (hl : xs.length ≤ 1000) (hu : U64s xs) (hl1 : l ≤ 9223372036854775807) :
    VC Try.prog w [] ir_levels_Pairs (fnK [.t 4] (endS w ty_int 1 (pairsF xs l).length (ints .i64 (pairsF xs l)))) (startE 0 [.v (.slice a xs.length c), .v (.int .i64 l)]) [] := by
  have hr := numF_range l
  have hst := str_len xs
  by_cases he : evenF l = true
  · have he2 := even_elim he
    by_cases ht : numF l = 122
    · have hc : ∀ w, Calls Try.prog fn_keys_Number #[.int .i64 l] w fun x w' => x = .returned (.tuple #[.int .i64 0, .int .u64 0, .bool true]) ∧ Ext w w' := fun w => by
        have := calls_Number l w hl1
        simp only [bitN, firstN, tieF, he, ht, if_true, decide_true, Bool.and_true] at this; exact this
      have hp : pairsF xs l = ties (stretches xs) := by simp [pairsF, he, ht]
      have hlen := pairsF_length xs l
      rw [hp] at hlen
      rw [hp]
      (repeat' ((conv => whnf); first | refine CallK_pure (.v _) (fun w hR => hc w) ?_ | refine CallK_slice 28 (fun w' hR => calls_Stretches w' a c xs (hx.cast hR (by simp)) hl) ?_ | (refine bcase_prop (fun h => ?_) (fun h => ?_) <;> try (exfalso; omega)) | (refine bcase_nprop (fun h => ?_) (fun h => ?_) <;> try (exfalso; omega)) | (refine bcase_intro (fun h => ?_) (fun h => ?_) <;> (try simp only [Bool.not_eq_true', Bool.not_eq_false', decide_eq_true_eq, decide_eq_false_iff_not, Bool.not_eq_true, Bool.not_eq_false, Decidable.not_not] at h)) | refine And.intro (by first | omega | exact rfl | assumption | exact ⟨rfl, rfl, rfl, rfl, rfl⟩ | exact ⟨rfl, rfl, rfl, rfl⟩ | exact ⟨rfl, by omega⟩ | exact oneAll_of rfl | exact ⟨rfl, oneAll_of rfl⟩ | exact ⟨rfl, Nat.le_of_ble_eq_true rfl⟩ | ((try unfold maxLen); (try simp only [List.length_nil, List.length_cons, List.length_append]); omega) | (refine ⟨rfl, ?_⟩; (try simp only [List.length_nil, List.length_cons, List.length_append]); omega)) ?_ | intro _)); (all_goals (conv => whnf))
      rename_i sa sc
      refine VC_loop (Nat × List Int × Option Addr × Nat) (fun (i, out, a', c') => [(28, .sl 28 sa (stretches xs).length sc), (29, .v (.int .i64 (stretches xs).length)), (5, .sl 5 a' out.length c'), (30, .v (.int .i64 i))])
        (fun (i, out, a', c') => [.own 28 sa (stretches xs).length sc ty_api_Span 2 (prs .i64 (stretches xs)), .own 5 a' out.length c' ty_int 1 (ints .i64 out)])
        (fun (i, out, a', c') => i ≤ (stretches xs).length ∧ out = ties ((stretches xs).take i))
        (fun (i, out, a', c') => (stretches xs).length - i) (0, [], none, 0) ⟨by ((try dsimp only); omega), rfl⟩ (by (repeat ((conv => whnf); refine And.intro (by first | exact rfl | exact vint_eq (by omega) | exact vsl_eq (by omega)) ?_)); exact trivial) (Ref.trans (Ref.ownNil 5 _ _) (Ref.perm (.swap _ _ _))) ?_
      rintro ⟨i, out, a', c'⟩ ⟨h1, h2⟩
      dsimp only at h1 h2 ⊢
      by_cases hi : i < (stretches xs).length
      · have hg := str_get hi
        have hout : out.length ≤ 1000 := by
          have := ties_take_le (stretches xs) i
          rw [h2]; omega
        have hnx := ties_take hi
        have e1 := intOf_prs1 (k := .i64) hi
        have e2 := intOf_prs2 (k := .i64) hi
        generalize hgg : (stretches xs).getD i (0, 0) = g at *
        (repeat' ((conv => whnf); first | (refine bcase_prop (fun h => ?_) (fun h => ?_) <;> try (exfalso; omega)) | (refine bcase_nprop (fun h => ?_) (fun h => ?_) <;> try (exfalso; omega)) | (refine bcase_intro (fun h => ?_) (fun h => ?_) <;> (try simp only [Bool.not_eq_true', Bool.not_eq_false', decide_eq_true_eq, decide_eq_false_iff_not, Bool.not_eq_true, Bool.not_eq_false, Decidable.not_not] at h)) | refine And.intro (by first | omega | exact rfl | assumption | exact ⟨rfl, rfl, rfl, rfl, rfl⟩ | exact ⟨rfl, rfl, rfl, rfl⟩ | exact ⟨rfl, by omega⟩ | exact oneAll_of rfl | exact ⟨rfl, oneAll_of rfl⟩ | exact ⟨isK_prs1 (by omega), isK_prs2 (by omega), trivial⟩ | (simp only [Int.toNat_natCast]; exact ⟨isK_prs1 (by omega), isK_prs2 (by omega), trivial⟩) | exact ⟨rfl, Nat.le_of_ble_eq_true rfl⟩ | ((try unfold maxLen); (try simp only [List.length_nil, List.length_cons, List.length_append]); omega) | (refine ⟨rfl, ?_⟩; (try simp only [List.length_nil, List.length_cons, List.length_append]); omega)) ?_ | intro _)); (all_goals (conv => whnf))
        rename_i b
        simp only [Int.toNat_natCast, e1, e2]
        refine VC_loop (Nat × List Int × Option Addr × Nat) (fun (q, out2, a2, c2) => [(28, .sl 28 sa (stretches xs).length sc), (29, .v (.int .i64 (stretches xs).length)), (5, .sl 5 a2 out2.length c2), (30, .v (.int .i64 i)), (10, .ptr 10 b 0), (11, .v (.int .i64 (2 * q)))])
          (fun (q, out2, a2, c2) => [.box 10 b [.int .i64 g.1, .int .i64 g.2] ty_api_Span, .own 28 sa (stretches xs).length sc ty_api_Span 2 (prs .i64 (stretches xs)), .own 5 a2 out2.length c2 ty_int 1 (ints .i64 out2)])
          (fun (q, out2, a2, c2) => (q : Int) ≤ g.2 / 2 ∧ out2 = out ++ tieTo g q)
          (fun (q, out2, a2, c2) => (g.2 / 2).toNat - q) (0, out, a', c') ⟨by ((try dsimp only); omega), by simp [tieTo]⟩ (by (repeat ((conv => whnf); refine And.intro (by first | exact rfl | exact vint_eq (by omega) | exact vsl_eq (by omega)) ?_)); exact trivial) (.refl _) ?_
        rintro ⟨q, out2, a2, c2⟩ ⟨k1, k2⟩
        dsimp only at k1 k2 ⊢
        have hl2 : out2.length = out.length + q := by rw [k2]; simp [tieTo_length]
        (repeat' ((conv => whnf); first | (refine bcase_prop (fun h => ?_) (fun h => ?_) <;> try (exfalso; omega)) | (refine bcase_nprop (fun h => ?_) (fun h => ?_) <;> try (exfalso; omega)) | (refine bcase_intro (fun h => ?_) (fun h => ?_) <;> (try simp only [Bool.not_eq_true', Bool.not_eq_false', decide_eq_true_eq, decide_eq_false_iff_not, Bool.not_eq_true, Bool.not_eq_false, Decidable.not_not] at h)) | refine And.intro (by first | omega | exact rfl | assumption | exact ⟨rfl, rfl, rfl, rfl, rfl⟩ | exact ⟨rfl, rfl, rfl, rfl⟩ | exact ⟨rfl, by omega⟩ | exact oneAll_of rfl | exact ⟨rfl, oneAll_of rfl⟩ | exact ⟨rfl, Nat.le_of_ble_eq_true rfl⟩ | ((try unfold maxLen); (try simp only [List.length_nil, List.length_cons, List.length_append]); omega) | (refine ⟨rfl, ?_⟩; (try simp only [List.length_nil, List.length_cons, List.length_append]); omega)) ?_ | intro _)); (all_goals (conv => whnf))
        · refine loop_next (q + 1, out2 ++ [g.1 + 2 * (q : Int)], _, _) (by dsimp only; exact ⟨by omega, by rw [k2, tieTo_succ, List.append_assoc]⟩) (by ((try dsimp only); omega)) (by (try simp only [List.length_append, List.length_cons, List.length_nil]); (repeat ((conv => whnf); refine And.intro (by first | exact rfl | exact vint_eq (by omega) | exact vsl_eq (by omega)) ?_)); exact trivial) (Thin.ref (.skip (.box rfl (.own rfl rfl (.own (by simp) ints_snoc (.nil _))))))
        · have hq : q = (g.2 / 2).toNat := by omega
          refine loop_next (i + 1, out2, a2, c2) (by dsimp only; exact ⟨by omega, by rw [k2, hnx, h2, hq, tieTo_all]⟩) (by ((try dsimp only); omega)) (by (repeat ((conv => whnf); refine And.intro (by first | exact rfl | exact vint_eq (by omega) | exact vsl_eq (by omega)) ?_)); exact trivial) (Thin.ref (.skip (.own rfl rfl (.own rfl rfl (.nil _)))))
      · (repeat' ((conv => whnf); first | (refine bcase_prop (fun h => ?_) (fun h => ?_) <;> try (exfalso; omega)) | (refine bcase_nprop (fun h => ?_) (fun h => ?_) <;> try (exfalso; omega)) | (refine bcase_intro (fun h => ?_) (fun h => ?_) <;> (try simp only [Bool.not_eq_true', Bool.not_eq_false', decide_eq_true_eq, decide_eq_false_iff_not, Bool.not_eq_true, Bool.not_eq_false, Decidable.not_not] at h)) | refine And.intro (by first | omega | exact rfl | assumption | exact ⟨rfl, rfl, rfl, rfl, rfl⟩ | exact ⟨rfl, rfl, rfl, rfl⟩ | exact ⟨rfl, by omega⟩ | exact oneAll_of rfl | exact ⟨rfl, oneAll_of rfl⟩ | exact ⟨rfl, Nat.le_of_ble_eq_true rfl⟩ | ((try unfold maxLen); (try simp only [List.length_nil, List.length_cons, List.length_append]); omega) | (refine ⟨rfl, ?_⟩; (try simp only [List.length_nil, List.length_cons, List.length_append]); omega)) ?_ | intro _)); (all_goals (conv => whnf))
        have ho : out = ties (stretches xs) := by rw [h2, List.take_of_length_le (by omega)]
        subst ho
        exact ⟨a', c', rfl, Thin.ref (.skip (.own rfl rfl (.nil _)))⟩
    · have hc : ∀ w, Calls Try.prog fn_keys_Number #[.int .i64 l] w fun x w' => x = .returned (.tuple #[.int .i64 (numF l / 2), .int .u64 (numF l % 2), .bool false]) ∧ Ext w w' := fun w => by
        have := calls_Number l w hl1
        simp only [bitN, firstN, tieF, he, ht, if_true, if_false, decide_false, Bool.and_false] at this; exact this
      generalize hP : pick (fun i => fitsF (xs.getD i 0) (xs.getD (i + 1) 0) l) = P
      have hp : pairsF xs l = P (xs.length - 1) := by rw [← hP]; simp [pairsF, he, ht]
      rw [hp]
      (repeat' ((conv => whnf); first | refine CallK_pure (.v _) (fun w hR => hc w) ?_ | (refine bcase_prop (fun h => ?_) (fun h => ?_) <;> try (exfalso; omega)) | (refine bcase_nprop (fun h => ?_) (fun h => ?_) <;> try (exfalso; omega)) | (refine bcase_intro (fun h => ?_) (fun h => ?_) <;> (try simp only [Bool.not_eq_true', Bool.not_eq_false', decide_eq_true_eq, decide_eq_false_iff_not, Bool.not_eq_true, Bool.not_eq_false, Decidable.not_not] at h)) | refine And.intro (by first | omega | exact rfl | assumption | exact ⟨rfl, rfl, rfl, rfl, rfl⟩ | exact ⟨rfl, rfl, rfl, rfl⟩ | exact ⟨rfl, by omega⟩ | exact oneAll_of rfl | exact ⟨rfl, oneAll_of rfl⟩ | exact ⟨rfl, Nat.le_of_ble_eq_true rfl⟩ | ((try unfold maxLen); (try simp only [List.length_nil, List.length_cons, List.length_append]); omega) | (refine ⟨rfl, ?_⟩; (try simp only [List.length_nil, List.length_cons, List.length_append]); omega)) ?_ | intro _)); (all_goals (conv => whnf))
      refine VC_loop (Nat × Option Addr × Nat) (fun (i, a', c') => [(0, .v (.slice a xs.length c)), (6, .v (.int .i64 (numF l / 2))), (7, .v (.int .u64 (numF l % 2))), (5, .sl 5 a' (P i).length c'), (12, .v (.int .i64 i))])
        (fun (i, a', c') => [.own 5 a' (P i).length c' ty_int 1 (ints .i64 (P i))])
        (fun (i, a', c') => i ≤ xs.length - 1)
        (fun (i, a', c') => xs.length - 1 - i) (0, none, 0) (by ((try dsimp only); omega)) (by subst hP; (repeat ((conv => whnf); refine And.intro (by first | exact rfl | exact vint_eq (by omega) | exact vsl_eq (by omega)) ?_)); exact trivial) (by subst hP; exact Ref.ownNil 5 _ _) ?_
      rintro ⟨i, a', c'⟩ h1
      dsimp only at h1 ⊢
      have hpl : (P i).length ≤ 1000 := by
        subst hP
        have := pick_length (fun i => fitsF (xs.getD i 0) (xs.getD (i + 1) 0) l) i; omega
      have hnx : P (i + 1) = P i ++ if fitsF (xs.getD i 0) (xs.getD (i + 1) 0) l = true then [(i : Int)] else [] := by subst hP; rfl
      have e1 : ((i : Int) + 1).toNat = i + 1 := by omega
      (repeat' ((conv => whnf); first | refine ⟨_, rdI hx (by omega), ?_⟩ | (refine bcase_prop (fun h => ?_) (fun h => ?_) <;> try (exfalso; omega)) | (refine bcase_nprop (fun h => ?_) (fun h => ?_) <;> try (exfalso; omega)) | (refine bcase_intro (fun h => ?_) (fun h => ?_) <;> (try simp only [Bool.not_eq_true', Bool.not_eq_false', decide_eq_true_eq, decide_eq_false_iff_not, Bool.not_eq_true, Bool.not_eq_false, Decidable.not_not] at h)) | refine And.intro (by first | omega | exact rfl | assumption | exact ⟨rfl, rfl, rfl, rfl, rfl⟩ | exact ⟨rfl, rfl, rfl, rfl⟩ | exact ⟨rfl, by omega⟩ | exact oneAll_of rfl | exact ⟨rfl, oneAll_of rfl⟩ | exact neI hx (by omega) | exact ⟨by omega, by show _ ≤ (64 : Int); omega⟩ | exact bit_ob (hu _) _ | exact ⟨rfl, Nat.le_of_ble_eq_true rfl⟩ | ((try unfold maxLen); (try simp only [List.length_nil, List.length_cons, List.length_append]); omega) | (refine ⟨rfl, ?_⟩; (try simp only [List.length_nil, List.length_cons, List.length_append]); omega)) ?_ | intro _)); (all_goals (conv => whnf))
      · rename_i h3 h4 b' a2 c2
        rw [and_one _ _ (hu _).1, Int.toNat_natCast] at h4
        rw [and_one _ _ (hu _).1, e1] at h
        have hf : fitsF (xs.getD i 0) (xs.getD (i + 1) 0) l = true := by rw [fits_eq he ht]; simp only [h4, h, decide_true, decide_false, Bool.not_true, Bool.not_false, Bool.and_self]
        rw [hf, if_pos rfl] at hnx
        exact loop_next (i + 1, a2, c2) (by ((try dsimp only); omega)) (by ((try dsimp only); omega)) (by dsimp only; rw [hnx]; (try simp only [List.length_append, List.length_cons, List.length_nil]); (repeat ((conv => whnf); refine And.intro (by first | exact rfl | exact vint_eq (by omega) | exact vsl_eq (by omega)) ?_)); exact trivial) (by dsimp only; rw [hnx]; exact Thin.ref (.skip (.own (by simp) ints_snoc (.nil _))))
      · rename_i h3 h4
        rw [and_one _ _ (hu _).1, Int.toNat_natCast] at h4
        rw [and_one _ _ (hu _).1, e1] at h
        have hf : fitsF (xs.getD i 0) (xs.getD (i + 1) 0) l = false := by rw [fits_eq he ht]; simp only [h4, h, decide_true, decide_false, Bool.not_true, Bool.and_false]
        rw [hf, if_neg (by simp), List.append_nil] at hnx
        exact loop_next (i + 1, a', c') (by ((try dsimp only); omega)) (by ((try dsimp only); omega)) (by dsimp only; rw [hnx]; (repeat ((conv => whnf); refine And.intro (by first | exact rfl | exact vint_eq (by omega) | exact vsl_eq (by omega)) ?_)); exact trivial) (by dsimp only; rw [hnx]; exact .refl _)
      · rename_i h3
        rw [and_one _ _ (hu _).1, Int.toNat_natCast] at h
        have hf : fitsF (xs.getD i 0) (xs.getD (i + 1) 0) l = false := by rw [fits_eq he ht]; simp only [h, decide_true, decide_false, Bool.not_true, Bool.and_false, Bool.false_and]
        rw [hf, if_neg (by simp), List.append_nil] at hnx
        exact loop_next (i + 1, a', c') (by ((try dsimp only); omega)) (by ((try dsimp only); omega)) (by dsimp only; rw [hnx]; (repeat ((conv => whnf); refine And.intro (by first | exact rfl | exact vint_eq (by omega) | exact vsl_eq (by omega)) ?_)); exact trivial) (by dsimp only; rw [hnx]; exact .refl _)
      · rw [show xs.length - 1 = i from by omega]
        exact ⟨a', c', rfl, Thin.ref (.own rfl rfl (.nil _))⟩
  · have hp : pairsF xs l = [] := by simp [pairsF, he]
    rw [hp]
    have he2 : l < 2 ∨ l % 2 ≠ 0 := by
      by_cases h : l < 2
      · exact .inl h
      · exact .inr fun h' => he (even_t (by omega) h')
    (repeat' ((conv => whnf); first | (refine bcase_prop (fun h => ?_) (fun h => ?_) <;> try (exfalso; omega)) | (refine bcase_nprop (fun h => ?_) (fun h => ?_) <;> try (exfalso; omega)) | (refine bcase_intro (fun h => ?_) (fun h => ?_) <;> (try simp only [Bool.not_eq_true', Bool.not_eq_false', decide_eq_true_eq, decide_eq_false_iff_not, Bool.not_eq_true, Bool.not_eq_false, Decidable.not_not] at h)) | refine And.intro (by first | omega | exact rfl | assumption | exact ⟨rfl, rfl, rfl, rfl, rfl⟩ | exact ⟨rfl, rfl, rfl, rfl⟩ | exact ⟨rfl, by omega⟩ | exact oneAll_of rfl | exact ⟨rfl, oneAll_of rfl⟩ | exact ⟨rfl, Nat.le_of_ble_eq_true rfl⟩ | ((try unfold maxLen); (try simp only [List.length_nil, List.length_cons, List.length_append]); omega) | (refine ⟨rfl, ?_⟩; (try simp only [List.length_nil, List.length_cons, List.length_append]); omega)) ?_ | intro _)); (all_goals (conv => whnf))
    · exact ⟨none, 0, rfl, Ref.ownNil 0 _ _⟩
    · exact ⟨none, 0, rfl, Ref.ownNil 0 _ _⟩

theorem vc_rPairs (w : World) (a : Option Addr) (c : Nat) (xs : List Int) (l : Int) (hx : In w [] a (ints .u64 xs)) (hl : xs.length ≤ 1000) (hu : U64s xs) (hl1 : l ≤ 9223372036854775807) :
    VC Try.prog w [] ir_evergreenref21_Pairs (fnK [.t 4] (endS w ty_int 1 (pairsF xs l).length (ints .i64 (pairsF xs l)))) (startE 0 [.v (.slice a xs.length c), .v (.int .i64 l)]) [] := by
  have hr := numF_range l
  have hst := str_len xs
  by_cases hb : tieF l = true
  · have he : evenF l = true := by unfold tieF at hb; simp only [Bool.and_eq_true] at hb; exact hb.1
    have ht : numF l = 122 := by unfold tieF at hb; simpa [he] using hb
    have hc : ∀ w, Calls Try.prog fn_evergreenref20_Number #[.int .i64 l] w fun x w' => x = .returned (.tuple #[.int .i64 (if evenF l then bitN l else -1), .int .u64 (firstN l), .bool true]) ∧ Ext w w' := fun w => by
      have := calls_rNumber l w hl1
      rw [hb] at this; exact this
    have hp : pairsF xs l = ties (stretches xs) := by simp [pairsF, he, ht]
    have hlen := pairsF_length xs l
    rw [hp] at hlen
    rw [hp]
    (repeat' ((conv => whnf); first | refine CallK_pure (.v _) (fun w hR => hc w) ?_ | refine CallK_slice 9 (fun w' hR => calls_rStretches w' a c xs (hx.cast hR (by simp)) hl) ?_ | (refine bcase_prop (fun h => ?_) (fun h => ?_) <;> try (exfalso; omega)) | (refine bcase_nprop (fun h => ?_) (fun h => ?_) <;> try (exfalso; omega)) | (refine bcase_intro (fun h => ?_) (fun h => ?_) <;> (try simp only [Bool.not_eq_true', Bool.not_eq_false', decide_eq_true_eq, decide_eq_false_iff_not, Bool.not_eq_true, Bool.not_eq_false, Decidable.not_not] at h)) | refine And.intro (by first | omega | exact rfl | assumption | exact ⟨rfl, rfl, rfl, rfl, rfl⟩ | exact ⟨rfl, rfl, rfl, rfl⟩ | exact ⟨rfl, by omega⟩ | exact oneAll_of rfl | exact ⟨rfl, oneAll_of rfl⟩ | exact ⟨rfl, Nat.le_of_ble_eq_true rfl⟩ | ((try unfold maxLen); (try simp only [List.length_nil, List.length_cons, List.length_append]); omega) | (refine ⟨rfl, ?_⟩; (try simp only [List.length_nil, List.length_cons, List.length_append]); omega)) ?_ | intro _)); (all_goals (conv => whnf))
    rename_i sa sc
    refine VC_loop (Nat × List Int × Option Addr × Nat) (fun (i, out, a', c') => [(9, .sl 9 sa (stretches xs).length sc), (23, .v (.int .i64 (stretches xs).length)), (8, .sl 8 a' out.length c'), (24, .v (.int .i64 i))])
      (fun (i, out, a', c') => [.own 9 sa (stretches xs).length sc ty_api_Span 2 (prs .i64 (stretches xs)), .own 8 a' out.length c' ty_int 1 (ints .i64 out)])
      (fun (i, out, a', c') => i ≤ (stretches xs).length ∧ out = ties ((stretches xs).take i))
      (fun (i, out, a', c') => (stretches xs).length - i) (0, [], none, 0) ⟨by ((try dsimp only); omega), rfl⟩ (by (repeat ((conv => whnf); refine And.intro (by first | exact rfl | exact vint_eq (by omega) | exact vsl_eq (by omega)) ?_)); exact trivial) (Ref.trans (Ref.ownNil 8 _ _) (Ref.perm (.swap _ _ _))) ?_
    rintro ⟨i, out, a', c'⟩ ⟨h1, h2⟩
    dsimp only at h1 h2 ⊢
    by_cases hi : i < (stretches xs).length
    · have hg := str_get hi
      have hout : out.length ≤ 1000 := by
        have := ties_take_le (stretches xs) i
        rw [h2]; omega
      have hnx := ties_take hi
      have e1 := intOf_prs1 (k := .i64) hi
      have e2 := intOf_prs2 (k := .i64) hi
      generalize hgg : (stretches xs).getD i (0, 0) = g at *
      (repeat' ((conv => whnf); first | (refine bcase_prop (fun h => ?_) (fun h => ?_) <;> try (exfalso; omega)) | (refine bcase_nprop (fun h => ?_) (fun h => ?_) <;> try (exfalso; omega)) | (refine bcase_intro (fun h => ?_) (fun h => ?_) <;> (try simp only [Bool.not_eq_true', Bool.not_eq_false', decide_eq_true_eq, decide_eq_false_iff_not, Bool.not_eq_true, Bool.not_eq_false, Decidable.not_not] at h)) | refine And.intro (by first | omega | exact rfl | assumption | exact ⟨rfl, rfl, rfl, rfl, rfl⟩ | exact ⟨rfl, rfl, rfl, rfl⟩ | exact ⟨rfl, by omega⟩ | exact oneAll_of rfl | exact ⟨rfl, oneAll_of rfl⟩ | exact ⟨rfl, Nat.le_of_ble_eq_true rfl⟩ | ((try unfold maxLen); (try simp only [List.length_nil, List.length_cons, List.length_append]); omega) | (refine ⟨rfl, ?_⟩; (try simp only [List.length_nil, List.length_cons, List.length_append]); omega)) ?_ | intro _)); (all_goals (conv => whnf))
      refine VC_loop (Nat × List Int × Option Addr × Nat) (fun (q, out2, a2, c2) => [(9, .sl 9 sa (stretches xs).length sc), (23, .v (.int .i64 (stretches xs).length)), (8, .sl 8 a2 out2.length c2), (24, .v (.int .i64 i)), (10, .v (.int .i64 i)), (11, .v (.int .i64 (2 * q)))])
        (fun (q, out2, a2, c2) => [.own 9 sa (stretches xs).length sc ty_api_Span 2 (prs .i64 (stretches xs)), .own 8 a2 out2.length c2 ty_int 1 (ints .i64 out2)])
        (fun (q, out2, a2, c2) => (q : Int) ≤ g.2 / 2 ∧ out2 = out ++ tieTo g q)
        (fun (q, out2, a2, c2) => (g.2 / 2).toNat - q) (0, out, a', c') ⟨by ((try dsimp only); omega), by simp [tieTo]⟩ (by (repeat ((conv => whnf); refine And.intro (by first | exact rfl | exact vint_eq (by omega) | exact vsl_eq (by omega)) ?_)); exact trivial) (.refl _) ?_
      rintro ⟨q, out2, a2, c2⟩ ⟨k1, k2⟩
      dsimp only at k1 k2 ⊢
      have hl2 : out2.length = out.length + q := by rw [k2]; simp [tieTo_length]
      (repeat' ((conv => whnf); first | rw [Int.toNat_natCast] | rw [e1] | rw [e2] | (refine bcase_prop (fun h => ?_) (fun h => ?_) <;> try (exfalso; omega)) | (refine bcase_nprop (fun h => ?_) (fun h => ?_) <;> try (exfalso; omega)) | (refine bcase_intro (fun h => ?_) (fun h => ?_) <;> (try simp only [Bool.not_eq_true', Bool.not_eq_false', decide_eq_true_eq, decide_eq_false_iff_not, Bool.not_eq_true, Bool.not_eq_false, Decidable.not_not] at h)) | refine And.intro (by first | omega | exact rfl | assumption | exact ⟨rfl, rfl, rfl, rfl, rfl⟩ | exact ⟨rfl, rfl, rfl, rfl⟩ | exact ⟨rfl, by omega⟩ | exact oneAll_of rfl | exact ⟨rfl, oneAll_of rfl⟩ | exact isK_prs1 (by omega) | exact isK_prs2 (by omega) | exact ⟨rfl, Nat.le_of_ble_eq_true rfl⟩ | ((try unfold maxLen); (try simp only [List.length_nil, List.length_cons, List.length_append]); omega) | (refine ⟨rfl, ?_⟩; (try simp only [List.length_nil, List.length_cons, List.length_append]); omega)) ?_ | intro _)); (all_goals (conv => whnf))
      · refine loop_next (q + 1, out2 ++ [g.1 + 2 * (q : Int)], _, _) (by dsimp only; exact ⟨by omega, by rw [k2, tieTo_succ, List.append_assoc]⟩) (by ((try dsimp only); omega)) (by (try simp only [List.length_append, List.length_cons, List.length_nil]); (repeat ((conv => whnf); refine And.intro (by first | exact rfl | exact vint_eq (by omega) | exact vsl_eq (by omega)) ?_)); exact trivial) (Thin.ref (.skip (.own rfl rfl (.own (by simp) ints_snoc (.nil _)))))
      · have hq : q = (g.2 / 2).toNat := by omega
        refine loop_next (i + 1, out2, a2, c2) (by dsimp only; exact ⟨by omega, by rw [k2, hnx, h2, hq, tieTo_all]⟩) (by ((try dsimp only); omega)) (by (repeat ((conv => whnf); refine And.intro (by first | exact rfl | exact vint_eq (by omega) | exact vsl_eq (by omega)) ?_)); exact trivial) (.refl _)
    · (repeat' ((conv => whnf); first | (refine bcase_prop (fun h => ?_) (fun h => ?_) <;> try (exfalso; omega)) | (refine bcase_nprop (fun h => ?_) (fun h => ?_) <;> try (exfalso; omega)) | (refine bcase_intro (fun h => ?_) (fun h => ?_) <;> (try simp only [Bool.not_eq_true', Bool.not_eq_false', decide_eq_true_eq, decide_eq_false_iff_not, Bool.not_eq_true, Bool.not_eq_false, Decidable.not_not] at h)) | refine And.intro (by first | omega | exact rfl | assumption | exact ⟨rfl, rfl, rfl, rfl, rfl⟩ | exact ⟨rfl, rfl, rfl, rfl⟩ | exact ⟨rfl, by omega⟩ | exact oneAll_of rfl | exact ⟨rfl, oneAll_of rfl⟩ | exact ⟨rfl, Nat.le_of_ble_eq_true rfl⟩ | ((try unfold maxLen); (try simp only [List.length_nil, List.length_cons, List.length_append]); omega) | (refine ⟨rfl, ?_⟩; (try simp only [List.length_nil, List.length_cons, List.length_append]); omega)) ?_ | intro _)); (all_goals (conv => whnf))
      have ho : out = ties (stretches xs) := by rw [h2, List.take_of_length_le (by omega)]
      subst ho
      exact ⟨a', c', rfl, Thin.ref (.skip (.own rfl rfl (.nil _)))⟩
  · have hb : tieF l = false := by simpa using hb
    have hc : ∀ w, Calls Try.prog fn_evergreenref20_Number #[.int .i64 l] w fun x w' => x = .returned (.tuple #[.int .i64 (if evenF l then bitN l else -1), .int .u64 (firstN l), .bool false]) ∧ Ext w w' := fun w => by
      have := calls_rNumber l w hl1
      rw [hb] at this; exact this
    generalize hP : pick (fun i => fitsF (xs.getD i 0) (xs.getD (i + 1) 0) l) = P
    have hp : pairsF xs l = P (xs.length - 1) := by
      rw [← hP]
      cases he : evenF l with
      | true =>
        have ht : ¬ numF l = 122 := by unfold tieF at hb; simpa [he] using hb
        simp [pairsF, he, ht]
      | false =>
        rw [pick_none (fun j => by simp [fitsF, he])]; simp [pairsF, he]
    rw [hp]
    (repeat' ((conv => whnf); first | refine CallK_pure (.v _) (fun w hR => hc w) ?_ | (refine bcase_prop (fun h => ?_) (fun h => ?_) <;> try (exfalso; omega)) | (refine bcase_nprop (fun h => ?_) (fun h => ?_) <;> try (exfalso; omega)) | (refine bcase_intro (fun h => ?_) (fun h => ?_) <;> (try simp only [Bool.not_eq_true', Bool.not_eq_false', decide_eq_true_eq, decide_eq_false_iff_not, Bool.not_eq_true, Bool.not_eq_false, Decidable.not_not] at h)) | refine And.intro (by first | omega | exact rfl | assumption | exact ⟨rfl, rfl, rfl, rfl, rfl⟩ | exact ⟨rfl, rfl, rfl, rfl⟩ | exact ⟨rfl, by omega⟩ | exact oneAll_of rfl | exact ⟨rfl, oneAll_of rfl⟩ | exact ⟨rfl, Nat.le_of_ble_eq_true rfl⟩ | ((try unfold maxLen); (try simp only [List.length_nil, List.length_cons, List.length_append]); omega) | (refine ⟨rfl, ?_⟩; (try simp only [List.length_nil, List.length_cons, List.length_append]); omega)) ?_ | intro _)); (all_goals (conv => whnf))
    refine VC_loop (Nat × Option Addr × Nat) (fun (i, a', c') => [(0, .v (.slice a xs.length c)), (1, .v (.int .i64 l)), (8, .sl 8 a' (P i).length c'), (12, .v (.int .i64 i))])
      (fun (i, a', c') => [.own 8 a' (P i).length c' ty_int 1 (ints .i64 (P i))])
      (fun (i, a', c') => i ≤ xs.length - 1)
      (fun (i, a', c') => xs.length - 1 - i) (0, none, 0) (by ((try dsimp only); omega)) (by subst hP; (repeat ((conv => whnf); refine And.intro (by first | exact rfl | exact vint_eq (by omega) | exact vsl_eq (by omega)) ?_)); exact trivial) (by subst hP; exact Ref.ownNil 8 _ _) ?_
    rintro ⟨i, a', c'⟩ h1
    dsimp only at h1 ⊢
    have hpl : (P i).length ≤ 1000 := by
      subst hP
      have := pick_length (fun i => fitsF (xs.getD i 0) (xs.getD (i + 1) 0) l) i; omega
    have hnx : P (i + 1) = P i ++ if fitsF (xs.getD i 0) (xs.getD (i + 1) 0) l = true then [(i : Int)] else [] := by subst hP; rfl
    have e1 : ((i : Int) + 1).toNat = i + 1 := by omega
    (repeat' ((conv => whnf); first | refine ⟨_, rdI hx (by omega), ?_⟩ | refine CallK_pure (.v _) (fun w hR => calls_rFits _ _ _ w (hu _) (hu _) hl1) ?_ | (refine bcase_prop (fun h => ?_) (fun h => ?_) <;> try (exfalso; omega)) | (refine bcase_nprop (fun h => ?_) (fun h => ?_) <;> try (exfalso; omega)) | (refine bcase_intro (fun h => ?_) (fun h => ?_) <;> (try simp only [Bool.not_eq_true', Bool.not_eq_false', decide_eq_true_eq, decide_eq_false_iff_not, Bool.not_eq_true, Bool.not_eq_false, Decidable.not_not] at h)) | refine And.intro (by first | omega | exact rfl | assumption | exact ⟨rfl, rfl, rfl, rfl, rfl⟩ | exact ⟨rfl, rfl, rfl, rfl⟩ | exact ⟨rfl, by omega⟩ | exact oneAll_of rfl | exact ⟨rfl, oneAll_of rfl⟩ | exact neI hx (by omega) | exact ⟨rfl, Nat.le_of_ble_eq_true rfl⟩ | ((try unfold maxLen); (try simp only [List.length_nil, List.length_cons, List.length_append]); omega) | (refine ⟨rfl, ?_⟩; (try simp only [List.length_nil, List.length_cons, List.length_append]); omega)) ?_ | intro _)); (all_goals (conv => whnf))
    · rename_i h3 b' a2 c2
      rw [e1, Int.toNat_natCast] at h
      rw [h, if_pos rfl] at hnx
      exact loop_next (i + 1, a2, c2) (by ((try dsimp only); omega)) (by ((try dsimp only); omega)) (by dsimp only; rw [hnx]; (try simp only [List.length_append, List.length_cons, List.length_nil]); (repeat ((conv => whnf); refine And.intro (by first | exact rfl | exact vint_eq (by omega) | exact vsl_eq (by omega)) ?_)); exact trivial) (by dsimp only; rw [hnx]; exact Thin.ref (.skip (.own (by simp) ints_snoc (.nil _))))
    · rename_i h3
      rw [e1, Int.toNat_natCast] at h
      rw [h, if_neg (by simp), List.append_nil] at hnx
      exact loop_next (i + 1, a', c') (by ((try dsimp only); omega)) (by ((try dsimp only); omega)) (by dsimp only; rw [hnx]; (repeat ((conv => whnf); refine And.intro (by first | exact rfl | exact vint_eq (by omega) | exact vsl_eq (by omega)) ?_)); exact trivial) (by dsimp only; rw [hnx]; exact .refl _)
    · rw [show xs.length - 1 = i from by omega]
      exact ⟨a', c', rfl, Thin.ref (.own rfl rfl (.nil _))⟩
end Go.Proofs.Ytkekhgnbdhlmhaa
