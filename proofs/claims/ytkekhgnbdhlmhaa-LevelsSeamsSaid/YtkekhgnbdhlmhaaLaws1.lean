/- The examples; the laws of runs, stretches and pairs: the Go functions return true. No condition but that what is read was there at the start. -/
import Derived.Test.YtkekhgnbdhlmhaaWalks4
namespace Go.Proofs.Ytkekhgnbdhlmhaa
open Go.EG
attribute [local irreducible] CallK QCall Go.Calls
set_option linter.unusedSimpArgs false
set_option linter.unusedVariables false
set_option maxRecDepth 20000

theorem calls_IDs (w : World) (a b : Option Addr) (c d : Nat) (xs ys : List Int) (hx : In w [] a (ints .i64 xs)) (hy : In w [] b (ints .i64 ys)) (hl : xs.length < 9223372036854775807) :
    Calls Try.prog fn_evergreenbase_IDs #[.slice a xs.length c, .slice b ys.length d] w fun x w' => x = .returned (.bool (decide (xs = ys))) ∧ Ext w w' :=
  pure_call [.v (.slice a xs.length c), .v (.slice b ys.length d)] w ok_evergreenbase_IDs (by simp) (vc_Ints w a b c d xs ys hx hy hl)
theorem calls_Runs (w : World) (a : Option Addr) (c : Nat) (xs : List Int) (hx : In w [] a (ints .i64 xs)) (hl : xs.length ≤ 1000) :
    Calls Try.prog fn_levels_Runs #[.slice a xs.length c] w (RetS ty_api_Group 2 (runs xs).length (prs .i64 (runs xs)) w) :=
  slice_call [.v (.slice a xs.length c)] w ok_levels_Runs (by simp) (vc_Runs w a c xs hx hl)
theorem calls_rRuns (w : World) (a : Option Addr) (c : Nat) (xs : List Int) (hx : In w [] a (ints .i64 xs)) (hl : xs.length ≤ 1000) :
    Calls Try.prog fn_evergreenref21_Runs #[.slice a xs.length c] w (RetS ty_api_Group 2 (runs xs).length (prs .i64 (runs xs)) w) :=
  slice_call [.v (.slice a xs.length c)] w ok_evergreenref21_Runs (by simp) (vc_rRuns w a c xs hx hl)
theorem calls_Pairs (w : World) (a : Option Addr) (c : Nat) (xs : List Int) (l : Int) (hx : In w [] a (ints .u64 xs)) (hl : xs.length ≤ 1000) (hu : U64s xs) (hl1 : l ≤ 9223372036854775807) :
    Calls Try.prog fn_levels_Pairs #[.slice a xs.length c, .int .i64 l] w (RetS ty_int 1 (pairsF xs l).length (ints .i64 (pairsF xs l)) w) :=
  slice_call [.v (.slice a xs.length c), .v (.int .i64 l)] w ok_levels_Pairs (by simp) (vc_Pairs w a c xs l hx hl hu hl1)
theorem calls_rPairs (w : World) (a : Option Addr) (c : Nat) (xs : List Int) (l : Int) (hx : In w [] a (ints .u64 xs)) (hl : xs.length ≤ 1000) (hu : U64s xs) (hl1 : l ≤ 9223372036854775807) :
    Calls Try.prog fn_evergreenref21_Pairs #[.slice a xs.length c, .int .i64 l] w (RetS ty_int 1 (pairsF xs l).length (ints .i64 (pairsF xs l)) w) :=
  slice_call [.v (.slice a xs.length c), .v (.int .i64 l)] w ok_evergreenref21_Pairs (by simp) (vc_rPairs w a c xs l hx hl hu hl1)

theorem u64s_of {xs : List Int} (h : ∀ z ∈ xs, 0 ≤ z ∧ z ≤ 18446744073709551615) : U64s xs := fun i => by
  by_cases hi : i < xs.length
  · have : xs.getD i 0 ∈ xs := by simp [hi]
    exact h _ this
  · rw [List.getD_eq_getElem?_getD, List.getElem?_eq_none (by omega)]; decide

theorem calls_awake (w : World) : Calls Try.prog fn_evergreenlaw21_awake #[] w fun x w' => x = .returned (.bool true) ∧ Ext w w' := by
  refine pure_call [] w ok_evergreenlaw21_awake (by simp) ?_
  have r1 : runs [7, 7, 4, 7] = [(7, 2), (4, 1), (7, 1)] := by decide
  have p1 : pairsF [2, 1, 2, 2, 3] 2 = [0, 3] := by decide
  have p2 : pairsF [5, 5, 5, 5, 5] 246 = [0, 2] := by decide
  have hr : ∀ w a c, In w [] a (ints .i64 [7, 7, 4, 7]) → Calls Try.prog fn_levels_Runs #[.slice a 4 c] w (RetS ty_api_Group 2 3 (prs .i64 [(7, 2), (4, 1), (7, 1)]) w) := fun w a c hx => by
    have := calls_Runs w a c _ hx (by decide)
    rw [r1] at this; exact this
  have h1 : ∀ w a c, In w [] a (ints .u64 [2, 1, 2, 2, 3]) → Calls Try.prog fn_levels_Pairs #[.slice a 5 c, .int .i64 2] w (RetS ty_int 1 2 (ints .i64 [0, 3]) w) := fun w a c hx => by
    have := calls_Pairs w a c _ 2 hx (by decide) (u64s_of (by decide)) (by decide)
    rw [p1] at this; exact this
  have h2 : ∀ w a c, In w [] a (ints .u64 [5, 5, 5, 5, 5]) → Calls Try.prog fn_levels_Pairs #[.slice a 5 c, .int .i64 246] w (RetS ty_int 1 2 (ints .i64 [0, 2]) w) := fun w a c hx => by
    have := calls_Pairs w a c _ 246 hx (by decide) (u64s_of (by decide)) (by decide)
    rw [p2] at this; exact this
  have i1 : ∀ w a c b d, In w [] a (ints .i64 [0, 3]) → In w [] b (ints .i64 [0, 3]) → Calls Try.prog fn_evergreenbase_Ints #[.slice a 2 c, .slice b 2 d] w fun x w' => x = .returned (.bool true) ∧ Ext w w' := fun w a c b d hx hy =>
    calls_Ints w a b c d _ _ hx hy (by decide)
  have i2 : ∀ w a c b d, In w [] a (ints .i64 [0, 2]) → In w [] b (ints .i64 [0, 2]) → Calls Try.prog fn_evergreenbase_Ints #[.slice a 2 c, .slice b 2 d] w fun x w' => x = .returned (.bool true) ∧ Ext w w' := fun w a c b d hx hy =>
    calls_Ints w a b c d _ _ hx hy (by decide)
  (repeat' ((conv => whnf); first | refine CallK_slice 3 (fun w' hR => hr w' _ _ (In.ownR (key := 2) hR rfl)) ?_ | refine CallK_slice 16 (fun w' hR => h1 w' _ _ (In.ownR (key := 15) hR rfl)) ?_ | refine CallK_slice 22 (fun w' hR => h2 w' _ _ (In.ownR (key := 21) hR rfl)) ?_ | refine CallK_pure (.v _) (fun w' hR => i1 w' _ _ _ _ (In.ownR (key := 16) hR rfl) (In.ownR (key := 17) hR rfl)) ?_ | refine CallK_pure (.v _) (fun w' hR => i2 w' _ _ _ _ (In.ownR (key := 22) hR rfl) (In.ownR (key := 23) hR rfl)) ?_ | (refine bcase_prop (fun h => ?_) (fun h => ?_) <;> try (exfalso; omega)) | (refine bcase_nprop (fun h => ?_) (fun h => ?_) <;> try (exfalso; omega)) | (refine bcase_intro (fun h => ?_) (fun h => ?_) <;> (try simp only [Bool.not_eq_true', Bool.not_eq_false', decide_eq_true_eq, decide_eq_false_iff_not, Bool.not_eq_true, Bool.not_eq_false, Decidable.not_not] at h)) | refine And.intro (by first | omega | exact rfl | assumption | exact ⟨rfl, rfl, rfl, rfl, rfl⟩ | exact ⟨rfl, rfl, rfl, rfl⟩ | exact ⟨rfl, by omega⟩ | exact oneAll_of rfl | exact ⟨rfl, oneAll_of rfl⟩ | exact ⟨rfl, rfl, trivial⟩ | exact ⟨rfl, Nat.le_of_ble_eq_true rfl⟩ | ((try unfold maxLen); (try simp only [List.length_nil, List.length_cons, List.length_append]); omega) | (refine ⟨rfl, ?_⟩; (try simp only [List.length_nil, List.length_cons, List.length_append]); omega)) ?_ | intro _)); (all_goals (conv => whnf))
  exact ⟨rfl⟩

theorem law_LevelsPairs (w : World) (a : Option Addr) (c : Nat) (xs : List Int) (l : Int) (hx : In w [] a (ints .u64 xs)) (hu : U64s xs) (hl1 : l ≤ 9223372036854775807) (hm : xs.length ≤ 140737488351232) :
    Calls Try.prog fn_evergreenlaw21_LevelsPairs #[.slice a xs.length c, .int .i64 l] w fun x w' => x = .returned (.bool true) ∧ Ext w w' := by
  refine pure_call [.v (.slice a xs.length c), .v (.int .i64 l)] w ok_evergreenlaw21_LevelsPairs (by simp) ?_
  have hlen := pairsF_length xs l
  (repeat' ((conv => whnf); first | refine CallK_pure (.v _) (fun w' hR => calls_awake w') ?_ | refine CallK_slice 15 (fun w' hR => calls_Pairs w' a c xs l (hx.cast hR (by simp)) (by omega) hu hl1) ?_ | refine CallK_slice 18 (fun w' hR => calls_rPairs w' a c xs l (hx.cast hR (by simp)) (by omega) hu hl1) ?_ | refine CallK_pure (.v _) (fun w' hR => calls_Ints w' _ _ _ _ _ _ (In.ownR (key := 15) hR rfl) (In.ownR (key := 18) hR rfl) (by omega)) ?_ | (refine bcase_prop (fun h => ?_) (fun h => ?_) <;> try (exfalso; omega)) | (refine bcase_nprop (fun h => ?_) (fun h => ?_) <;> try (exfalso; omega)) | (refine bcase_intro (fun h => ?_) (fun h => ?_) <;> (try simp only [Bool.not_eq_true', Bool.not_eq_false', decide_eq_true_eq, decide_eq_false_iff_not, Bool.not_eq_true, Bool.not_eq_false, Decidable.not_not] at h)) | refine And.intro (by first | omega | exact rfl | assumption | exact ⟨rfl, rfl, rfl, rfl, rfl⟩ | exact ⟨rfl, rfl, rfl, rfl⟩ | exact ⟨rfl, by omega⟩ | exact oneAll_of rfl | exact ⟨rfl, oneAll_of rfl⟩ | exact ⟨rfl, Nat.le_of_ble_eq_true rfl⟩ | ((try unfold maxLen); (try simp only [List.length_nil, List.length_cons, List.length_append]); omega) | (refine ⟨rfl, ?_⟩; (try simp only [List.length_nil, List.length_cons, List.length_append]); omega)) ?_ | intro _)); (all_goals (conv => whnf))
  · exact ⟨rfl⟩
  · exact ⟨by simp⟩

theorem law_LevelsStretches (w : World) (a : Option Addr) (c : Nat) (xs : List Int) (hx : In w [] a (ints .u64 xs)) (hm : xs.length ≤ 140737488351232) :
    Calls Try.prog fn_evergreenlaw21_LevelsStretches #[.slice a xs.length c] w fun x w' => x = .returned (.bool true) ∧ Ext w w' := by
  refine pure_call [.v (.slice a xs.length c)] w ok_evergreenlaw21_LevelsStretches (by simp) ?_
  have hst := str_len xs
  (repeat' ((conv => whnf); first | refine CallK_pure (.v _) (fun w' hR => calls_awake w') ?_ | refine CallK_slice 15 (fun w' hR => calls_Stretches w' a c xs (hx.cast hR (by simp)) (by omega)) ?_ | refine CallK_slice 17 (fun w' hR => calls_rStretches w' a c xs (hx.cast hR (by simp)) (by omega)) ?_ | (refine bcase_prop (fun h => ?_) (fun h => ?_) <;> try (exfalso; omega)) | (refine bcase_nprop (fun h => ?_) (fun h => ?_) <;> try (exfalso; omega)) | (refine bcase_intro (fun h => ?_) (fun h => ?_) <;> (try simp only [Bool.not_eq_true', Bool.not_eq_false', decide_eq_true_eq, decide_eq_false_iff_not, Bool.not_eq_true, Bool.not_eq_false, Decidable.not_not] at h)) | refine And.intro (by first | omega | exact rfl | assumption | exact ⟨rfl, rfl, rfl, rfl, rfl⟩ | exact ⟨rfl, rfl, rfl, rfl⟩ | exact ⟨rfl, by omega⟩ | exact oneAll_of rfl | exact ⟨rfl, oneAll_of rfl⟩ | exact ⟨rfl, Nat.le_of_ble_eq_true rfl⟩ | ((try unfold maxLen); (try simp only [List.length_nil, List.length_cons, List.length_append]); omega) | (refine ⟨rfl, ?_⟩; (try simp only [List.length_nil, List.length_cons, List.length_append]); omega)) ?_ | intro _)); (all_goals (conv => whnf))
  · exact ⟨rfl⟩
  · rename_i h3 a1 c1 a2 c2
    refine VC_loop Nat (fun i => [(3, .sl 15 a1 (stretches xs).length c1), (4, .sl 17 a2 (stretches xs).length c2), (24, .v (.int .i64 (stretches xs).length)), (25, .v (.int .i64 i))])
      (fun i => [.own 17 a2 (stretches xs).length c2 ty_api_Span 2 (prs .i64 (stretches xs)), .own 15 a1 (stretches xs).length c1 ty_api_Span 2 (prs .i64 (stretches xs))])
      (fun i => i ≤ (stretches xs).length) (fun i => (stretches xs).length - i) 0 (by ((try dsimp only); omega)) (by (repeat ((conv => whnf); refine And.intro (by first | exact rfl | exact vint_eq (by omega) | exact vsl_eq (by omega)) ?_)); exact trivial) (.refl _) ?_
    intro i hi
    by_cases h4 : i < (stretches xs).length
    · (repeat' ((conv => whnf); first | (refine bcase_prop (fun h => ?_) (fun h => ?_) <;> try (exfalso; omega)) | (refine bcase_nprop (fun h => ?_) (fun h => ?_) <;> try (exfalso; omega)) | (refine bcase_intro (fun h => ?_) (fun h => ?_) <;> (try simp only [Bool.not_eq_true', Bool.not_eq_false', decide_eq_true_eq, decide_eq_false_iff_not, Bool.not_eq_true, Bool.not_eq_false, Decidable.not_not] at h)) | refine And.intro (by first | omega | exact rfl | assumption | exact ⟨rfl, rfl, rfl, rfl, rfl⟩ | exact ⟨rfl, rfl, rfl, rfl⟩ | exact ⟨rfl, by omega⟩ | exact oneAll_of rfl | exact ⟨rfl, oneAll_of rfl⟩ | exact ⟨isK_prs1 (by omega), isK_prs2 (by omega), trivial⟩ | exact ⟨rfl, Nat.le_of_ble_eq_true rfl⟩ | ((try unfold maxLen); (try simp only [List.length_nil, List.length_cons, List.length_append]); omega) | (refine ⟨rfl, ?_⟩; (try simp only [List.length_nil, List.length_cons, List.length_append]); omega)) ?_ | intro _)); (all_goals (conv => whnf))
      exact loop_next (i + 1) (by ((try dsimp only); omega)) (by ((try dsimp only); omega)) (by (repeat ((conv => whnf); refine And.intro (by first | exact rfl | exact vint_eq (by omega) | exact vsl_eq (by omega)) ?_)); exact trivial) (.refl _)
    · (repeat' ((conv => whnf); first | (refine bcase_prop (fun h => ?_) (fun h => ?_) <;> try (exfalso; omega)) | (refine bcase_nprop (fun h => ?_) (fun h => ?_) <;> try (exfalso; omega)) | (refine bcase_intro (fun h => ?_) (fun h => ?_) <;> (try simp only [Bool.not_eq_true', Bool.not_eq_false', decide_eq_true_eq, decide_eq_false_iff_not, Bool.not_eq_true, Bool.not_eq_false, Decidable.not_not] at h)) | refine And.intro (by first | omega | exact rfl | assumption | exact ⟨rfl, rfl, rfl, rfl, rfl⟩ | exact ⟨rfl, rfl, rfl, rfl⟩ | exact ⟨rfl, by omega⟩ | exact oneAll_of rfl | exact ⟨rfl, oneAll_of rfl⟩ | exact ⟨rfl, Nat.le_of_ble_eq_true rfl⟩ | ((try unfold maxLen); (try simp only [List.length_nil, List.length_cons, List.length_append]); omega) | (refine ⟨rfl, ?_⟩; (try simp only [List.length_nil, List.length_cons, List.length_append]); omega)) ?_ | intro _)); (all_goals (conv => whnf))
      exact ⟨rfl⟩

theorem law_LevelsRuns (w : World) (a : Option Addr) (c : Nat) (xs : List Int) (hx : In w [] a (ints .i64 xs)) (hm : xs.length ≤ 140737488351232) :
    Calls Try.prog fn_evergreenlaw21_LevelsRuns #[.slice a xs.length c] w fun x w' => x = .returned (.bool true) ∧ Ext w w' := by
  refine pure_call [.v (.slice a xs.length c)] w ok_evergreenlaw21_LevelsRuns (by simp) ?_
  have hst := runs_length xs
  (repeat' ((conv => whnf); first | refine CallK_pure (.v _) (fun w' hR => calls_awake w') ?_ | refine CallK_slice 16 (fun w' hR => calls_Runs w' a c xs (hx.cast hR (by simp)) (by omega)) ?_ | refine CallK_slice 18 (fun w' hR => calls_rRuns w' a c xs (hx.cast hR (by simp)) (by omega)) ?_ | (refine bcase_prop (fun h => ?_) (fun h => ?_) <;> try (exfalso; omega)) | (refine bcase_nprop (fun h => ?_) (fun h => ?_) <;> try (exfalso; omega)) | (refine bcase_intro (fun h => ?_) (fun h => ?_) <;> (try simp only [Bool.not_eq_true', Bool.not_eq_false', decide_eq_true_eq, decide_eq_false_iff_not, Bool.not_eq_true, Bool.not_eq_false, Decidable.not_not] at h)) | refine And.intro (by first | omega | exact rfl | assumption | exact ⟨rfl, rfl, rfl, rfl, rfl⟩ | exact ⟨rfl, rfl, rfl, rfl⟩ | exact ⟨rfl, by omega⟩ | exact oneAll_of rfl | exact ⟨rfl, oneAll_of rfl⟩ | exact ⟨rfl, Nat.le_of_ble_eq_true rfl⟩ | ((try unfold maxLen); (try simp only [List.length_nil, List.length_cons, List.length_append]); omega) | (refine ⟨rfl, ?_⟩; (try simp only [List.length_nil, List.length_cons, List.length_append]); omega)) ?_ | intro _)); (all_goals (conv => whnf))
  · exact ⟨rfl⟩
  · rename_i a1 c1 a2 c2
    refine VC_loop (Nat × List Int × Option Addr × Nat) (fun (i, out, a', c') => [(0, .v (.slice a xs.length c)), (3, .sl 16 a1 (runs xs).length c1), (4, .sl 18 a2 (runs xs).length c2), (5, .sl 5 a' out.length c'), (25, .v (.int .i64 (runs xs).length)), (26, .v (.int .i64 i))])
      (fun (i, out, a', c') => [.own 5 a' out.length c' ty_api_ID 1 (ints .i64 out), .own 18 a2 (runs xs).length c2 ty_api_Group 2 (prs .i64 (runs xs)), .own 16 a1 (runs xs).length c1 ty_api_Group 2 (prs .i64 (runs xs))])
      (fun (i, out, a', c') => i ≤ (runs xs).length ∧ out = expand ((runs xs).take i)) (fun (i, out, a', c') => (runs xs).length - i) (0, [], none, 0) ⟨by ((try dsimp only); omega), rfl⟩ (by (repeat ((conv => whnf); refine And.intro (by first | exact rfl | exact vint_eq (by omega) | exact vsl_eq (by omega)) ?_)); exact trivial) (Ref.ownNil 5 _ _) ?_
    rintro ⟨i, out, a', c'⟩ ⟨h1, h2⟩
    dsimp only at h1 h2 ⊢
    by_cases hi : i < (runs xs).length
    · have hout : out.length ≤ xs.length := by
        have := expand_take_le (runs xs) i
        rw [expand_runs] at this
        rw [h2]; omega
      have hnx := expand_take hi
      have hnl : (expand ((runs xs).take (i + 1))).length ≤ xs.length := by
        have := expand_take_le (runs xs) (i + 1)
        rwa [expand_runs] at this
      have hp := runs_get hi
      have e1 := intOf_prs1 (k := .i64) hi
      have e2 := intOf_prs2 (k := .i64) hi
      generalize hgg : (runs xs).getD i (0, 0) = g at *
      have hg2 : out.length + g.2.toNat ≤ xs.length := by
        rw [hnx, List.length_append, List.length_replicate, ← h2] at hnl; exact hnl
      (repeat' ((conv => whnf); first | (refine bcase_prop (fun h => ?_) (fun h => ?_) <;> try (exfalso; omega)) | (refine bcase_nprop (fun h => ?_) (fun h => ?_) <;> try (exfalso; omega)) | (refine bcase_intro (fun h => ?_) (fun h => ?_) <;> (try simp only [Bool.not_eq_true', Bool.not_eq_false', decide_eq_true_eq, decide_eq_false_iff_not, Bool.not_eq_true, Bool.not_eq_false, Decidable.not_not] at h)) | refine And.intro (by first | omega | exact rfl | assumption | exact ⟨rfl, rfl, rfl, rfl, rfl⟩ | exact ⟨rfl, rfl, rfl, rfl⟩ | exact ⟨rfl, by omega⟩ | exact oneAll_of rfl | exact ⟨rfl, oneAll_of rfl⟩ | exact ⟨isK_prs1 (by omega), isK_prs2 (by omega), trivial⟩ | exact isK_prs1 (by omega) | exact isK_prs2 (by omega) | exact ⟨rfl, Nat.le_of_ble_eq_true rfl⟩ | ((try unfold maxLen); (try simp only [List.length_nil, List.length_cons, List.length_append]); omega) | (refine ⟨rfl, ?_⟩; (try simp only [List.length_nil, List.length_cons, List.length_append]); omega)) ?_ | intro _)); (all_goals (conv => whnf))
      refine VC_loop (Nat × List Int × Option Addr × Nat) (fun (q, out2, a3, c3) => [(0, .v (.slice a xs.length c)), (3, .sl 16 a1 (runs xs).length c1), (4, .sl 18 a2 (runs xs).length c2), (5, .sl 5 a3 out2.length c3), (6, .v (.int .i64 i)), (25, .v (.int .i64 (runs xs).length)), (26, .v (.int .i64 i)), (42, .v (.int .i64 g.2)), (43, .v (.int .i64 q))])
        (fun (q, out2, a3, c3) => [.own 5 a3 out2.length c3 ty_api_ID 1 (ints .i64 out2), .own 18 a2 (runs xs).length c2 ty_api_Group 2 (prs .i64 (runs xs)), .own 16 a1 (runs xs).length c1 ty_api_Group 2 (prs .i64 (runs xs))])
        (fun (q, out2, a3, c3) => q ≤ g.2.toNat ∧ out2 = out ++ List.replicate q g.1) (fun (q, out2, a3, c3) => g.2.toNat - q) (0, out, a', c') ⟨by ((try dsimp only); omega), by simp⟩ (by simp only [Int.toNat_natCast, e2]; (repeat ((conv => whnf); refine And.intro (by first | exact rfl | exact vint_eq (by omega) | exact vsl_eq (by omega)) ?_)); exact trivial) (.refl _) ?_
      rintro ⟨q, out2, a3, c3⟩ ⟨k1, k2⟩
      dsimp only at k1 k2 ⊢
      have hl2 : out2.length = out.length + q := by rw [k2]; simp
      (repeat' ((conv => whnf); first | rw [Int.toNat_natCast] | rw [e1] | rw [e2] | (refine bcase_prop (fun h => ?_) (fun h => ?_) <;> try (exfalso; omega)) | (refine bcase_nprop (fun h => ?_) (fun h => ?_) <;> try (exfalso; omega)) | (refine bcase_intro (fun h => ?_) (fun h => ?_) <;> (try simp only [Bool.not_eq_true', Bool.not_eq_false', decide_eq_true_eq, decide_eq_false_iff_not, Bool.not_eq_true, Bool.not_eq_false, Decidable.not_not] at h)) | refine And.intro (by first | omega | exact rfl | assumption | exact ⟨rfl, rfl, rfl, rfl, rfl⟩ | exact ⟨rfl, rfl, rfl, rfl⟩ | exact ⟨rfl, by omega⟩ | exact oneAll_of rfl | exact ⟨rfl, oneAll_of rfl⟩ | exact isK_prs1 (by omega) | exact isK_prs2 (by omega) | exact ⟨rfl, Nat.le_of_ble_eq_true rfl⟩ | ((try unfold maxLen); (try simp only [List.length_nil, List.length_cons, List.length_append]); omega) | (refine ⟨rfl, ?_⟩; (try simp only [List.length_nil, List.length_cons, List.length_append]); omega)) ?_ | intro _)); (all_goals (conv => whnf))
      · refine loop_next (q + 1, out2 ++ [g.1], _, _) (by dsimp only; exact ⟨by omega, by rw [k2, List.replicate_succ', List.append_assoc]⟩) (by ((try dsimp only); omega)) (by (try simp only [List.length_append, List.length_cons, List.length_nil]); (repeat ((conv => whnf); refine And.intro (by first | exact rfl | exact vint_eq (by omega) | exact vsl_eq (by omega)) ?_)); exact trivial) (Thin.ref (.skip (.own (by simp) ints_snoc (.own rfl rfl (.own rfl rfl (.nil _))))))
      · have hq : q = g.2.toNat := by omega
        exact loop_next (i + 1, out2, a3, c3) (by dsimp only; exact ⟨by omega, by rw [k2, hnx, h2, hq]⟩) (by ((try dsimp only); omega)) (by (repeat ((conv => whnf); refine And.intro (by first | exact rfl | exact vint_eq (by omega) | exact vsl_eq (by omega)) ?_)); exact trivial) (.refl _)
    · have ho : out = xs := by rw [h2, List.take_of_length_le (by omega), expand_runs]
      (repeat' ((conv => whnf); first | refine CallK_pure (.v _) (fun w' hR => calls_IDs w' _ _ _ _ _ _ (In.ownR (key := 5) hR rfl) (hx.cast hR (by simp)) (by rw [ho]; omega)) ?_ | (refine bcase_prop (fun h => ?_) (fun h => ?_) <;> try (exfalso; omega)) | (refine bcase_nprop (fun h => ?_) (fun h => ?_) <;> try (exfalso; omega)) | (refine bcase_intro (fun h => ?_) (fun h => ?_) <;> (try simp only [Bool.not_eq_true', Bool.not_eq_false', decide_eq_true_eq, decide_eq_false_iff_not, Bool.not_eq_true, Bool.not_eq_false, Decidable.not_not] at h)) | refine And.intro (by first | omega | exact rfl | assumption | exact ⟨rfl, rfl, rfl, rfl, rfl⟩ | exact ⟨rfl, rfl, rfl, rfl⟩ | exact ⟨rfl, by omega⟩ | exact oneAll_of rfl | exact ⟨rfl, oneAll_of rfl⟩ | exact ⟨rfl, Nat.le_of_ble_eq_true rfl⟩ | ((try unfold maxLen); (try simp only [List.length_nil, List.length_cons, List.length_append]); omega) | (refine ⟨rfl, ?_⟩; (try simp only [List.length_nil, List.length_cons, List.length_append]); omega)) ?_ | intro _)); (all_goals (conv => whnf))
      exact ⟨by simp [ho]⟩
end Go.Proofs.Ytkekhgnbdhlmhaa
