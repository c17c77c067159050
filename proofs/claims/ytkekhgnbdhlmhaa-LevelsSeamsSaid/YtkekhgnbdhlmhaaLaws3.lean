/- The laws of rounds, seams and pairs that are apart: the Go functions return true. No condition but that what is read was there at the start. -/
import Derived.Test.YtkekhgnbdhlmhaaLaws2
import Derived.Test.YtkekhgnbdhlmhaaMath3
namespace Go.Proofs.Ytkekhgnbdhlmhaa
open Go.EG
attribute [local irreducible] CallK QCall Go.Calls
set_option linter.unusedSimpArgs false
set_option linter.unusedVariables false
set_option maxRecDepth 20000

theorem u64s_two {x y : Int} (hx : 0 ≤ x ∧ x ≤ 18446744073709551615) (hy : 0 ≤ y ∧ y ≤ 18446744073709551615) : U64s [x, y] :=
  u64s_of fun z hz => by
    simp only [List.mem_cons, List.not_mem_nil, or_false] at hz
    rcases hz with rfl | rfl <;> assumption

theorem law_LevelsRounds (w : World) (a : Option Addr) (c : Nat) (xs : List Int) (f : Int) (hx : In w [] a (ints .u64 xs)) (hu : U64s xs) (hm : xs.length ≤ 140737488351232) (hf : 0 ≤ f ∧ f ≤ 65535) :
    Calls Try.prog fn_evergreenlaw21_LevelsRounds #[.slice a xs.length c, .int .u16 f] w fun x w' => x = .returned (.bool true) ∧ Ext w w' := by
  refine pure_call [.v (.slice a xs.length c), .v (.int .u16 f)] w ok_evergreenlaw21_LevelsRounds (by simp) ?_
  (repeat' ((conv => whnf); first | refine CallK_pure (.v _) (fun w' hR => calls_awake w') ?_ | (refine bcase_prop (fun h => ?_) (fun h => ?_) <;> try (exfalso; omega)) | (refine bcase_nprop (fun h => ?_) (fun h => ?_) <;> try (exfalso; omega)) | (refine bcase_intro (fun h => ?_) (fun h => ?_) <;> (try simp only [Bool.not_eq_true', Bool.not_eq_false', decide_eq_true_eq, decide_eq_false_iff_not, Bool.not_eq_true, Bool.not_eq_false, Decidable.not_not] at h)) | refine And.intro (by first | omega | exact rfl | assumption | exact ⟨rfl, rfl, rfl, rfl, rfl⟩ | exact ⟨rfl, rfl, rfl, rfl⟩ | exact ⟨rfl, by omega⟩ | exact oneAll_of rfl | exact ⟨rfl, oneAll_of rfl⟩ | exact ⟨rfl, Nat.le_of_ble_eq_true rfl⟩ | ((try unfold maxLen); (try simp only [List.length_nil, List.length_cons, List.length_append]); omega) | (refine ⟨rfl, ?_⟩; (try simp only [List.length_nil, List.length_cons, List.length_append]); omega)) ?_ | intro _)); (all_goals (conv => whnf))
  · exact ⟨rfl⟩
  · refine VC_loop Nat (fun i => [(0, .v (.slice a xs.length c)), (5, .v (.int .i64 (2 * (1 + f % 1000)))), (6, .v (.int .i64 i))]) (fun i => []) (fun i => i ≤ xs.length) (fun i => xs.length - i) 0 (by ((try dsimp only); omega)) (by (repeat ((conv => whnf); refine And.intro (by first | exact rfl | exact vint_eq (by omega) | exact vsl_eq (by omega)) ?_)); exact trivial) (.refl _) ?_
    intro i hi
    have e1 : ((i : Int) + 1).toNat = i + 1 := by omega
    (repeat' ((conv => whnf); first | refine ⟨_, rdI hx (by omega), ?_⟩ | (refine bcase_prop (fun h => ?_) (fun h => ?_) <;> try (exfalso; omega)) | (refine bcase_nprop (fun h => ?_) (fun h => ?_) <;> try (exfalso; omega)) | (refine bcase_intro (fun h => ?_) (fun h => ?_) <;> (try simp only [Bool.not_eq_true', Bool.not_eq_false', decide_eq_true_eq, decide_eq_false_iff_not, Bool.not_eq_true, Bool.not_eq_false, Decidable.not_not] at h)) | refine And.intro (by first | omega | exact rfl | assumption | exact ⟨rfl, rfl, rfl, rfl, rfl⟩ | exact ⟨rfl, rfl, rfl, rfl⟩ | exact ⟨rfl, by omega⟩ | exact oneAll_of rfl | exact ⟨rfl, oneAll_of rfl⟩ | exact neI hx (by omega) | exact ⟨rfl, Nat.le_of_ble_eq_true rfl⟩ | ((try unfold maxLen); (try simp only [List.length_nil, List.length_cons, List.length_append]); omega) | (refine ⟨rfl, ?_⟩; (try simp only [List.length_nil, List.length_cons, List.length_append]); omega)) ?_ | intro _)); (all_goals (conv => whnf))
    · rw [e1, Int.toNat_natCast]
      have hx1 := hu i
      have hy1 := hu (i + 1)
      generalize xs.getD i 0 = x at hx1
      generalize xs.getD (i + 1) 0 = y at hy1
      refine VC_loop Nat (fun j => [(0, .v (.slice a xs.length c)), (5, .v (.int .i64 (2 * (1 + f % 1000)))), (6, .v (.int .i64 i)), (7, .v (.int .u64 x)), (8, .v (.int .u64 y)), (9, .v (.int .i64 (cntF x y (2 * (1 + f % 1000)) j))), (41, .v (.int .i64 j))]) (fun j => []) (fun j => j ≤ 123) (fun j => 123 - j) 0 (by ((try dsimp only); omega)) (by (repeat ((conv => whnf); refine And.intro (by first | exact rfl | exact vint_eq (by omega) | exact vsl_eq (by omega)) ?_)); exact trivial) (.refl _) ?_
      intro j hj
      have hcl := cntF_le x y (2 * (1 + f % 1000)) j
      have hc : ∀ w' a c, In w' [] a (ints .u64 [x, y]) → Calls Try.prog fn_levels_Pairs #[.slice a 2 c, .int .i64 (2 * (1 + f % 1000) + 2 * (j : Int))] w' (RetS ty_int 1 (if fitsF x y (2 * (1 + f % 1000) + 2 * (j : Int)) = true then 1 else 0) (ints .i64 (pairsF [x, y] (2 * (1 + f % 1000) + 2 * (j : Int)))) w') := fun w' a c hx => by
        have := calls_Pairs w' a c [x, y] (2 * (1 + f % 1000) + 2 * (j : Int)) hx (by simp) (u64s_two hx1 hy1) (by omega)
        rw [show (if fitsF x y (2 * (1 + f % 1000) + 2 * (j : Int)) = true then 1 else 0) = (pairsF [x, y] (2 * (1 + f % 1000) + 2 * (j : Int))).length from by rw [pairs_two]; split <;> rfl]
        exact this
      by_cases h123 : j < 123
      · have hs : cntF x y (2 * (1 + f % 1000)) (j + 1) = cntF x y (2 * (1 + f % 1000)) j + if fitsF x y (2 * (1 + f % 1000) + 2 * (j : Int)) = true then 1 else 0 := rfl
        have h1 : (if fitsF x y (2 * (1 + f % 1000) + 2 * (j : Int)) = true then 1 else 0) ≤ 1 := by split <;> omega
        generalize (if fitsF x y (2 * (1 + f % 1000) + 2 * (j : Int)) = true then 1 else 0) = q at hs hc h1
        (repeat' ((conv => whnf); first | refine CallK_slice 52 (fun w' hR => hc w' _ _ (In.ownR (key := 47) hR rfl)) ?_ | (refine bcase_prop (fun h => ?_) (fun h => ?_) <;> try (exfalso; omega)) | (refine bcase_nprop (fun h => ?_) (fun h => ?_) <;> try (exfalso; omega)) | (refine bcase_intro (fun h => ?_) (fun h => ?_) <;> (try simp only [Bool.not_eq_true', Bool.not_eq_false', decide_eq_true_eq, decide_eq_false_iff_not, Bool.not_eq_true, Bool.not_eq_false, Decidable.not_not] at h)) | refine And.intro (by first | omega | exact rfl | assumption | exact ⟨rfl, rfl, rfl, rfl, rfl⟩ | exact ⟨rfl, rfl, rfl, rfl⟩ | exact ⟨rfl, by omega⟩ | exact oneAll_of rfl | exact ⟨rfl, oneAll_of rfl⟩ | exact ⟨rfl, Nat.le_of_ble_eq_true rfl⟩ | ((try unfold maxLen); (try simp only [List.length_nil, List.length_cons, List.length_append]); omega) | (refine ⟨rfl, ?_⟩; (try simp only [List.length_nil, List.length_cons, List.length_append]); omega)) ?_ | intro _)); (all_goals (conv => whnf))
        exact loop_next (j + 1) (by ((try dsimp only); omega)) (by ((try dsimp only); omega)) (by rw [hs]; (repeat ((conv => whnf); refine And.intro (by first | exact rfl | exact vint_eq (by omega) | exact vsl_eq (by omega)) ?_)); exact trivial) (Thin.ref (.nil _))
      · have hj3 : j = 123 := by omega
        subst hj3
        have hr := rounds_iff hx1.1 hy1.1 (k := f % 1000) (by omega)
        have hq : 0 ≤ ((x.toNat ^^^ y.toNat : Nat) : Int) ∧ ((x.toNat ^^^ y.toNat : Nat) : Int) ≤ 18446744073709551615 := xor_u64 hx1 hy1
        by_cases hxy : x = y
        · have hcn : ¬ (cntF x y (2 * (1 + f % 1000)) 123 : Int) = 0 := fun h => (hr.1 (by omega)).1 hxy
          (repeat' ((conv => whnf); first | (refine bcase_prop (fun h => ?_) (fun h => ?_) <;> try (exfalso; omega)) | (refine bcase_nprop (fun h => ?_) (fun h => ?_) <;> try (exfalso; omega)) | (refine bcase_intro (fun h => ?_) (fun h => ?_) <;> (try simp only [Bool.not_eq_true', Bool.not_eq_false', decide_eq_true_eq, decide_eq_false_iff_not, Bool.not_eq_true, Bool.not_eq_false, Decidable.not_not] at h)) | refine And.intro (by first | omega | exact rfl | assumption | exact ⟨rfl, rfl, rfl, rfl, rfl⟩ | exact ⟨rfl, rfl, rfl, rfl⟩ | exact ⟨rfl, by omega⟩ | exact oneAll_of rfl | exact ⟨rfl, oneAll_of rfl⟩ | exact ⟨hx1.1, hx1.2, hy1.1, hy1.2⟩ | exact ⟨by decide, by show _ ≤ (64 : Int); decide⟩ | exact ⟨rfl, Nat.le_of_ble_eq_true rfl⟩ | ((try unfold maxLen); (try simp only [List.length_nil, List.length_cons, List.length_append]); omega) | (refine ⟨rfl, ?_⟩; (try simp only [List.length_nil, List.length_cons, List.length_append]); omega)) ?_ | intro _)); (all_goals (conv => whnf))
          · exfalso
            rw [decide_eq_false hcn] at h; simp at h
          · exact loop_next (i + 1) (by ((try dsimp only); omega)) (by ((try dsimp only); omega)) (by (repeat ((conv => whnf); refine And.intro (by first | exact rfl | exact vint_eq (by omega) | exact vsl_eq (by omega)) ?_)); exact trivial) (.refl _)
        · by_cases h8 : ((x.toNat ^^^ y.toNat : Nat) : Int) * ((2 ^ (3 : Int).toNat : Nat) : Int) % 18446744073709551616 = 0
          · have hcn : (cntF x y (2 * (1 + f % 1000)) 123 : Int) = 0 := by have := hr.2 ⟨hxy, h8⟩; omega
            (repeat' ((conv => whnf); first | (refine bcase_prop (fun h => ?_) (fun h => ?_) <;> try (exfalso; omega)) | (refine bcase_nprop (fun h => ?_) (fun h => ?_) <;> try (exfalso; omega)) | (refine bcase_intro (fun h => ?_) (fun h => ?_) <;> (try simp only [Bool.not_eq_true', Bool.not_eq_false', decide_eq_true_eq, decide_eq_false_iff_not, Bool.not_eq_true, Bool.not_eq_false, Decidable.not_not] at h)) | refine And.intro (by first | omega | exact rfl | assumption | exact ⟨rfl, rfl, rfl, rfl, rfl⟩ | exact ⟨rfl, rfl, rfl, rfl⟩ | exact ⟨rfl, by omega⟩ | exact oneAll_of rfl | exact ⟨rfl, oneAll_of rfl⟩ | exact ⟨hx1.1, hx1.2, hy1.1, hy1.2⟩ | exact ⟨by decide, by show _ ≤ (64 : Int); decide⟩ | exact ⟨rfl, Nat.le_of_ble_eq_true rfl⟩ | ((try unfold maxLen); (try simp only [List.length_nil, List.length_cons, List.length_append]); omega) | (refine ⟨rfl, ?_⟩; (try simp only [List.length_nil, List.length_cons, List.length_append]); omega)) ?_ | intro _)); (all_goals (conv => whnf))
            · exfalso
              rw [decide_eq_true hcn, decide_eq_true h8] at h; simp at h
            · exact loop_next (i + 1) (by ((try dsimp only); omega)) (by ((try dsimp only); omega)) (by (repeat ((conv => whnf); refine And.intro (by first | exact rfl | exact vint_eq (by omega) | exact vsl_eq (by omega)) ?_)); exact trivial) (.refl _)
          · have hcn : ¬ (cntF x y (2 * (1 + f % 1000)) 123 : Int) = 0 := fun h => h8 (hr.1 (by omega)).2
            (repeat' ((conv => whnf); first | (refine bcase_prop (fun h => ?_) (fun h => ?_) <;> try (exfalso; omega)) | (refine bcase_nprop (fun h => ?_) (fun h => ?_) <;> try (exfalso; omega)) | (refine bcase_intro (fun h => ?_) (fun h => ?_) <;> (try simp only [Bool.not_eq_true', Bool.not_eq_false', decide_eq_true_eq, decide_eq_false_iff_not, Bool.not_eq_true, Bool.not_eq_false, Decidable.not_not] at h)) | refine And.intro (by first | omega | exact rfl | assumption | exact ⟨rfl, rfl, rfl, rfl, rfl⟩ | exact ⟨rfl, rfl, rfl, rfl⟩ | exact ⟨rfl, by omega⟩ | exact oneAll_of rfl | exact ⟨rfl, oneAll_of rfl⟩ | exact ⟨hx1.1, hx1.2, hy1.1, hy1.2⟩ | exact ⟨by decide, by show _ ≤ (64 : Int); decide⟩ | exact ⟨rfl, Nat.le_of_ble_eq_true rfl⟩ | ((try unfold maxLen); (try simp only [List.length_nil, List.length_cons, List.length_append]); omega) | (refine ⟨rfl, ?_⟩; (try simp only [List.length_nil, List.length_cons, List.length_append]); omega)) ?_ | intro _)); (all_goals (conv => whnf))
            · exfalso
              rw [decide_eq_false hcn, decide_eq_false h8] at h; simp at h
            · exact loop_next (i + 1) (by ((try dsimp only); omega)) (by ((try dsimp only); omega)) (by (repeat ((conv => whnf); refine And.intro (by first | exact rfl | exact vint_eq (by omega) | exact vsl_eq (by omega)) ?_)); exact trivial) (.refl _)
    · exact ⟨rfl⟩

theorem u64s_append {a b : List Int} (ha : U64s a) (hb : U64s b) : U64s (a ++ b) := fun i => by
  by_cases h : i < a.length
  · rw [getD_append_left h]; exact ha i
  · obtain ⟨j, rfl⟩ : ∃ j, i = a.length + j := ⟨i - a.length, by omega⟩
    rw [getD_append_right]; exact hb j
theorem seamF_le (a b : List Int) (l : Int) : (seamF a b l).length ≤ 1 := by unfold seamF; split <;> simp

theorem law_LevelsSeams (w : World) (a : Option Addr) (c : Nat) (xs : List Int) (b : Option Addr) (d : Nat) (ys : List Int) (l : Int) (hx : In w [] a (ints .u64 xs)) (hy : In w [] b (ints .u64 ys)) (hu : U64s xs) (hv : U64s ys) (hm : xs.length ≤ 140737488351232) (hn : ys.length ≤ 140737488351232) (hl1 : l ≤ 9223372036854775807) :
    Calls Try.prog fn_evergreenlaw21_LevelsSeams #[.slice a xs.length c, .slice b ys.length d, .int .i64 l] w fun x w' => x = .returned (.bool true) ∧ Ext w w' := by
  refine pure_call [.v (.slice a xs.length c), .v (.slice b ys.length d), .v (.int .i64 l)] w ok_evergreenlaw21_LevelsSeams (by simp) ?_
  have hpx := pairsF_length xs l
  have hpy := pairsF_length ys l
  by_cases hlen : 400 < (xs.length : Int) + ys.length
  · (repeat' ((conv => whnf); first | refine CallK_pure (.v _) (fun w' hR => calls_awake w') ?_ | (refine bcase_prop (fun h => ?_) (fun h => ?_) <;> try (exfalso; omega)) | (refine bcase_nprop (fun h => ?_) (fun h => ?_) <;> try (exfalso; omega)) | (refine bcase_intro (fun h => ?_) (fun h => ?_) <;> (try simp only [Bool.not_eq_true', Bool.not_eq_false', decide_eq_true_eq, decide_eq_false_iff_not, Bool.not_eq_true, Bool.not_eq_false, Decidable.not_not] at h)) | refine And.intro (by first | omega | exact rfl | assumption | exact ⟨rfl, rfl, rfl, rfl, rfl⟩ | exact ⟨rfl, rfl, rfl, rfl⟩ | exact ⟨rfl, by omega⟩ | exact oneAll_of rfl | exact ⟨rfl, oneAll_of rfl⟩ | exact ⟨rfl, Nat.le_of_ble_eq_true rfl⟩ | ((try unfold maxLen); (try simp only [List.length_nil, List.length_cons, List.length_append]); omega) | (refine ⟨rfl, ?_⟩; (try simp only [List.length_nil, List.length_cons, List.length_append]); omega)) ?_ | intro _)); (all_goals (conv => whnf))
    exact ⟨rfl⟩
  cases ht : tieF l with
  | true =>
    have hc : ∀ w, Calls Try.prog fn_keys_Number #[.int .i64 l] w fun x w' => x = .returned (.tuple #[.int .i64 (bitN l), .int .u64 (firstN l), .bool true]) ∧ Ext w w' := fun w => by
      have := calls_Number l w hl1
      rw [ht] at this; exact this
    (repeat' ((conv => whnf); first | refine CallK_pure (.v _) (fun w' hR => calls_awake w') ?_ | refine CallK_pure (.v _) (fun w hR => hc w) ?_ | (refine bcase_prop (fun h => ?_) (fun h => ?_) <;> try (exfalso; omega)) | (refine bcase_nprop (fun h => ?_) (fun h => ?_) <;> try (exfalso; omega)) | (refine bcase_intro (fun h => ?_) (fun h => ?_) <;> (try simp only [Bool.not_eq_true', Bool.not_eq_false', decide_eq_true_eq, decide_eq_false_iff_not, Bool.not_eq_true, Bool.not_eq_false, Decidable.not_not] at h)) | refine And.intro (by first | omega | exact rfl | assumption | exact ⟨rfl, rfl, rfl, rfl, rfl⟩ | exact ⟨rfl, rfl, rfl, rfl⟩ | exact ⟨rfl, by omega⟩ | exact oneAll_of rfl | exact ⟨rfl, oneAll_of rfl⟩ | exact ⟨rfl, Nat.le_of_ble_eq_true rfl⟩ | ((try unfold maxLen); (try simp only [List.length_nil, List.length_cons, List.length_append]); omega) | (refine ⟨rfl, ?_⟩; (try simp only [List.length_nil, List.length_cons, List.length_append]); omega)) ?_ | intro _)); (all_goals (conv => whnf))
    exact ⟨rfl⟩
  | false =>
    have hc : ∀ w, Calls Try.prog fn_keys_Number #[.int .i64 l] w fun x w' => x = .returned (.tuple #[.int .i64 (bitN l), .int .u64 (firstN l), .bool false]) ∧ Ext w w' := fun w => by
      have := calls_Number l w hl1
      rw [ht] at this; exact this
    have hseam := seams (a := xs) (b := ys) ht
    have hsl := seamF_le xs ys l
    (repeat' ((conv => whnf); first | refine CallK_pure (.v _) (fun w' hR => calls_awake w') ?_ | refine CallK_pure (.v _) (fun w hR => hc w) ?_ | refine CallK_slice 33 (fun w' hR => calls_Pairs w' a c xs l (hx.cast hR (by simp)) (by omega) hu (by omega)) ?_ | refine CallK_pure (.v _) (fun w' hR => calls_Fits _ _ l w' (hu _) (hv _) hl1) ?_ | refine And.intro (Ref.refl _) ?_ | refine CallK_slice 63 (fun w' hR => calls_Pairs w' b d ys l (hy.cast hR (by simp)) (by omega) hv (by omega)) ?_ | refine ⟨_, rdI hx (by omega), ?_⟩ | refine ⟨_, rdI hy (by omega), ?_⟩ | (refine bcase_prop (fun h => ?_) (fun h => ?_) <;> try (exfalso; omega)) | (refine bcase_nprop (fun h => ?_) (fun h => ?_) <;> try (exfalso; omega)) | (refine bcase_intro (fun h => ?_) (fun h => ?_) <;> (try simp only [Bool.not_eq_true', Bool.not_eq_false', decide_eq_true_eq, decide_eq_false_iff_not, Bool.not_eq_true, Bool.not_eq_false, Decidable.not_not] at h)) | refine And.intro (by first | omega | exact rfl | assumption | exact ⟨rfl, rfl, rfl, rfl, rfl⟩ | exact ⟨rfl, rfl, rfl, rfl⟩ | exact ⟨rfl, by omega⟩ | exact oneAll_of rfl | exact ⟨rfl, oneAll_of rfl⟩ | exact neI hx (by omega) | exact neI hy (by omega) | exact ⟨rfl, Nat.le_of_ble_eq_true rfl⟩ | ((try unfold maxLen); (try simp only [List.length_nil, List.length_cons, List.length_append]); omega) | (refine ⟨rfl, ?_⟩; (try simp only [List.length_nil, List.length_cons, List.length_append]); omega)) ?_ | intro _)); (all_goals (conv => whnf))
    · generalize hB : pairsF xs l ++ seamF xs ys l = B
      have hBl : B.length = (pairsF xs l).length + (seamF xs ys l).length := by rw [← hB, List.length_append]
      have hS : seamF xs ys l = [(xs.length : Int) - 1] := by
        unfold seamF
        rw [if_pos ⟨by omega, by omega, by rw [show xs.length - 1 = ((xs.length : Int) - 1).toNat from by omega]; exact h⟩]
        congr 1; omega
      rw [hS, List.length_singleton] at hBl
      refine VC_loop (Nat × List Int × Option Addr × Nat × Option Addr × Nat) (fun (i, out, a', c', a3, c3) => [(0, .v (.slice a xs.length c)), (1, .v (.slice b ys.length d)), (2, .v (.int .i64 l)), (10, .sl 33 a' out.length c'), (63, .sl 63 a3 (pairsF ys l).length c3), (64, .v (.int .i64 (pairsF ys l).length)), (65, .v (.int .i64 i))])
        (fun (i, out, a', c', a3, c3) => [.own 63 a3 (pairsF ys l).length c3 ty_int 1 (ints .i64 (pairsF ys l)), .own 33 a' out.length c' ty_int 1 (ints .i64 out)])
        (fun (i, out, a', c', a3, c3) => i ≤ (pairsF ys l).length ∧ out = B ++ ((pairsF ys l).take i).map fun z => (xs.length : Int) + z) (fun (i, out, a', c', a3, c3) => (pairsF ys l).length - i) (0, B, _, _, _, _) ⟨by ((try dsimp only); omega), by simp⟩ (by dsimp only; (repeat ((conv => whnf); refine And.intro (by first | exact rfl | exact vint_eq (by omega) | exact vsl_eq (by omega)) ?_)); exact trivial)
        (by rw [hS] at hB; exact Thin.ref (.own rfl rfl (.skip (.own (by omega) (by rw [← hB]; exact ints_snoc) (.nil _))))) ?_
      rintro ⟨i, out, a', c', a3, c3⟩ ⟨h1, h2⟩
      dsimp only at h1 h2 ⊢
      have hol : out.length = B.length + ((pairsF ys l).take i).length := by rw [h2, List.length_append, List.length_map]
      have htl : ((pairsF ys l).take i).length ≤ i := List.length_take_le _ _
      by_cases h3 : i < (pairsF ys l).length
      · have e1 := intOf_ints (k := .i64) h3
        have hg := pairs_fit (xs := ys) (l := l) (z := (pairsF ys l).getD i 0) (by simp [h3])
        have hnx : (pairsF ys l).take (i + 1) = (pairsF ys l).take i ++ [(pairsF ys l).getD i 0] := by
          rw [List.take_add_one, getD_some h3]; rfl
        generalize hz : (pairsF ys l).getD i 0 = z at *
        (repeat' ((conv => whnf); first | rw [Int.toNat_natCast] | rw [e1] | (refine bcase_prop (fun h => ?_) (fun h => ?_) <;> try (exfalso; omega)) | (refine bcase_nprop (fun h => ?_) (fun h => ?_) <;> try (exfalso; omega)) | (refine bcase_intro (fun h => ?_) (fun h => ?_) <;> (try simp only [Bool.not_eq_true', Bool.not_eq_false', decide_eq_true_eq, decide_eq_false_iff_not, Bool.not_eq_true, Bool.not_eq_false, Decidable.not_not] at h)) | refine And.intro (by first | omega | exact rfl | assumption | exact ⟨rfl, rfl, rfl, rfl, rfl⟩ | exact ⟨rfl, rfl, rfl, rfl⟩ | exact ⟨rfl, by omega⟩ | exact oneAll_of rfl | exact ⟨rfl, oneAll_of rfl⟩ | exact isK_ints (by omega) | exact ⟨rfl, Nat.le_of_ble_eq_true rfl⟩ | ((try unfold maxLen); (try simp only [List.length_nil, List.length_cons, List.length_append]); omega) | (refine ⟨rfl, ?_⟩; (try simp only [List.length_nil, List.length_cons, List.length_append]); omega)) ?_ | intro _)); (all_goals (conv => whnf))
        all_goals exact loop_next (i + 1, out ++ [(xs.length : Int) + z], _, _, a3, c3) (by dsimp only; exact ⟨by omega, by rw [h2, hnx, List.map_append, List.append_assoc]; rfl⟩) (by ((try dsimp only); omega)) (by (try simp only [List.length_append, List.length_cons, List.length_nil]); (repeat ((conv => whnf); refine And.intro (by first | exact rfl | exact vint_eq (by omega) | exact vsl_eq (by omega)) ?_)); exact trivial) (Thin.ref (.skip (.own rfl rfl (.own (by simp) ints_snoc (.nil _)))))
      · have ho : out = pairsF (xs ++ ys) l := by rw [h2, List.take_of_length_le (by omega), hseam, hB]
        have hol2 : out.length ≤ 1000 := by omega
        have hc2 : ∀ w' a c, In w' [] a (ints .u64 xs ++ ints .u64 ys) → Calls Try.prog fn_levels_Pairs #[.slice a (0 + xs.length + ys.length) c, .int .i64 l] w' (RetS ty_int 1 out.length (ints .i64 out) w') := fun w' a c hz => by
          have := calls_Pairs w' a c (xs ++ ys) l (by rw [show ints .u64 (xs ++ ys) = ints .u64 xs ++ ints .u64 ys from by simp [ints]]; exact hz) (by rw [List.length_append]; omega) (u64s_append hu hv) hl1
          rw [← ho, List.length_append] at this
          rw [Nat.zero_add]; exact this
        (repeat' ((conv => whnf); first | refine ⟨ints .u64 xs, hx.rds (by rw [ints_length, Nat.mul_one]), ?_⟩ | refine ⟨ints .u64 ys, hy.rds (by rw [ints_length, Nat.mul_one]), ?_⟩ | refine CallK_slice 83 (fun w' hR => hc2 w' _ _ (In.ownR (key := 77) hR rfl)) ?_ | refine CallK_pure (.v _) (fun w' hR => calls_IntsT w' _ _ _ _ _ (In.ownR (key := 83) hR rfl) (In.ownR (key := 33) hR rfl) (by omega)) ?_ | (refine bcase_prop (fun h => ?_) (fun h => ?_) <;> try (exfalso; omega)) | (refine bcase_nprop (fun h => ?_) (fun h => ?_) <;> try (exfalso; omega)) | (refine bcase_intro (fun h => ?_) (fun h => ?_) <;> (try simp only [Bool.not_eq_true', Bool.not_eq_false', decide_eq_true_eq, decide_eq_false_iff_not, Bool.not_eq_true, Bool.not_eq_false, Decidable.not_not] at h)) | refine And.intro (by first | omega | exact rfl | assumption | exact ⟨rfl, rfl, rfl, rfl, rfl⟩ | exact ⟨rfl, rfl, rfl, rfl⟩ | exact ⟨rfl, by omega⟩ | exact oneAll_of rfl | exact ⟨rfl, oneAll_of rfl⟩ | exact oneAll_ints xs | exact oneAll_ints ys | exact ⟨rfl, Nat.le_of_ble_eq_true rfl⟩ | ((try unfold maxLen); (try simp only [List.length_nil, List.length_cons, List.length_append]); omega) | (refine ⟨rfl, ?_⟩; (try simp only [List.length_nil, List.length_cons, List.length_append]); omega)) ?_ | intro _)); (all_goals (conv => whnf))
        exact ⟨rfl⟩
    all_goals
      generalize hB : pairsF xs l ++ seamF xs ys l = B
      have hBl : B.length = (pairsF xs l).length + (seamF xs ys l).length := by rw [← hB, List.length_append]
      have hS : seamF xs ys l = [] := by
        unfold seamF
        rw [if_neg]
        refine fun ⟨h1, h2, h3⟩ => ?_
        first
        | (exfalso; omega)
        | (rw [show xs.length - 1 = ((xs.length : Int) - 1).toNat from by omega] at h3
           have h : fitsF (xs.getD ((xs.length : Int) - 1).toNat 0) (ys.getD 0 0) l = false := h
           rw [h] at h3; cases h3)
      rw [hS, List.length_nil, Nat.add_zero] at hBl
      refine VC_loop (Nat × List Int × Option Addr × Nat × Option Addr × Nat) (fun (i, out, a', c', a3, c3) => [(0, .v (.slice a xs.length c)), (1, .v (.slice b ys.length d)), (2, .v (.int .i64 l)), (10, .sl 33 a' out.length c'), (63, .sl 63 a3 (pairsF ys l).length c3), (64, .v (.int .i64 (pairsF ys l).length)), (65, .v (.int .i64 i))])
        (fun (i, out, a', c', a3, c3) => [.own 63 a3 (pairsF ys l).length c3 ty_int 1 (ints .i64 (pairsF ys l)), .own 33 a' out.length c' ty_int 1 (ints .i64 out)])
        (fun (i, out, a', c', a3, c3) => i ≤ (pairsF ys l).length ∧ out = B ++ ((pairsF ys l).take i).map fun z => (xs.length : Int) + z) (fun (i, out, a', c', a3, c3) => (pairsF ys l).length - i) (0, B, _, _, _, _) ⟨by ((try dsimp only); omega), by simp⟩ (by dsimp only; (repeat ((conv => whnf); refine And.intro (by first | exact rfl | exact vint_eq (by omega) | exact vsl_eq (by omega)) ?_)); exact trivial)
        (by rw [hS, List.append_nil] at hB; subst hB; exact Thin.ref (.own rfl rfl (.own rfl rfl (.nil _)))) ?_
      rintro ⟨i, out, a', c', a3, c3⟩ ⟨h1, h2⟩
      dsimp only at h1 h2 ⊢
      have hol : out.length = B.length + ((pairsF ys l).take i).length := by rw [h2, List.length_append, List.length_map]
      have htl : ((pairsF ys l).take i).length ≤ i := List.length_take_le _ _
      by_cases h3 : i < (pairsF ys l).length
      · have e1 := intOf_ints (k := .i64) h3
        have hg := pairs_fit (xs := ys) (l := l) (z := (pairsF ys l).getD i 0) (by simp [h3])
        have hnx : (pairsF ys l).take (i + 1) = (pairsF ys l).take i ++ [(pairsF ys l).getD i 0] := by
          rw [List.take_add_one, getD_some h3]; rfl
        generalize hz : (pairsF ys l).getD i 0 = z at *
        (repeat' ((conv => whnf); first | rw [Int.toNat_natCast] | rw [e1] | (refine bcase_prop (fun h => ?_) (fun h => ?_) <;> try (exfalso; omega)) | (refine bcase_nprop (fun h => ?_) (fun h => ?_) <;> try (exfalso; omega)) | (refine bcase_intro (fun h => ?_) (fun h => ?_) <;> (try simp only [Bool.not_eq_true', Bool.not_eq_false', decide_eq_true_eq, decide_eq_false_iff_not, Bool.not_eq_true, Bool.not_eq_false, Decidable.not_not] at h)) | refine And.intro (by first | omega | exact rfl | assumption | exact ⟨rfl, rfl, rfl, rfl, rfl⟩ | exact ⟨rfl, rfl, rfl, rfl⟩ | exact ⟨rfl, by omega⟩ | exact oneAll_of rfl | exact ⟨rfl, oneAll_of rfl⟩ | exact isK_ints (by omega) | exact ⟨rfl, Nat.le_of_ble_eq_true rfl⟩ | ((try unfold maxLen); (try simp only [List.length_nil, List.length_cons, List.length_append]); omega) | (refine ⟨rfl, ?_⟩; (try simp only [List.length_nil, List.length_cons, List.length_append]); omega)) ?_ | intro _)); (all_goals (conv => whnf))
        all_goals exact loop_next (i + 1, out ++ [(xs.length : Int) + z], _, _, a3, c3) (by dsimp only; exact ⟨by omega, by rw [h2, hnx, List.map_append, List.append_assoc]; rfl⟩) (by ((try dsimp only); omega)) (by (try simp only [List.length_append, List.length_cons, List.length_nil]); (repeat ((conv => whnf); refine And.intro (by first | exact rfl | exact vint_eq (by omega) | exact vsl_eq (by omega)) ?_)); exact trivial) (Thin.ref (.skip (.own rfl rfl (.own (by simp) ints_snoc (.nil _)))))
      · have ho : out = pairsF (xs ++ ys) l := by rw [h2, List.take_of_length_le (by omega), hseam, hB]
        have hol2 : out.length ≤ 1000 := by omega
        have hc2 : ∀ w' a c, In w' [] a (ints .u64 xs ++ ints .u64 ys) → Calls Try.prog fn_levels_Pairs #[.slice a (0 + xs.length + ys.length) c, .int .i64 l] w' (RetS ty_int 1 out.length (ints .i64 out) w') := fun w' a c hz => by
          have := calls_Pairs w' a c (xs ++ ys) l (by rw [show ints .u64 (xs ++ ys) = ints .u64 xs ++ ints .u64 ys from by simp [ints]]; exact hz) (by rw [List.length_append]; omega) (u64s_append hu hv) hl1
          rw [← ho, List.length_append] at this
          rw [Nat.zero_add]; exact this
        (repeat' ((conv => whnf); first | refine ⟨ints .u64 xs, hx.rds (by rw [ints_length, Nat.mul_one]), ?_⟩ | refine ⟨ints .u64 ys, hy.rds (by rw [ints_length, Nat.mul_one]), ?_⟩ | refine CallK_slice 83 (fun w' hR => hc2 w' _ _ (In.ownR (key := 77) hR rfl)) ?_ | refine CallK_pure (.v _) (fun w' hR => calls_IntsT w' _ _ _ _ _ (In.ownR (key := 83) hR rfl) (In.ownR (key := 33) hR rfl) (by omega)) ?_ | (refine bcase_prop (fun h => ?_) (fun h => ?_) <;> try (exfalso; omega)) | (refine bcase_nprop (fun h => ?_) (fun h => ?_) <;> try (exfalso; omega)) | (refine bcase_intro (fun h => ?_) (fun h => ?_) <;> (try simp only [Bool.not_eq_true', Bool.not_eq_false', decide_eq_true_eq, decide_eq_false_iff_not, Bool.not_eq_true, Bool.not_eq_false, Decidable.not_not] at h)) | refine And.intro (by first | omega | exact rfl | assumption | exact ⟨rfl, rfl, rfl, rfl, rfl⟩ | exact ⟨rfl, rfl, rfl, rfl⟩ | exact ⟨rfl, by omega⟩ | exact oneAll_of rfl | exact ⟨rfl, oneAll_of rfl⟩ | exact oneAll_ints xs | exact oneAll_ints ys | exact ⟨rfl, Nat.le_of_ble_eq_true rfl⟩ | ((try unfold maxLen); (try simp only [List.length_nil, List.length_cons, List.length_append]); omega) | (refine ⟨rfl, ?_⟩; (try simp only [List.length_nil, List.length_cons, List.length_append]); omega)) ?_ | intro _)); (all_goals (conv => whnf))
        exact ⟨rfl⟩
end Go.Proofs.Ytkekhgnbdhlmhaa
