/- The laws of ties and of levels that repeat: the Go functions return true. No condition but that what is read was there at the start. -/
import Derived.Test.YtkekhgnbdhlmhaaLaws1
import Derived.Test.YtkekhgnbdhlmhaaMath2
namespace Go.Proofs.Ytkekhgnbdhlmhaa
open Go.EG
attribute [local irreducible] CallK QCall Go.Calls
set_option linter.unusedSimpArgs false
set_option linter.unusedVariables false
set_option maxRecDepth 20000

theorem law_LevelsTies (w : World) (a : Option Addr) (c : Nat) (xs : List Int) (j : Int) (hx : In w [] a (ints .u64 xs)) (hu : U64s xs) (hm : xs.length ≤ 140737488351232) (hj : 0 ≤ j ∧ j ≤ 255) :
    Calls Try.prog fn_evergreenlaw21_LevelsTies #[.slice a xs.length c, .int .u8 j] w fun x w' => x = .returned (.bool true) ∧ Ext w w' := by
  refine pure_call [.v (.slice a xs.length c), .v (.int .u8 j)] w ok_evergreenlaw21_LevelsTies (by simp) ?_
  have hst := str_len xs
  have hlv := tie_level j hj.1
  have hp : pairsF xs (246 * (1 + j)) = ties (stretches xs) := by simp [pairsF, hlv.1, hlv.2]
  have hpl := pairsF_length xs (246 * (1 + j))
  have htl := ties_length (stretches xs)
  rw [hp] at hpl
  (repeat' ((conv => whnf); first | refine CallK_pure (.v _) (fun w' hR => calls_awake w') ?_ | refine CallK_slice 20 (fun w' hR => calls_Stretches w' a c xs (hx.cast hR (by simp)) (by omega)) ?_ | (refine bcase_prop (fun h => ?_) (fun h => ?_) <;> try (exfalso; omega)) | (refine bcase_nprop (fun h => ?_) (fun h => ?_) <;> try (exfalso; omega)) | (refine bcase_intro (fun h => ?_) (fun h => ?_) <;> (try simp only [Bool.not_eq_true', Bool.not_eq_false', decide_eq_true_eq, decide_eq_false_iff_not, Bool.not_eq_true, Bool.not_eq_false, Decidable.not_not] at h)) | refine And.intro (by first | omega | exact rfl | assumption | exact ⟨rfl, rfl, rfl, rfl, rfl⟩ | exact ⟨rfl, rfl, rfl, rfl⟩ | exact ⟨rfl, by omega⟩ | exact oneAll_of rfl | exact ⟨rfl, oneAll_of rfl⟩ | exact ⟨rfl, Nat.le_of_ble_eq_true rfl⟩ | ((try unfold maxLen); (try simp only [List.length_nil, List.length_cons, List.length_append]); omega) | (refine ⟨rfl, ?_⟩; (try simp only [List.length_nil, List.length_cons, List.length_append]); omega)) ?_ | intro _)); (all_goals (conv => whnf))
  · exact ⟨rfl⟩
  · rename_i a1 c1
    refine VC_loop Nat (fun i => [(0, .v (.slice a xs.length c)), (1, .v (.int .u8 j)), (5, .v (.int .i64 (halves ((stretches xs).take i)))), (20, .sl 20 a1 (stretches xs).length c1), (21, .v (.int .i64 (stretches xs).length)), (22, .v (.int .i64 i))])
      (fun i => [.own 20 a1 (stretches xs).length c1 ty_api_Span 2 (prs .i64 (stretches xs))])
      (fun i => i ≤ (stretches xs).length) (fun i => (stretches xs).length - i) 0 (by ((try dsimp only); omega)) (by (repeat ((conv => whnf); refine And.intro (by first | exact rfl | exact vint_eq (by omega) | exact vsl_eq (by omega)) ?_)); exact trivial) (.refl _) ?_
    intro i hi
    by_cases h4 : i < (stretches xs).length
    · have e1 := intOf_prs1 (k := .i64) h4
      have e2 := intOf_prs2 (k := .i64) h4
      have hg := str_get h4
      have hh := halves_take h4
      have hb : halves ((stretches xs).take i) ≤ xs.length := by
        have := ties_take_le (stretches xs) i
        rw [ties_length, ties_length] at this
        omega
      generalize hgg : (stretches xs).getD i (0, 0) = g at *
      (repeat' ((conv => whnf); first | rw [Int.toNat_natCast] | rw [e1] | rw [e2] | (refine bcase_prop (fun h => ?_) (fun h => ?_) <;> try (exfalso; omega)) | (refine bcase_nprop (fun h => ?_) (fun h => ?_) <;> try (exfalso; omega)) | (refine bcase_intro (fun h => ?_) (fun h => ?_) <;> (try simp only [Bool.not_eq_true', Bool.not_eq_false', decide_eq_true_eq, decide_eq_false_iff_not, Bool.not_eq_true, Bool.not_eq_false, Decidable.not_not] at h)) | refine And.intro (by first | omega | exact rfl | assumption | exact ⟨rfl, rfl, rfl, rfl, rfl⟩ | exact ⟨rfl, rfl, rfl, rfl⟩ | exact ⟨rfl, by omega⟩ | exact oneAll_of rfl | exact ⟨rfl, oneAll_of rfl⟩ | exact ⟨isK_prs1 (by omega), isK_prs2 (by omega), trivial⟩ | exact ⟨rfl, Nat.le_of_ble_eq_true rfl⟩ | ((try unfold maxLen); (try simp only [List.length_nil, List.length_cons, List.length_append]); omega) | (refine ⟨rfl, ?_⟩; (try simp only [List.length_nil, List.length_cons, List.length_append]); omega)) ?_ | intro _)); (all_goals (conv => whnf))
      refine loop_next (i + 1) (by ((try dsimp only); omega)) (by ((try dsimp only); omega)) (by rw [hh]; (repeat ((conv => whnf); refine And.intro (by first | exact rfl | exact vint_eq (by omega) | exact vsl_eq (by omega)) ?_)); exact trivial) (Thin.ref (.skip (.own rfl rfl (.nil _))))
    · have hfull : (stretches xs).take i = stretches xs := List.take_of_length_le (by omega)
      rw [hfull]
      (repeat' ((conv => whnf); first | refine CallK_slice 37 (fun w' hR => calls_Pairs w' a c xs _ (hx.cast hR (by simp)) (by omega) hu (by omega)) ?_ | (refine bcase_prop (fun h => ?_) (fun h => ?_) <;> try (exfalso; omega)) | (refine bcase_nprop (fun h => ?_) (fun h => ?_) <;> try (exfalso; omega)) | (refine bcase_intro (fun h => ?_) (fun h => ?_) <;> (try simp only [Bool.not_eq_true', Bool.not_eq_false', decide_eq_true_eq, decide_eq_false_iff_not, Bool.not_eq_true, Bool.not_eq_false, Decidable.not_not] at h)) | refine And.intro (by first | omega | exact rfl | assumption | exact ⟨rfl, rfl, rfl, rfl, rfl⟩ | exact ⟨rfl, rfl, rfl, rfl⟩ | exact ⟨rfl, by omega⟩ | exact oneAll_of rfl | exact ⟨rfl, oneAll_of rfl⟩ | exact ⟨rfl, Nat.le_of_ble_eq_true rfl⟩ | ((try unfold maxLen); (try simp only [List.length_nil, List.length_cons, List.length_append]); omega) | (refine ⟨rfl, ?_⟩; (try simp only [List.length_nil, List.length_cons, List.length_append]); omega)) ?_ | intro _)); (all_goals (conv => whnf))
      rename_i a2 c2
      rw [hp]
      refine VC_loop Nat (fun i => [(0, .v (.slice a xs.length c)), (5, .v (.int .i64 (halves (stretches xs)))), (8, .sl 37 a2 (ties (stretches xs)).length c2), (38, .sl 37 a2 (ties (stretches xs)).length c2), (39, .v (.int .i64 (ties (stretches xs)).length)), (40, .v (.int .i64 i))])
        (fun i => [.own 37 a2 (ties (stretches xs)).length c2 ty_int 1 (ints .i64 (ties (stretches xs)))])
        (fun i => i ≤ (ties (stretches xs)).length) (fun i => (ties (stretches xs)).length - i) 0 (by ((try dsimp only); omega)) (by (repeat ((conv => whnf); refine And.intro (by first | exact rfl | exact vint_eq (by omega) | exact vsl_eq (by omega)) ?_)); exact trivial) (Thin.ref (.own rfl rfl (.nil _))) ?_
      intro k hk
      by_cases h5 : k < (ties (stretches xs)).length
      · have e3 := intOf_ints (k := .i64) h5
        have hgd := ties_good (xs := xs) (p := (ties (stretches xs)).getD k 0) (by simp [h5])
        generalize hpp : (ties (stretches xs)).getD k 0 = p at *
        (repeat' ((conv => whnf); first | rw [Int.toNat_natCast] | rw [e3] | refine ⟨_, rdI hx (by omega), ?_⟩ | (refine bcase_prop (fun h => ?_) (fun h => ?_) <;> try (exfalso; omega)) | (refine bcase_nprop (fun h => ?_) (fun h => ?_) <;> try (exfalso; omega)) | (refine bcase_intro (fun h => ?_) (fun h => ?_) <;> (try simp only [Bool.not_eq_true', Bool.not_eq_false', decide_eq_true_eq, decide_eq_false_iff_not, Bool.not_eq_true, Bool.not_eq_false, Decidable.not_not] at h)) | refine And.intro (by first | omega | exact rfl | assumption | exact ⟨rfl, rfl, rfl, rfl, rfl⟩ | exact ⟨rfl, rfl, rfl, rfl⟩ | exact ⟨rfl, by omega⟩ | exact oneAll_of rfl | exact ⟨rfl, oneAll_of rfl⟩ | exact neI hx (by omega) | exact isK_ints (by omega) | exact ⟨rfl, Nat.le_of_ble_eq_true rfl⟩ | ((try unfold maxLen); (try simp only [List.length_nil, List.length_cons, List.length_append]); omega) | (refine ⟨rfl, ?_⟩; (try simp only [List.length_nil, List.length_cons, List.length_append]); omega)) ?_ | intro _)); (all_goals (conv => whnf))
        exact loop_next (k + 1) (by ((try dsimp only); omega)) (by ((try dsimp only); omega)) (by (repeat ((conv => whnf); refine And.intro (by first | exact rfl | exact vint_eq (by omega) | exact vsl_eq (by omega)) ?_)); exact trivial) (.refl _)
      · (repeat' ((conv => whnf); first | (refine bcase_prop (fun h => ?_) (fun h => ?_) <;> try (exfalso; omega)) | (refine bcase_nprop (fun h => ?_) (fun h => ?_) <;> try (exfalso; omega)) | (refine bcase_intro (fun h => ?_) (fun h => ?_) <;> (try simp only [Bool.not_eq_true', Bool.not_eq_false', decide_eq_true_eq, decide_eq_false_iff_not, Bool.not_eq_true, Bool.not_eq_false, Decidable.not_not] at h)) | refine And.intro (by first | omega | exact rfl | assumption | exact ⟨rfl, rfl, rfl, rfl, rfl⟩ | exact ⟨rfl, rfl, rfl, rfl⟩ | exact ⟨rfl, by omega⟩ | exact oneAll_of rfl | exact ⟨rfl, oneAll_of rfl⟩ | exact ⟨rfl, Nat.le_of_ble_eq_true rfl⟩ | ((try unfold maxLen); (try simp only [List.length_nil, List.length_cons, List.length_append]); omega) | (refine ⟨rfl, ?_⟩; (try simp only [List.length_nil, List.length_cons, List.length_append]); omega)) ?_ | intro _)); (all_goals (conv => whnf))
        exact ⟨by rw [decide_eq_true]; rw [htl]⟩

theorem calls_IntsT (w : World) (a b : Option Addr) (c d : Nat) (xs : List Int) (hx : In w [] a (ints .i64 xs)) (hy : In w [] b (ints .i64 xs)) (hl : xs.length < 9223372036854775807) :
    Calls Try.prog fn_evergreenbase_Ints #[.slice a xs.length c, .slice b xs.length d] w fun x w' => x = .returned (.bool true) ∧ Ext w w' := by
  have := calls_Ints w a b c d xs xs hx hy hl
  rwa [decide_eq_true rfl] at this
theorem oneAll_ints {k : IntKind} : ∀ (xs : List Int), oneAll (ints k xs)
  | [] => trivial
  | _ :: xs => ⟨trivial, oneAll_ints xs⟩
theorem splice_ints {k : IntKind} {z : Int} : ∀ {zs : List Int} {i : Nat}, i < zs.length → splice (ints k zs) i [.int k z] = ints k (zs.set i z)
  | x :: zs, 0, _ => by simp [ints, splice]
  | x :: zs, i + 1, h => by
    have := splice_ints (k := k) (z := z) (zs := zs) (i := i) (by simpa using h)
    simp only [ints, splice, List.map_cons, List.length_cons, List.length_nil, List.set_cons_succ, List.take_succ_cons, List.cons_append] at this ⊢
    rw [show i + 1 + (0 + 1) = (i + (0 + 1)) + 1 from by omega, List.drop_succ_cons, ← this]
theorem getD_set {zs : List Int} {i j : Nat} {z : Int} (h : i < zs.length) : (zs.set i z).getD j 0 = if j = i then z else zs.getD j 0 := by
  simp only [List.getD_eq_getElem?_getD, List.getElem?_set]
  by_cases hij : i = j
  · subst hij; simp [h]
  · simp [hij, Ne.symm hij]

/-- Bits 0 to 60 are the same. -/
def SameLow (ys xs : List Int) : Prop := ys.length = xs.length ∧ U64s ys ∧ ∀ j b, 0 ≤ b → b ≤ 60 → bitI (ys.getD j 0) b = bitI (xs.getD j 0) b
theorem SameLow.set {ys xs : List Int} (h : SameLow ys xs) {i : Nat} (hi : i < xs.length) {v : Int} (hv : 0 ≤ v) :
    SameLow (ys.set i (((ys.getD i 0).toNat ^^^ (v * ((2 ^ (61 : Int).toNat : Nat) : Int) % 18446744073709551616).toNat : Nat) : Int)) xs := by
  have hy := h.2.1 i
  refine ⟨by rw [List.length_set]; exact h.1, fun j => ?_, fun j b hb0 hb1 => ?_⟩
  · rw [getD_set (by rw [h.1]; exact hi)]
    split
    · exact xor_u64 hy (by omega)
    · exact h.2.1 j
  · rw [getD_set (by rw [h.1]; exact hi)]
    split
    · rename_i hji
      subst hji
      rw [bitI_xor hy.1 hv hb0 hb1]
      exact h.2.2 j b hb0 hb1
    · exact h.2.2 j b hb0 hb1
theorem SameLow.pairs {ys xs : List Int} (h : SameLow ys xs) {l : Int} (ht : tieF l = false) : pairsF ys l = pairsF xs l := by
  have hr := numF_range l
  cases he : evenF l with
  | false => simp [pairsF, he]
  | true =>
    have hn : ¬ numF l = 122 := by unfold tieF at ht; simpa [he] using ht
    unfold pairsF
    simp only [he, hn, if_true, if_false, h.1]
    refine pick_congr fun j _ => ?_
    rw [fits_eq he hn, fits_eq he hn, h.2.2 j _ (by omega) (by omega), h.2.2 (j + 1) _ (by omega) (by omega)]

theorem law_LevelsAgain (w : World) (a : Option Addr) (c : Nat) (xs : List Int) (l hi : Int) (hx : In w [] a (ints .u64 xs)) (hu : U64s xs) (hm : xs.length ≤ 140737488351232) (hl : 0 ≤ l ∧ l ≤ 65535) (hh : 0 ≤ hi ∧ hi ≤ 255) :
    Calls Try.prog fn_evergreenlaw21_LevelsAgain #[.slice a xs.length c, .int .u16 l, .int .u8 hi] w fun x w' => x = .returned (.bool true) ∧ Ext w w' := by
  refine pure_call [.v (.slice a xs.length c), .v (.int .u16 l), .v (.int .u8 hi)] w ok_evergreenlaw21_LevelsAgain (by simp) ?_
  have hpl := pairsF_length xs l
  by_cases hlen : xs.length ≤ 400
  · have c1 : 0 < l → ∀ w', In w' [] a (ints .u64 xs) → Calls Try.prog fn_levels_Pairs #[.slice a xs.length c, .int .i64 (l + 246)] w' (RetS ty_int 1 (pairsF xs l).length (ints .i64 (pairsF xs l)) w') := fun h0 w' hx => by
      have := calls_Pairs w' a c xs (l + 246) hx (by omega) hu (by omega)
      rw [pairs_again (xs := xs) h0] at this; exact this
    (repeat' ((conv => whnf); first | refine CallK_pure (.v _) (fun w' hR => calls_awake w') ?_ | refine CallK_slice 24 (fun w' hR => calls_Pairs w' a c xs l (hx.cast hR (by simp)) (by omega) hu (by omega)) ?_ | refine CallK_slice 33 (fun w' hR => c1 (by omega) w' (hx.cast hR (by simp))) ?_ | refine CallK_pure (.v _) (fun w' hR => calls_IntsT w' _ _ _ _ _ (In.ownR (key := 24) hR rfl) (In.ownR (key := 33) hR rfl) (by omega)) ?_ | refine CallK_pure (.v _) (fun w' hR => calls_Number l w' (by omega)) ?_ | refine ⟨ints .u64 xs, hx.rds (by rw [ints_length, Nat.mul_one]), ?_⟩ | (refine bcase_prop (fun h => ?_) (fun h => ?_) <;> try (exfalso; omega)) | (refine bcase_nprop (fun h => ?_) (fun h => ?_) <;> try (exfalso; omega)) | (refine bcase_intro (fun h => ?_) (fun h => ?_) <;> (try simp only [Bool.not_eq_true', Bool.not_eq_false', decide_eq_true_eq, decide_eq_false_iff_not, Bool.not_eq_true, Bool.not_eq_false, Decidable.not_not] at h)) | refine And.intro (by first | omega | exact rfl | assumption | exact ⟨rfl, rfl, rfl, rfl, rfl⟩ | exact ⟨rfl, rfl, rfl, rfl⟩ | exact ⟨rfl, by omega⟩ | exact oneAll_of rfl | exact ⟨rfl, oneAll_of rfl⟩ | exact oneAll_ints xs | exact ⟨rfl, Nat.le_of_ble_eq_true rfl⟩ | ((try unfold maxLen); (try simp only [List.length_nil, List.length_cons, List.length_append]); omega) | (refine ⟨rfl, ?_⟩; (try simp only [List.length_nil, List.length_cons, List.length_append]); omega)) ?_ | intro _)); (all_goals (conv => whnf))
    all_goals
      refine VC_loop (Nat × List Int × Option Addr × Nat × Option Addr × Nat) (fun (i, ys, a1, c1, a4, c4) => [(1, .v (.int .u16 l)), (2, .v (.int .u8 hi)), (7, .sl 24 a1 (pairsF xs l).length c1), (10, .v (.bool (tieF l))), (11, .sl 44 a4 xs.length c4), (48, .v (.int .i64 xs.length)), (49, .v (.int .i64 i))])
        (fun (i, ys, a1, c1, a4, c4) => [.own 44 a4 xs.length c4 ty_uint64 1 (ints .u64 ys), .own 24 a1 (pairsF xs l).length c1 ty_int 1 (ints .i64 (pairsF xs l))])
        (fun (i, ys, a1, c1, a4, c4) => i ≤ xs.length ∧ SameLow ys xs) (fun (i, ys, a1, c1, a4, c4) => xs.length - i) (0, xs, _, _, _, _) ⟨by ((try dsimp only); omega), rfl, hu, fun _ _ _ _ => rfl⟩ (by dsimp only; (repeat ((conv => whnf); refine And.intro (by first | exact rfl | exact vint_eq (by omega) | exact vsl_eq (by omega)) ?_)); exact trivial)
        (by first | exact Thin.ref (.own (by omega) rfl (.own rfl rfl (.nil _))) | exact Thin.ref (.own (by omega) rfl (.skip (.own rfl rfl (.nil _))))) ?_
      rintro ⟨i, ys, a1, c1', a4, c4⟩ ⟨h1, h2⟩
      dsimp only at h1 h2 ⊢
      by_cases h3 : i < xs.length
      · have e1 := intOf_ints (k := .u64) (zs := ys) (i := i) (by rw [h2.1]; exact h3)
        have hy := h2.2.1 i
        have hq : ∀ v : Int, 0 ≤ v * ((2 ^ (61 : Int).toNat : Nat) : Int) % 18446744073709551616 ∧ v * ((2 ^ (61 : Int).toNat : Nat) : Int) % 18446744073709551616 ≤ 18446744073709551615 := fun v => by omega
        (repeat' ((conv => whnf); first | rw [Int.toNat_natCast] | rw [e1] | (refine bcase_prop (fun h => ?_) (fun h => ?_) <;> try (exfalso; omega)) | (refine bcase_nprop (fun h => ?_) (fun h => ?_) <;> try (exfalso; omega)) | (refine bcase_intro (fun h => ?_) (fun h => ?_) <;> (try simp only [Bool.not_eq_true', Bool.not_eq_false', decide_eq_true_eq, decide_eq_false_iff_not, Bool.not_eq_true, Bool.not_eq_false, Decidable.not_not] at h)) | refine And.intro (by first | omega | exact rfl | assumption | exact ⟨rfl, rfl, rfl, rfl, rfl⟩ | exact ⟨rfl, rfl, rfl, rfl⟩ | exact ⟨rfl, by omega⟩ | exact oneAll_of rfl | exact ⟨rfl, oneAll_of rfl⟩ | exact isK_ints (by rw [h2.1]; exact h3) | exact ⟨by decide, by show _ ≤ (64 : Int); decide⟩ | exact ⟨hy.1, hy.2, (hq _).1, (hq _).2⟩ | (refine ⟨rfl, ?_⟩; rw [ints_length, h2.1]; omega) | exact ⟨rfl, Nat.le_of_ble_eq_true rfl⟩ | ((try unfold maxLen); (try simp only [List.length_nil, List.length_cons, List.length_append]); omega) | (refine ⟨rfl, ?_⟩; (try simp only [List.length_nil, List.length_cons, List.length_append]); omega)) ?_ | intro _)); (all_goals (conv => whnf))
        exact loop_next (i + 1, ys.set i _, a1, c1', a4, c4) (by dsimp only; exact ⟨by omega, h2.set h3 (by omega)⟩) (by ((try dsimp only); omega)) (by (repeat ((conv => whnf); refine And.intro (by first | exact rfl | exact vint_eq (by omega) | exact vsl_eq (by omega)) ?_)); exact trivial) (Thin.ref (.own rfl (splice_ints (by rw [h2.1]; exact h3)) (.own rfl rfl (.nil _))))
      · cases ht : tieF l with
        | true =>
          (repeat' ((conv => whnf); first | (refine bcase_prop (fun h => ?_) (fun h => ?_) <;> try (exfalso; omega)) | (refine bcase_nprop (fun h => ?_) (fun h => ?_) <;> try (exfalso; omega)) | (refine bcase_intro (fun h => ?_) (fun h => ?_) <;> (try simp only [Bool.not_eq_true', Bool.not_eq_false', decide_eq_true_eq, decide_eq_false_iff_not, Bool.not_eq_true, Bool.not_eq_false, Decidable.not_not] at h)) | refine And.intro (by first | omega | exact rfl | assumption | exact ⟨rfl, rfl, rfl, rfl, rfl⟩ | exact ⟨rfl, rfl, rfl, rfl⟩ | exact ⟨rfl, by omega⟩ | exact oneAll_of rfl | exact ⟨rfl, oneAll_of rfl⟩ | exact ⟨rfl, Nat.le_of_ble_eq_true rfl⟩ | ((try unfold maxLen); (try simp only [List.length_nil, List.length_cons, List.length_append]); omega) | (refine ⟨rfl, ?_⟩; (try simp only [List.length_nil, List.length_cons, List.length_append]); omega)) ?_ | intro _)); (all_goals (conv => whnf))
          exact ⟨rfl⟩
        | false =>
          have hpe := h2.pairs ht
          have c2 : ∀ w' a c, In w' [] a (ints .u64 ys) → Calls Try.prog fn_levels_Pairs #[.slice a xs.length c, .int .i64 l] w' (RetS ty_int 1 (pairsF xs l).length (ints .i64 (pairsF xs l)) w') := fun w' a c hx => by
            have := calls_Pairs w' a c ys l hx (by rw [h2.1]; omega) h2.2.1 (by omega)
            rw [hpe, h2.1] at this; exact this
          (repeat' ((conv => whnf); first | refine CallK_slice 71 (fun w' hR => c2 w' _ _ (In.ownR (key := 44) hR rfl)) ?_ | refine CallK_pure (.v _) (fun w' hR => calls_IntsT w' _ _ _ _ _ (In.ownR (key := 24) hR rfl) (In.ownR (key := 71) hR rfl) (by omega)) ?_ | (refine bcase_prop (fun h => ?_) (fun h => ?_) <;> try (exfalso; omega)) | (refine bcase_nprop (fun h => ?_) (fun h => ?_) <;> try (exfalso; omega)) | (refine bcase_intro (fun h => ?_) (fun h => ?_) <;> (try simp only [Bool.not_eq_true', Bool.not_eq_false', decide_eq_true_eq, decide_eq_false_iff_not, Bool.not_eq_true, Bool.not_eq_false, Decidable.not_not] at h)) | refine And.intro (by first | omega | exact rfl | assumption | exact ⟨rfl, rfl, rfl, rfl, rfl⟩ | exact ⟨rfl, rfl, rfl, rfl⟩ | exact ⟨rfl, by omega⟩ | exact oneAll_of rfl | exact ⟨rfl, oneAll_of rfl⟩ | exact ⟨rfl, Nat.le_of_ble_eq_true rfl⟩ | ((try unfold maxLen); (try simp only [List.length_nil, List.length_cons, List.length_append]); omega) | (refine ⟨rfl, ?_⟩; (try simp only [List.length_nil, List.length_cons, List.length_append]); omega)) ?_ | intro _)); (all_goals (conv => whnf))
          exact ⟨rfl⟩
  · (repeat' ((conv => whnf); first | refine CallK_pure (.v _) (fun w' hR => calls_awake w') ?_ | (refine bcase_prop (fun h => ?_) (fun h => ?_) <;> try (exfalso; omega)) | (refine bcase_nprop (fun h => ?_) (fun h => ?_) <;> try (exfalso; omega)) | (refine bcase_intro (fun h => ?_) (fun h => ?_) <;> (try simp only [Bool.not_eq_true', Bool.not_eq_false', decide_eq_true_eq, decide_eq_false_iff_not, Bool.not_eq_true, Bool.not_eq_false, Decidable.not_not] at h)) | refine And.intro (by first | omega | exact rfl | assumption | exact ⟨rfl, rfl, rfl, rfl, rfl⟩ | exact ⟨rfl, rfl, rfl, rfl⟩ | exact ⟨rfl, by omega⟩ | exact oneAll_of rfl | exact ⟨rfl, oneAll_of rfl⟩ | exact ⟨rfl, Nat.le_of_ble_eq_true rfl⟩ | ((try unfold maxLen); (try simp only [List.length_nil, List.length_cons, List.length_append]); omega) | (refine ⟨rfl, ?_⟩; (try simp only [List.length_nil, List.length_cons, List.length_append]); omega)) ?_ | intro _)); (all_goals (conv => whnf))
    exact ⟨rfl⟩
end Go.Proofs.Ytkekhgnbdhlmhaa
