/- The four laws: the Go functions return true. Condition: the table's variable holds it. -/
import Derived.Test.YtkekhgnbdhlmhaaDoorDWalks
namespace Go.Proofs.YtkekhgnbdhlmhaaDoor
open Go.EG
attribute [local irreducible] CallK QCall Go.Calls
set_option linter.unusedSimpArgs false
set_option linter.unusedVariables false
set_option maxRecDepth 20000

theorem law_KeysFits (w : World) (hG : Tab w) (x y l : Int) (hx : 0 ≤ x ∧ x ≤ 18446744073709551615) (hy : 0 ≤ y ∧ y ≤ 18446744073709551615) (hl : l ≤ 9223372036854775807) :
    Calls Tryd.prog fn_evergreenlaw20_KeysFits #[.int .u64 x, .int .u64 y, .int .i64 l] w fun e w' => e = .returned (.bool true) ∧ Ext w w' := by
  refine pure_call [.v (.int .u64 x), .v (.int .u64 y), .v (.int .i64 l)] w ok_evergreenlaw20_KeysFits (by simp) ?_
  (repeat' ((conv => whnf); first | refine CallK_pure (.v _) (fun w hR => calls_awake w (hG.cast hR (by simp))) ?_ | refine CallK_pure (.v _) (fun w hR => calls_Fits x y l w hx hy hl) ?_ | refine CallK_pure (.v _) (fun w hR => calls_rFits x y l w hx hy hl) ?_ | (refine bcase_prop (fun h => ?_) (fun h => ?_) <;> try (exfalso; omega)) | (refine bcase_nprop (fun h => ?_) (fun h => ?_) <;> try (exfalso; omega)) | (refine bcase_intro (fun h => ?_) (fun h => ?_) <;> (try simp only [Bool.not_eq_true', Bool.not_eq_false', decide_eq_true_eq, decide_eq_false_iff_not, Bool.not_eq_true, Bool.not_eq_false, Decidable.not_not] at h)) | refine And.intro (by first | omega | exact rfl | assumption | exact ⟨rfl, rfl, rfl, rfl, rfl⟩ | exact ⟨rfl, rfl, rfl, rfl⟩ | exact ⟨rfl, by omega⟩ | exact oneAll_of rfl | exact ⟨rfl, oneAll_of rfl⟩ | exact ⟨rfl, Nat.le_of_ble_eq_true rfl⟩ | ((try unfold maxLen); (try simp only [List.length_nil, List.length_cons, List.length_append]); omega) | (refine ⟨rfl, ?_⟩; (try simp only [List.length_nil, List.length_cons, List.length_append]); omega)) ?_ | intro _)); (all_goals (conv => whnf))
  exact ⟨by simp⟩

theorem law_KeysNumbers (w : World) (hG : Tab w) (l : Int) (hl : l ≤ 9223372036854775807) :
    Calls Tryd.prog fn_evergreenlaw20_KeysNumbers #[.int .i64 l] w fun e w' => e = .returned (.bool true) ∧ Ext w w' := by
  refine pure_call [.v (.int .i64 l)] w ok_evergreenlaw20_KeysNumbers (by simp) ?_
  have hr := numF_range l
  cases he : evenF l with
  | true =>
    have hb : 0 ≤ bitN l := by unfold bitN; rw [if_pos he]; split <;> omega
    have hc : ∀ w, Calls Tryd.prog fn_evergreenref20_Number #[.int .i64 l] w fun x w' => x = .returned (.tuple #[.int .i64 (bitN l), .int .u64 (firstN l), .bool (tieF l)]) ∧ Ext w w' := fun w => by
      have := calls_rNumber l w hl
      rw [he] at this; exact this
    (repeat' ((conv => whnf); first | refine CallK_pure (.v _) (fun w hR => calls_awake w (hG.cast hR (by simp))) ?_ | refine CallK_pure (.v _) (fun w hR => calls_Number l w hl) ?_ | refine CallK_pure (.v _) (fun w hR => hc w) ?_ | (refine bcase_prop (fun h => ?_) (fun h => ?_) <;> try (exfalso; omega)) | (refine bcase_nprop (fun h => ?_) (fun h => ?_) <;> try (exfalso; omega)) | (refine bcase_intro (fun h => ?_) (fun h => ?_) <;> (try simp only [Bool.not_eq_true', Bool.not_eq_false', decide_eq_true_eq, decide_eq_false_iff_not, Bool.not_eq_true, Bool.not_eq_false, Decidable.not_not] at h)) | refine And.intro (by first | omega | exact rfl | assumption | exact ⟨rfl, rfl, rfl, rfl, rfl⟩ | exact ⟨rfl, rfl, rfl, rfl⟩ | exact ⟨rfl, by omega⟩ | exact oneAll_of rfl | exact ⟨rfl, oneAll_of rfl⟩ | exact ⟨rfl, Nat.le_of_ble_eq_true rfl⟩ | ((try unfold maxLen); (try simp only [List.length_nil, List.length_cons, List.length_append]); omega) | (refine ⟨rfl, ?_⟩; (try simp only [List.length_nil, List.length_cons, List.length_append]); omega)) ?_ | intro _)); (all_goals (conv => whnf))
    exact ⟨by simp⟩
  | false =>
    have hb : bitN l = 0 := by unfold bitN; rw [if_neg (by rw [he]; simp)]
    have hc : ∀ w, Calls Tryd.prog fn_evergreenref20_Number #[.int .i64 l] w fun x w' => x = .returned (.tuple #[.int .i64 (-1), .int .u64 (firstN l), .bool (tieF l)]) ∧ Ext w w' := fun w => by
      have := calls_rNumber l w hl
      rw [he] at this; exact this
    (repeat' ((conv => whnf); first | refine CallK_pure (.v _) (fun w hR => calls_awake w (hG.cast hR (by simp))) ?_ | refine CallK_pure (.v _) (fun w hR => calls_Number l w hl) ?_ | refine CallK_pure (.v _) (fun w hR => hc w) ?_ | (refine bcase_prop (fun h => ?_) (fun h => ?_) <;> try (exfalso; omega)) | (refine bcase_nprop (fun h => ?_) (fun h => ?_) <;> try (exfalso; omega)) | (refine bcase_intro (fun h => ?_) (fun h => ?_) <;> (try simp only [Bool.not_eq_true', Bool.not_eq_false', decide_eq_true_eq, decide_eq_false_iff_not, Bool.not_eq_true, Bool.not_eq_false, Decidable.not_not] at h)) | refine And.intro (by first | omega | exact rfl | assumption | exact ⟨rfl, rfl, rfl, rfl, rfl⟩ | exact ⟨rfl, rfl, rfl, rfl⟩ | exact ⟨rfl, by omega⟩ | exact oneAll_of rfl | exact ⟨rfl, oneAll_of rfl⟩ | exact ⟨rfl, Nat.le_of_ble_eq_true rfl⟩ | ((try unfold maxLen); (try simp only [List.length_nil, List.length_cons, List.length_append]); omega) | (refine ⟨rfl, ?_⟩; (try simp only [List.length_nil, List.length_cons, List.length_append]); omega)) ?_ | intro _)); (all_goals (conv => whnf))
    exact ⟨by simp⟩

theorem law_KeysAfter (w : World) (hG : Tab w) (low x y : Int) (hx : 0 ≤ x ∧ x ≤ 18446744073709551615) (hy : 0 ≤ y ∧ y ≤ 18446744073709551615) :
    Calls Tryd.prog fn_evergreenlaw20_KeysAfter #[.int .i64 low, .int .u64 x, .int .u64 y] w fun e w' => e = .returned (.bool true) ∧ Ext w w' := by
  refine pure_call [.v (.int .i64 low), .v (.int .u64 x), .v (.int .u64 y)] w ok_evergreenlaw20_KeysAfter (by simp) ?_
  obtain ⟨x, rfl⟩ := Int.eq_ofNat_of_zero_le hx.1
  obtain ⟨y, rfl⟩ := Int.eq_ofNat_of_zero_le hy.1
  by_cases hl : low > 1048576
  · have hc : ∀ w, Tab w → Calls Tryd.prog fn_keys_After #[.int .i64 low, .int .u64 x, .int .u64 y] w fun e w' => e = .returned (.int .i64 0) ∧ Ext w w' := fun w hG => by
      have := calls_After low x y (by omega) (by omega) w hG
      rw [if_pos hl] at this; exact this
    (repeat' ((conv => whnf); first | refine CallK_pure (.v _) (fun w hR => calls_awake w (hG.cast hR (by simp))) ?_ | refine CallK_pure (.v _) (fun w hR => hc w (hG.cast hR (by simp))) ?_ | (refine bcase_prop (fun h => ?_) (fun h => ?_) <;> try (exfalso; omega)) | (refine bcase_nprop (fun h => ?_) (fun h => ?_) <;> try (exfalso; omega)) | (refine bcase_intro (fun h => ?_) (fun h => ?_) <;> (try simp only [Bool.not_eq_true', Bool.not_eq_false', decide_eq_true_eq, decide_eq_false_iff_not, Bool.not_eq_true, Bool.not_eq_false, Decidable.not_not] at h)) | refine And.intro (by first | omega | exact rfl | assumption | exact ⟨rfl, rfl, rfl, rfl, rfl⟩ | exact ⟨rfl, rfl, rfl, rfl⟩ | exact ⟨rfl, by omega⟩ | exact oneAll_of rfl | exact ⟨rfl, oneAll_of rfl⟩ | exact ⟨rfl, Nat.le_of_ble_eq_true rfl⟩ | ((try unfold maxLen); (try simp only [List.length_nil, List.length_cons, List.length_append]); omega) | (refine ⟨rfl, ?_⟩; (try simp only [List.length_nil, List.length_cons, List.length_append]); omega)) ?_ | intro _)); (all_goals (conv => whnf))
    exact ⟨by simp⟩
  · have hc : ∀ w, Tab w → Calls Tryd.prog fn_keys_After #[.int .i64 low, .int .u64 x, .int .u64 y] w fun e w' => e = .returned (.int .i64 (afterF (max low 0) x y)) ∧ Ext w w' := fun w hG => by
      have := calls_After low x y (by omega) (by omega) w hG
      rw [if_neg hl] at this; exact this
    (repeat' ((conv => whnf); first | refine CallK_pure (.v _) (fun w hR => calls_awake w (hG.cast hR (by simp))) ?_ | refine CallK_pure (.v _) (fun w hR => hc w (hG.cast hR (by simp))) ?_ | refine CallK_pure (.v _) (fun w hR => calls_rAfter (max low 0) x y (by omega) (by omega) (by omega) (by omega) w) ?_ | (refine bcase_prop (fun h => ?_) (fun h => ?_) <;> try (exfalso; omega)) | (refine bcase_nprop (fun h => ?_) (fun h => ?_) <;> try (exfalso; omega)) | (refine bcase_intro (fun h => ?_) (fun h => ?_) <;> (try simp only [Bool.not_eq_true', Bool.not_eq_false', decide_eq_true_eq, decide_eq_false_iff_not, Bool.not_eq_true, Bool.not_eq_false, Decidable.not_not] at h)) | refine And.intro (by first | omega | exact rfl | assumption | exact ⟨rfl, rfl, rfl, rfl, rfl⟩ | exact ⟨rfl, rfl, rfl, rfl⟩ | exact ⟨rfl, by omega⟩ | exact oneAll_of rfl | exact ⟨rfl, oneAll_of rfl⟩ | exact ⟨rfl, Nat.le_of_ble_eq_true rfl⟩ | ((try unfold maxLen); (try simp only [List.length_nil, List.length_cons, List.length_append]); omega) | (refine ⟨rfl, ?_⟩; (try simp only [List.length_nil, List.length_cons, List.length_append]); omega)) ?_ | intro _)); (all_goals (conv => whnf))
    exact ⟨by simp⟩

/-- Keys below 2^61 fit some level within reach. -/
theorem after_found {low : Int} {x y : Nat} (h0 : 0 ≤ low) (hx : x < 2 ^ 61) (hy : y < 2 ^ 61) : afterF low x y ≠ 0 := by
  obtain ⟨low, rfl⟩ := Int.eq_ofNat_of_zero_le h0
  intro hz
  have hn := (after_ok low x y).zero hz
  have lev : ∀ c : Int, 0 ≤ c → c ≤ 122 → ∃ l : Int, (low : Int) < l ∧ l ≤ low + 246 ∧ evenF l = true ∧ numF l = c := fun c h1 h2 => by
    refine ⟨2 * ((low / 2 + 1 : Nat) + (c - ((low / 2 : Nat) % 123 : Nat)) % 123), by omega, by omega, even_t (by omega) (by omega), ?_⟩
    unfold numF; omega
  have nf : ∀ c : Int, 0 ≤ c → c ≤ 122 → fitC x y c = false := fun c h1 h2 => by
    obtain ⟨l, l1, l2, l3, l4⟩ := lev c h1 h2
    rw [← l4, ← fits_num l3]
    exact hn l l1 l2
  by_cases hxy : x = y
  · have := nf 122 (by omega) (by omega)
    simp [fitC, hxy] at this
  · apply hxy
    apply Nat.eq_of_testBit_eq
    intro b
    by_cases hb : b ≤ 60
    · cases h1 : x.testBit b <;> cases h2 : y.testBit b <;> try rfl
      · have := nf ((2 * b + 0 : Nat) : Int) (by omega) (by omega)
        rw [(fitC_bit (x := x) (y := y) hb (by omega)).2 ⟨by simp [h1], by simp [h2]⟩] at this
        cases this
      · have := nf ((2 * b + 1 : Nat) : Int) (by omega) (by omega)
        rw [(fitC_bit (x := x) (y := y) hb (by omega)).2 ⟨by simp [h1], by simp [h2]⟩] at this
        cases this
    · rw [Nat.testBit_lt_two_pow (Nat.lt_of_lt_of_le hx (Nat.pow_le_pow_right (by decide) (by omega))), Nat.testBit_lt_two_pow (Nat.lt_of_lt_of_le hy (Nat.pow_le_pow_right (by decide) (by omega)))]

theorem fits_swap {x y l : Int} (h : ¬ x = y) (hf : fitsF x y l = true) : fitsF y x l = false := by
  have he : evenF l = true := by
    cases he : evenF l with
    | true => rfl
    | false => simp [fitsF, he] at hf
  unfold fitsF at hf ⊢
  rw [he] at hf ⊢
  by_cases ht : numF l = 122
  · simp [ht, h] at hf
  · simp only [ht, if_false, Bool.true_and, Bool.and_eq_true, decide_eq_true_eq] at hf
    simp only [ht, if_false, Bool.true_and]
    have : numF l % 2 = 0 ∨ numF l % 2 = 1 := by omega
    simp; omega

theorem law_KeysLeast (w : World) (hG : Tab w) (low x y : Int) (hl : 0 ≤ low ∧ low ≤ 65535) (hx : 0 ≤ x ∧ x ≤ 18446744073709551615) (hy : 0 ≤ y ∧ y ≤ 18446744073709551615) :
    Calls Tryd.prog fn_evergreenlaw20_KeysLeast #[.int .u16 low, .int .u64 x, .int .u64 y] w fun e w' => e = .returned (.bool true) ∧ Ext w w' := by
  refine pure_call [.v (.int .u16 low), .v (.int .u64 x), .v (.int .u64 y)] w ok_evergreenlaw20_KeysLeast (by simp) ?_
  obtain ⟨x0, rfl⟩ := Int.eq_ofNat_of_zero_le hx.1
  obtain ⟨y0, rfl⟩ := Int.eq_ofNat_of_zero_le hy.1
  have m61 : (2305843009213693951 : Int).toNat = 2305843009213693951 := rfl
  have hx2 : x0 &&& 2305843009213693951 < 2 ^ 61 := Nat.and_lt_two_pow _ (by decide)
  have hy2 : y0 &&& 2305843009213693951 < 2 ^ 61 := Nat.and_lt_two_pow _ (by decide)
  generalize hxx : x0 &&& 2305843009213693951 = x at *
  generalize hyy : y0 &&& 2305843009213693951 = y at *
  have hne := after_found hl.1 hx2 hy2
  have hok : Aft low x y (afterF low x y) := by
    obtain ⟨n, rfl⟩ := Int.eq_ofNat_of_zero_le hl.1
    exact after_ok n x y
  obtain ⟨a1, a2, a3, a4⟩ := hok.some hne
  have hc : ∀ w, Tab w → Calls Tryd.prog fn_keys_After #[.int .i64 low, .int .u64 x, .int .u64 y] w fun e w' => e = .returned (.int .i64 (afterF low x y)) ∧ Ext w w' := fun w hG => by
    have := calls_After low x y (by omega) (by omega) w hG
    rw [if_neg (by omega), show max low 0 = low from by omega] at this; exact this
  generalize afterF low x y = l at *
  have hf1 : ∀ w, Calls Tryd.prog fn_keys_Fits #[.int .u64 x, .int .u64 y, .int .i64 l] w fun e w' => e = .returned (.bool true) ∧ Ext w w' := fun w => by
    have := calls_Fits x y l w (by omega) (by omega) (by omega)
    rw [a3] at this; exact this
  (repeat' ((conv => whnf); first | rw [Int.toNat_natCast] | rw [m61] | rw [hxx] | rw [hyy] | refine CallK_pure (.v _) (fun w hR => calls_awake w (hG.cast hR (by simp))) ?_ | refine CallK_pure (.v _) (fun w hR => hc w (hG.cast hR (by simp))) ?_ | refine CallK_pure (.v _) (fun w hR => hf1 w) ?_ | (refine bcase_prop (fun h => ?_) (fun h => ?_) <;> try (exfalso; omega)) | (refine bcase_nprop (fun h => ?_) (fun h => ?_) <;> try (exfalso; omega)) | (refine bcase_intro (fun h => ?_) (fun h => ?_) <;> (try simp only [Bool.not_eq_true', Bool.not_eq_false', decide_eq_true_eq, decide_eq_false_iff_not, Bool.not_eq_true, Bool.not_eq_false, Decidable.not_not] at h)) | refine And.intro (by first | omega | exact rfl | assumption | exact ⟨rfl, rfl, rfl, rfl, rfl⟩ | exact ⟨rfl, rfl, rfl, rfl⟩ | exact ⟨rfl, by omega⟩ | exact oneAll_of rfl | exact ⟨rfl, oneAll_of rfl⟩ | exact ⟨rfl, Nat.le_of_ble_eq_true rfl⟩ | ((try unfold maxLen); (try simp only [List.length_nil, List.length_cons, List.length_append]); omega) | (refine ⟨rfl, ?_⟩; (try simp only [List.length_nil, List.length_cons, List.length_append]); omega)) ?_ | intro _)); (all_goals (conv => whnf))
  refine VC_loop Nat (fun i => [(1, .v (.int .u64 x)), (2, .v (.int .u64 y)), (7, .v (.int .i64 l)), (8, .v (.int .i64 (low + 1 + i)))]) (fun _ => []) (fun i => low + 1 + i ≤ l) (fun i => (l - low - 1).toNat - i) 0 (by ((try dsimp only); omega)) (by (repeat ((conv => whnf); refine And.intro (by first | exact rfl | exact vint_eq (by omega) | exact vsl_eq (by omega)) ?_)); exact trivial) (.refl _) ?_
  intro i hi
  by_cases h1 : low + 1 + (i : Int) < l
  · have hf2 : ∀ w, Calls Tryd.prog fn_keys_Fits #[.int .u64 x, .int .u64 y, .int .i64 (low + 1 + i)] w fun e w' => e = .returned (.bool false) ∧ Ext w w' := fun w => by
      have := calls_Fits x y (low + 1 + i) w (by omega) (by omega) (by omega)
      rw [a4 _ (by omega) h1] at this; exact this
    (repeat' ((conv => whnf); first | refine CallK_pure (.v _) (fun w hR => hf2 w) ?_ | (refine bcase_prop (fun h => ?_) (fun h => ?_) <;> try (exfalso; omega)) | (refine bcase_nprop (fun h => ?_) (fun h => ?_) <;> try (exfalso; omega)) | (refine bcase_intro (fun h => ?_) (fun h => ?_) <;> (try simp only [Bool.not_eq_true', Bool.not_eq_false', decide_eq_true_eq, decide_eq_false_iff_not, Bool.not_eq_true, Bool.not_eq_false, Decidable.not_not] at h)) | refine And.intro (by first | omega | exact rfl | assumption | exact ⟨rfl, rfl, rfl, rfl, rfl⟩ | exact ⟨rfl, rfl, rfl, rfl⟩ | exact ⟨rfl, by omega⟩ | exact oneAll_of rfl | exact ⟨rfl, oneAll_of rfl⟩ | exact ⟨rfl, Nat.le_of_ble_eq_true rfl⟩ | ((try unfold maxLen); (try simp only [List.length_nil, List.length_cons, List.length_append]); omega) | (refine ⟨rfl, ?_⟩; (try simp only [List.length_nil, List.length_cons, List.length_append]); omega)) ?_ | intro _)); (all_goals (conv => whnf))
    exact loop_next (i + 1) (by ((try dsimp only); omega)) (by ((try dsimp only); omega)) (by (repeat ((conv => whnf); refine And.intro (by first | exact rfl | exact vint_eq (by omega) | exact vsl_eq (by omega)) ?_)); exact trivial) (.refl _)
  · by_cases hxy : (x : Int) = y
    · (repeat' ((conv => whnf); first | (refine bcase_prop (fun h => ?_) (fun h => ?_) <;> try (exfalso; omega)) | (refine bcase_nprop (fun h => ?_) (fun h => ?_) <;> try (exfalso; omega)) | (refine bcase_intro (fun h => ?_) (fun h => ?_) <;> (try simp only [Bool.not_eq_true', Bool.not_eq_false', decide_eq_true_eq, decide_eq_false_iff_not, Bool.not_eq_true, Bool.not_eq_false, Decidable.not_not] at h)) | refine And.intro (by first | omega | exact rfl | assumption | exact ⟨rfl, rfl, rfl, rfl, rfl⟩ | exact ⟨rfl, rfl, rfl, rfl⟩ | exact ⟨rfl, by omega⟩ | exact oneAll_of rfl | exact ⟨rfl, oneAll_of rfl⟩ | exact ⟨rfl, Nat.le_of_ble_eq_true rfl⟩ | ((try unfold maxLen); (try simp only [List.length_nil, List.length_cons, List.length_append]); omega) | (refine ⟨rfl, ?_⟩; (try simp only [List.length_nil, List.length_cons, List.length_append]); omega)) ?_ | intro _)); (all_goals (conv => whnf))
      exact ⟨rfl⟩
    · have hf3 : ∀ w, Calls Tryd.prog fn_keys_Fits #[.int .u64 y, .int .u64 x, .int .i64 l] w fun e w' => e = .returned (.bool false) ∧ Ext w w' := fun w => by
        have := calls_Fits y x l w (by omega) (by omega) (by omega)
        rw [fits_swap hxy a3] at this; exact this
      (repeat' ((conv => whnf); first | refine CallK_pure (.v _) (fun w hR => hf1 w) ?_ | refine CallK_pure (.v _) (fun w hR => hf3 w) ?_ | (refine bcase_prop (fun h => ?_) (fun h => ?_) <;> try (exfalso; omega)) | (refine bcase_nprop (fun h => ?_) (fun h => ?_) <;> try (exfalso; omega)) | (refine bcase_intro (fun h => ?_) (fun h => ?_) <;> (try simp only [Bool.not_eq_true', Bool.not_eq_false', decide_eq_true_eq, decide_eq_false_iff_not, Bool.not_eq_true, Bool.not_eq_false, Decidable.not_not] at h)) | refine And.intro (by first | omega | exact rfl | assumption | exact ⟨rfl, rfl, rfl, rfl, rfl⟩ | exact ⟨rfl, rfl, rfl, rfl⟩ | exact ⟨rfl, by omega⟩ | exact oneAll_of rfl | exact ⟨rfl, oneAll_of rfl⟩ | exact ⟨rfl, Nat.le_of_ble_eq_true rfl⟩ | ((try unfold maxLen); (try simp only [List.length_nil, List.length_cons, List.length_append]); omega) | (refine ⟨rfl, ?_⟩; (try simp only [List.length_nil, List.length_cons, List.length_append]); omega)) ?_ | intro _)); (all_goals (conv => whnf))
      exact ⟨rfl⟩
end Go.Proofs.YtkekhgnbdhlmhaaDoor
