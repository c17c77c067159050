/- The numbers of a level, and whether two keys fit it: program and reference. No condition. -/
import Derived.Test.YticiljgbjdcmlaaDoorIr
import Derived.Test.YticiljgbjdcmlaaDoorMath
namespace Go.Proofs.YticiljgbjdcmlaaDoor
open Go.EG
attribute [local irreducible] CallK QCall Go.Calls
set_option linter.unusedSimpArgs false
set_option linter.unusedVariables false
set_option maxRecDepth 20000

def bitN (l : Int) : Int := if evenF l = true then (if numF l = 122 then 0 else numF l / 2) else 0
def firstN (l : Int) : Int := if evenF l = true then (if numF l = 122 then 0 else numF l % 2) else 0

theorem even_t {l : Int} (h : 2 ≤ l) (h' : l % 2 = 0) : evenF l = true := by unfold evenF; simp; omega
theorem even_f {l : Int} (h : l < 2 ∨ l % 2 ≠ 0) : evenF l = false := by unfold evenF; simp; omega
theorem even_elim {l : Int} (h : evenF l = true) : 2 ≤ l ∧ l % 2 = 0 := by unfold evenF at h; simpa using h

theorem calls_number (l : Int) (w : World) (h1 : l ≤ 9223372036854775807) : Calls Tryd.prog fn_keys_number #[.int .i64 l] w fun x w' => x = .returned (.tuple #[.int .i64 (if evenF l then numF l else 0), .bool (evenF l)]) ∧ Ext w w' := by
  refine pure_call [.v (.int .i64 l)] w ok_keys_number (by simp) ?_
  (repeat' ((conv => whnf); first | (refine bcase_prop (fun h => ?_) (fun h => ?_) <;> try (exfalso; omega)) | (refine bcase_nprop (fun h => ?_) (fun h => ?_) <;> try (exfalso; omega)) | (refine bcase_intro (fun h => ?_) (fun h => ?_) <;> (try simp only [Bool.not_eq_true', Bool.not_eq_false', decide_eq_true_eq, decide_eq_false_iff_not, Bool.not_eq_true, Bool.not_eq_false, Decidable.not_not] at h)) | refine And.intro (by first | omega | exact rfl | assumption | exact ⟨rfl, rfl, rfl, rfl, rfl⟩ | exact ⟨rfl, rfl, rfl, rfl⟩ | exact ⟨rfl, by omega⟩ | exact oneAll_of rfl | exact ⟨rfl, oneAll_of rfl⟩ | exact Ref.refl _ | exact Thin.ref (.skip (Thin.refl _)) | exact Thin.ref (.skip (.skip (Thin.refl _))) | exact ⟨rfl, Nat.le_of_ble_eq_true rfl⟩ | ((try unfold maxLen); (try simp only [List.length_nil, List.length_cons, List.length_append]); omega) | (refine ⟨rfl, ?_⟩; (try simp only [List.length_nil, List.length_cons, List.length_append]); omega)) ?_ | intro _)); (all_goals (conv => whnf))
  · refine ⟨?_⟩
    rw [even_f (.inl h)]; rfl
  · refine ⟨?_⟩
    rw [even_f (.inr h)]; rfl
  · refine ⟨?_⟩
    rw [even_t (by omega) h]; rfl

theorem calls_rNumber (l : Int) (w : World) (h1 : l ≤ 9223372036854775807) : Calls Tryd.prog fn_evergreenref20_Number #[.int .i64 l] w fun x w' => x = .returned (.tuple #[.int .i64 (if evenF l then bitN l else -1), .int .u64 (firstN l), .bool (tieF l)]) ∧ Ext w w' := by
  refine pure_call [.v (.int .i64 l)] w ok_evergreenref20_Number (by simp) ?_
  have hr := numF_range l
  (repeat' ((conv => whnf); first | (refine bcase_prop (fun h => ?_) (fun h => ?_) <;> try (exfalso; omega)) | (refine bcase_nprop (fun h => ?_) (fun h => ?_) <;> try (exfalso; omega)) | (refine bcase_intro (fun h => ?_) (fun h => ?_) <;> (try simp only [Bool.not_eq_true', Bool.not_eq_false', decide_eq_true_eq, decide_eq_false_iff_not, Bool.not_eq_true, Bool.not_eq_false, Decidable.not_not] at h)) | refine And.intro (by first | omega | exact rfl | assumption | exact ⟨rfl, rfl, rfl, rfl, rfl⟩ | exact ⟨rfl, rfl, rfl, rfl⟩ | exact ⟨rfl, by omega⟩ | exact oneAll_of rfl | exact ⟨rfl, oneAll_of rfl⟩ | exact Ref.refl _ | exact Thin.ref (.skip (Thin.refl _)) | exact Thin.ref (.skip (.skip (Thin.refl _))) | exact ⟨rfl, Nat.le_of_ble_eq_true rfl⟩ | ((try unfold maxLen); (try simp only [List.length_nil, List.length_cons, List.length_append]); omega) | (refine ⟨rfl, ?_⟩; (try simp only [List.length_nil, List.length_cons, List.length_append]); omega)) ?_ | intro _)); (all_goals (conv => whnf))
  · refine ⟨?_⟩
    simp [firstN, tieF, even_f (.inl h)]
  · refine ⟨?_⟩
    simp [firstN, tieF, even_f (.inr h)]
  · rename_i h2 h3
    have he := even_t (by omega) h3
    refine ⟨?_⟩
    have h : numF l = 122 := h
    simp [bitN, firstN, tieF, he, h]
  · rename_i h2 h3
    have he := even_t (by omega) h3
    refine ⟨?_⟩
    have h : ¬ numF l = 122 := h
    simp only [bitN, firstN, tieF, he, h, if_true, if_false, decide_false, Bool.and_false]
    show _ = Value.tuple #[.int .i64 (numF l / 2), .int .u64 (numF l % 2), .bool false]
    rw [show numF l % 2 = numF l % 2 % 18446744073709551616 from by omega]; rfl

theorem calls_Fits (x y l : Int) (w : World) (hx : 0 ≤ x ∧ x ≤ 18446744073709551615) (hy : 0 ≤ y ∧ y ≤ 18446744073709551615) (h1 : l ≤ 9223372036854775807) : Calls Tryd.prog fn_keys_Fits #[.int .u64 x, .int .u64 y, .int .i64 l] w fun e w' => e = .returned (.bool (fitsF x y l)) ∧ Ext w w' := by
  refine pure_call [.v (.int .u64 x), .v (.int .u64 y), .v (.int .i64 l)] w ok_keys_Fits (by simp) ?_
  have hr := numF_range l
  have hq : ∀ z : Int, 0 ≤ z → z ≤ 18446744073709551615 → ∀ b : Int, 0 ≤ z / ((2 ^ b.toNat : Nat) : Int) ∧ z / ((2 ^ b.toNat : Nat) : Int) ≤ 18446744073709551615 := fun z h0 h2 b =>
    ⟨Int.ediv_nonneg h0 (Int.natCast_nonneg _), Int.le_trans (Int.ediv_le_self _ h0) h2⟩
  have q1 := hq x hx.1 hx.2 (numF l / 2)
  have q2 := hq y hy.1 hy.2 (numF l / 2)
  cases he : evenF l with
  | true =>
    have hc : ∀ w, Calls Tryd.prog fn_keys_number #[.int .i64 l] w fun x w' => x = .returned (.tuple #[.int .i64 (numF l), .bool true]) ∧ Ext w w' := fun w => by
      have := calls_number l w h1
      rw [he] at this; exact this
    (repeat' ((conv => whnf); first | refine CallK_pure (.v _) (fun w hR => hc w) ?_ | (refine bcase_prop (fun h => ?_) (fun h => ?_) <;> try (exfalso; omega)) | (refine bcase_nprop (fun h => ?_) (fun h => ?_) <;> try (exfalso; omega)) | (refine bcase_intro (fun h => ?_) (fun h => ?_) <;> (try simp only [Bool.not_eq_true', Bool.not_eq_false', decide_eq_true_eq, decide_eq_false_iff_not, Bool.not_eq_true, Bool.not_eq_false, Decidable.not_not] at h)) | refine And.intro (by first | omega | exact rfl | assumption | exact ⟨rfl, rfl, rfl, rfl, rfl⟩ | exact ⟨rfl, rfl, rfl, rfl⟩ | exact ⟨rfl, by omega⟩ | exact oneAll_of rfl | exact ⟨rfl, oneAll_of rfl⟩ | exact Ref.refl _ | exact Thin.ref (.skip (Thin.refl _)) | exact Thin.ref (.skip (.skip (Thin.refl _))) | exact ⟨by omega, by show _ ≤ (64 : Int); omega⟩ | (refine ⟨?_, ?_, ?_, ?_⟩ <;> first | exact q1.1 | exact q1.2 | exact q2.1 | exact q2.2 | decide) | exact ⟨rfl, Nat.le_of_ble_eq_true rfl⟩ | ((try unfold maxLen); (try simp only [List.length_nil, List.length_cons, List.length_append]); omega) | (refine ⟨rfl, ?_⟩; (try simp only [List.length_nil, List.length_cons, List.length_append]); omega)) ?_ | intro _)); (all_goals (conv => whnf))
    · refine ⟨?_⟩
      simp [fitsF, he, h]
    · rename_i h2
      refine ⟨?_⟩
      rw [and_one _ _ hx.1] at h
      rw [and_one _ _ hy.1]
      have e1 : bitI x (numF l / 2) = numF l % 2 := by omega
      simp only [fitsF, he, h2, if_false, Bool.true_and, e1, decide_true]
      rw [show (1 - numF l % 2 % 18446744073709551616) % 18446744073709551616 = 1 - numF l % 2 from by omega]
    · rename_i h2
      refine ⟨?_⟩
      rw [and_one _ _ hx.1] at h
      have e1 : ¬ bitI x (numF l / 2) = numF l % 2 := by omega
      simp only [fitsF, he, h2, if_false, Bool.true_and, e1, decide_false, Bool.false_and]
  | false =>
    have hc : ∀ w, Calls Tryd.prog fn_keys_number #[.int .i64 l] w fun x w' => x = .returned (.tuple #[.int .i64 0, .bool false]) ∧ Ext w w' := fun w => by
      have := calls_number l w h1
      rw [he] at this; exact this
    (repeat' ((conv => whnf); first | refine CallK_pure (.v _) (fun w hR => hc w) ?_ | (refine bcase_prop (fun h => ?_) (fun h => ?_) <;> try (exfalso; omega)) | (refine bcase_nprop (fun h => ?_) (fun h => ?_) <;> try (exfalso; omega)) | (refine bcase_intro (fun h => ?_) (fun h => ?_) <;> (try simp only [Bool.not_eq_true', Bool.not_eq_false', decide_eq_true_eq, decide_eq_false_iff_not, Bool.not_eq_true, Bool.not_eq_false, Decidable.not_not] at h)) | refine And.intro (by first | omega | exact rfl | assumption | exact ⟨rfl, rfl, rfl, rfl, rfl⟩ | exact ⟨rfl, rfl, rfl, rfl⟩ | exact ⟨rfl, by omega⟩ | exact oneAll_of rfl | exact ⟨rfl, oneAll_of rfl⟩ | exact Ref.refl _ | exact Thin.ref (.skip (Thin.refl _)) | exact Thin.ref (.skip (.skip (Thin.refl _))) | exact ⟨rfl, Nat.le_of_ble_eq_true rfl⟩ | ((try unfold maxLen); (try simp only [List.length_nil, List.length_cons, List.length_append]); omega) | (refine ⟨rfl, ?_⟩; (try simp only [List.length_nil, List.length_cons, List.length_append]); omega)) ?_ | intro _)); (all_goals (conv => whnf))
    refine ⟨?_⟩
    simp [fitsF, he]
theorem calls_rFits (x y l : Int) (w : World) (hx : 0 ≤ x ∧ x ≤ 18446744073709551615) (hy : 0 ≤ y ∧ y ≤ 18446744073709551615) (h1 : l ≤ 9223372036854775807) : Calls Tryd.prog fn_evergreenref20_Fits #[.int .u64 x, .int .u64 y, .int .i64 l] w fun e w' => e = .returned (.bool (fitsF x y l)) ∧ Ext w w' := by
  refine pure_call [.v (.int .u64 x), .v (.int .u64 y), .v (.int .i64 l)] w ok_evergreenref20_Fits (by simp) ?_
  have hr := numF_range l
  have hq : ∀ z : Int, 0 ≤ z → z ≤ 18446744073709551615 → ∀ b : Int, 0 ≤ z / ((2 ^ b.toNat : Nat) : Int) ∧ z / ((2 ^ b.toNat : Nat) : Int) ≤ 18446744073709551615 := fun z h0 h2 b =>
    ⟨Int.ediv_nonneg h0 (Int.natCast_nonneg _), Int.le_trans (Int.ediv_le_self _ h0) h2⟩
  have q1 := hq x hx.1 hx.2 (numF l / 2)
  have q2 := hq y hy.1 hy.2 (numF l / 2)
  cases he : evenF l with
  | true =>
    by_cases ht : numF l = 122
    · have hc : ∀ w, Calls Tryd.prog fn_evergreenref20_Number #[.int .i64 l] w fun x w' => x = .returned (.tuple #[.int .i64 0, .int .u64 0, .bool true]) ∧ Ext w w' := fun w => by
        have := calls_rNumber l w h1
        simp only [bitN, firstN, tieF, he, ht, if_true, decide_true, Bool.and_true] at this; exact this
      (repeat' ((conv => whnf); first | refine CallK_pure (.v _) (fun w hR => hc w) ?_ | (refine bcase_prop (fun h => ?_) (fun h => ?_) <;> try (exfalso; omega)) | (refine bcase_nprop (fun h => ?_) (fun h => ?_) <;> try (exfalso; omega)) | (refine bcase_intro (fun h => ?_) (fun h => ?_) <;> (try simp only [Bool.not_eq_true', Bool.not_eq_false', decide_eq_true_eq, decide_eq_false_iff_not, Bool.not_eq_true, Bool.not_eq_false, Decidable.not_not] at h)) | refine And.intro (by first | omega | exact rfl | assumption | exact ⟨rfl, rfl, rfl, rfl, rfl⟩ | exact ⟨rfl, rfl, rfl, rfl⟩ | exact ⟨rfl, by omega⟩ | exact oneAll_of rfl | exact ⟨rfl, oneAll_of rfl⟩ | exact Ref.refl _ | exact Thin.ref (.skip (Thin.refl _)) | exact Thin.ref (.skip (.skip (Thin.refl _))) | exact ⟨rfl, Nat.le_of_ble_eq_true rfl⟩ | ((try unfold maxLen); (try simp only [List.length_nil, List.length_cons, List.length_append]); omega) | (refine ⟨rfl, ?_⟩; (try simp only [List.length_nil, List.length_cons, List.length_append]); omega)) ?_ | intro _)); (all_goals (conv => whnf))
      refine ⟨?_⟩
      simp [fitsF, he, ht]
    · have hc : ∀ w, Calls Tryd.prog fn_evergreenref20_Number #[.int .i64 l] w fun x w' => x = .returned (.tuple #[.int .i64 (numF l / 2), .int .u64 (numF l % 2), .bool false]) ∧ Ext w w' := fun w => by
        have := calls_rNumber l w h1
        simp only [bitN, firstN, tieF, he, ht, if_true, if_false, decide_false, Bool.and_false] at this; exact this
      (repeat' ((conv => whnf); first | refine CallK_pure (.v _) (fun w hR => hc w) ?_ | (refine bcase_prop (fun h => ?_) (fun h => ?_) <;> try (exfalso; omega)) | (refine bcase_nprop (fun h => ?_) (fun h => ?_) <;> try (exfalso; omega)) | (refine bcase_intro (fun h => ?_) (fun h => ?_) <;> (try simp only [Bool.not_eq_true', Bool.not_eq_false', decide_eq_true_eq, decide_eq_false_iff_not, Bool.not_eq_true, Bool.not_eq_false, Decidable.not_not] at h)) | refine And.intro (by first | omega | exact rfl | assumption | exact ⟨rfl, rfl, rfl, rfl, rfl⟩ | exact ⟨rfl, rfl, rfl, rfl⟩ | exact ⟨rfl, by omega⟩ | exact oneAll_of rfl | exact ⟨rfl, oneAll_of rfl⟩ | exact Ref.refl _ | exact Thin.ref (.skip (Thin.refl _)) | exact Thin.ref (.skip (.skip (Thin.refl _))) | exact ⟨by omega, by show _ ≤ (64 : Int); omega⟩ | (refine ⟨?_, ?_, ?_, ?_⟩ <;> first | exact q1.1 | exact q1.2 | exact q2.1 | exact q2.2 | decide) | exact ⟨rfl, Nat.le_of_ble_eq_true rfl⟩ | ((try unfold maxLen); (try simp only [List.length_nil, List.length_cons, List.length_append]); omega) | (refine ⟨rfl, ?_⟩; (try simp only [List.length_nil, List.length_cons, List.length_append]); omega)) ?_ | intro _)); (all_goals (conv => whnf))
      · refine ⟨?_⟩
        rw [and_one _ _ hx.1] at h
        rw [and_one _ _ hy.1]
        simp only [fitsF, he, ht, if_false, Bool.true_and, h, decide_true]
        rw [show (1 - numF l % 2) % 18446744073709551616 = 1 - numF l % 2 from by omega]
      · refine ⟨?_⟩
        rw [and_one _ _ hx.1] at h
        simp only [fitsF, he, ht, if_false, Bool.true_and, h, decide_false, Bool.false_and]
  | false =>
    have hc : ∀ w, Calls Tryd.prog fn_evergreenref20_Number #[.int .i64 l] w fun x w' => x = .returned (.tuple #[.int .i64 (-1), .int .u64 0, .bool false]) ∧ Ext w w' := fun w => by
      have := calls_rNumber l w h1
      simp only [firstN, tieF, he, if_false, Bool.false_and, Bool.false_eq_true] at this; exact this
    (repeat' ((conv => whnf); first | refine CallK_pure (.v _) (fun w hR => hc w) ?_ | (refine bcase_prop (fun h => ?_) (fun h => ?_) <;> try (exfalso; omega)) | (refine bcase_nprop (fun h => ?_) (fun h => ?_) <;> try (exfalso; omega)) | (refine bcase_intro (fun h => ?_) (fun h => ?_) <;> (try simp only [Bool.not_eq_true', Bool.not_eq_false', decide_eq_true_eq, decide_eq_false_iff_not, Bool.not_eq_true, Bool.not_eq_false, Decidable.not_not] at h)) | refine And.intro (by first | omega | exact rfl | assumption | exact ⟨rfl, rfl, rfl, rfl, rfl⟩ | exact ⟨rfl, rfl, rfl, rfl⟩ | exact ⟨rfl, by omega⟩ | exact oneAll_of rfl | exact ⟨rfl, oneAll_of rfl⟩ | exact Ref.refl _ | exact Thin.ref (.skip (Thin.refl _)) | exact Thin.ref (.skip (.skip (Thin.refl _))) | exact ⟨rfl, Nat.le_of_ble_eq_true rfl⟩ | ((try unfold maxLen); (try simp only [List.length_nil, List.length_cons, List.length_append]); omega) | (refine ⟨rfl, ?_⟩; (try simp only [List.length_nil, List.length_cons, List.length_append]); omega)) ?_ | intro _)); (all_goals (conv => whnf))
    refine ⟨?_⟩
    simp [fitsF, he]
end Go.Proofs.YticiljgbjdcmlaaDoor
