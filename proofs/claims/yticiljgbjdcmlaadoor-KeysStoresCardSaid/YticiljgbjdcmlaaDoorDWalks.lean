/- Trailing zeros, the search for a level: program and reference. Condition where the table is read: the table's variable holds it. -/
import Derived.Test.YticiljgbjdcmlaaDoorKeys
import Derived.Test.YticiljgbjdcmlaaDoorDMath
namespace Go.Proofs.YticiljgbjdcmlaaDoor
open Go.EG
attribute [local irreducible] CallK QCall Go.Calls
set_option linter.unusedSimpArgs false
set_option linter.unusedVariables false
set_option maxRecDepth 20000

def tabI : List Int := Lib.deBruijn64tab.map fun n : Nat => (n : Int)
theorem tabI_length : tabI.length = 64 := by decide
theorem tabI_get (i : Nat) : tabI.getD i 0 = ((Lib.deBruijn64tab.getD i 0 : Nat) : Int) := by
  unfold tabI
  rw [List.getD_eq_getElem?_getD, List.getElem?_map, List.getD_eq_getElem?_getD]
  cases Lib.deBruijn64tab[i]? <;> rfl
/-- The table's variable holds it. -/
abbrev Tab (w : World) : Prop := In w [] (some ⟨0, 0, none⟩) (ints .u8 tabI)

theorem rdG {w0 : World} {fp0 : List Nat} {L : List Ent} {k : IntKind} {g : Nat} {zs : List Int} {i : Nat} (hx : In w0 fp0 (some ⟨g, 0, none⟩) (ints k zs)) (h : i < zs.length) : Rd w0 fp0 L (.v (.pointer (some ((⟨g, 0, none⟩ : Addr).add i)))) [.int k (zs.getD i 0)] :=
  rdI hx h

theorem calls_tz (x : Nat) (h0 : 0 < x) (h1 : x < 18446744073709551616) (w : World) (hG : Tab w) : Calls Tryd.prog fn_math_bits_TrailingZeros64 #[.int .u64 x] w fun e w' => e = .returned (.int .i64 (Lib.ctz 64 x)) ∧ Ext w w' := by
  refine pure_call [.v (.int .u64 x)] w ok_math_bits_TrailingZeros64 (by simp) ?_
  obtain ⟨hlow, hk⟩ := Lib.lowest_bit 64 x (by omega) h1
  obtain ⟨hi, htab⟩ := Lib.deBruijn64_at _ hk
  generalize Lib.ctz 64 x = k at *
  have hn : (0 - (x : Int)) % 18446744073709551616 = ((18446744073709551616 - x : Nat) : Int) := by omega
  have hb : (((x : Int).toNat &&& ((0 - (x : Int)) % 18446744073709551616).toNat : Nat) : Int) = ((2 ^ k : Nat) : Int) := by
    rw [hn, Int.toNat_natCast, Int.toNat_natCast]
    rw [show 18446744073709551616 - x = 2 ^ 64 - x from rfl, hlow]
  have hx : ((2 ^ k : Nat) : Int) * 285870213051353865 % 18446744073709551616 / ((2 ^ (58 : Int).toNat : Nat) : Int) = ((2 ^ k * 285870213051353865 % 18446744073709551616 / 288230376151711744 : Nat) : Int) := by
    rw [Int.natCast_ediv, Int.natCast_emod, Int.natCast_mul]; rfl
  generalize hidx : 2 ^ k * 285870213051353865 % 18446744073709551616 / 288230376151711744 = idx at *
  have h2 : (0 : Int) ≤ (0 - (x : Int)) % 18446744073709551616 ∧ (0 - (x : Int)) % 18446744073709551616 ≤ 18446744073709551615 := by omega
  have h3 : tabI.getD idx 0 = (k : Int) := by rw [tabI_get, htab]
  (repeat' ((conv => whnf); first | rw [hb] | rw [hx] | rw [Int.toNat_natCast] | rw [h3] | refine ⟨_, rdG hG (by rw [tabI_length]; exact hi), ?_⟩ | (refine bcase_prop (fun h => ?_) (fun h => ?_) <;> try (exfalso; omega)) | (refine bcase_nprop (fun h => ?_) (fun h => ?_) <;> try (exfalso; omega)) | (refine bcase_intro (fun h => ?_) (fun h => ?_) <;> (try simp only [Bool.not_eq_true', Bool.not_eq_false', decide_eq_true_eq, decide_eq_false_iff_not, Bool.not_eq_true, Bool.not_eq_false, Decidable.not_not] at h)) | refine And.intro (by first | omega | exact rfl | assumption | exact ⟨rfl, rfl, rfl, rfl, rfl⟩ | exact ⟨rfl, rfl, rfl, rfl⟩ | exact ⟨rfl, by omega⟩ | exact oneAll_of rfl | exact ⟨rfl, oneAll_of rfl⟩ | exact Ref.refl _ | exact Thin.ref (.skip (Thin.refl _)) | exact Thin.ref (.skip (.skip (Thin.refl _))) | exact ⟨by omega, by omega, h2.1, h2.2⟩ | exact ⟨by decide, by show _ ≤ (64 : Int); decide⟩ | exact ⟨rfl, Nat.le_of_ble_eq_true rfl⟩ | ((try unfold maxLen); (try simp only [List.length_nil, List.length_cons, List.length_append]); omega) | (refine ⟨rfl, ?_⟩; (try simp only [List.length_nil, List.length_cons, List.length_append]); omega)) ?_ | intro _)); (all_goals (conv => whnf))
  exact ⟨rfl⟩

theorem bitI_nat0 (x k : Nat) : bitI (x : Int) (k : Int) = ((x / 2 ^ k % 2 : Nat) : Int) := by
  unfold bitI
  rw [Int.toNat_natCast]
  norm_cast

theorem calls_fitting (c x y : Nat) (hc : c ≤ 122) (hx : x < 18446744073709551616) (hy : y < 18446744073709551616) (w : World) (hG : Tab w) :
    Calls Tryd.prog fn_keys_fitting #[.int .i64 c, .int .u64 x, .int .u64 y] w fun e w' => e = .returned (.int .i64 (fittingN x y c)) ∧ Ext w w' := by
  refine pure_call [.v (.int .i64 c), .v (.int .u64 x), .v (.int .u64 y)] w ok_keys_fitting (by simp) ?_
  have hd := diff_lt x y c
  have hxor : x ^^^ y < 2 ^ 64 := Nat.xor_lt_two_pow (by omega) (by omega)
  have hand : (x ^^^ y) &&& 2305843009213693951 < 2 ^ 61 := Nat.and_lt_two_pow _ (by decide)
  have c2 : (c : Int) / 2 = ((c / 2 : Nat) : Int) := by omega
  have hp : 2 ^ (c / 2) ≤ 2305843009213693952 := Nat.pow_le_pow_right (i := c / 2) (j := 61) (by decide) (by omega)
  have h32 : x / 2 ^ (c / 2) &&& 1 = x / 2 ^ (c / 2) % 2 := Nat.and_one_is_mod _
  have hle : (((x ^^^ y) &&& 2305843009213693951) / 2 ^ (c / 2)) * 2 ^ (c / 2) ≤ (x ^^^ y) &&& 2305843009213693951 := Nat.div_mul_le_self _ _
  have h31b : x / 2 ^ (c / 2) ≤ x := Nat.div_le_self _ _
  have h20b : ((x ^^^ y) &&& 2305843009213693951) / 2 ^ (c / 2) ≤ (x ^^^ y) &&& 2305843009213693951 := Nat.div_le_self _ _
  have hD : diffN x y c = if c % 2 = 1 ∧ x / 2 ^ (c / 2) % 2 = 0 then (((x ^^^ y) &&& 2305843009213693951) / 2 ^ (c / 2)) * 2 ^ (c / 2) ^^^ ((((x ^^^ y) &&& 2305843009213693951) / 2 ^ (c / 2)) * 2 ^ (c / 2) &&& 2 ^ (c / 2)) else (((x ^^^ y) &&& 2305843009213693951) / 2 ^ (c / 2)) * 2 ^ (c / 2) := rfl
  generalize hq : 2 ^ (c / 2) = q at *
  generalize hz : (x ^^^ y) &&& 2305843009213693951 = z at *
  have h20 : (z : Int) / (q : Int) = ((z / q : Nat) : Int) := by rw [Int.natCast_ediv]
  have h23 : ((z / q : Nat) : Int) * (q : Int) % 18446744073709551616 = ((z / q * q : Nat) : Int) := by
    rw [← Int.natCast_mul]
    generalize z / q * q = zz at hle
    omega
  have hz1 : z / q * q ≤ z := hle
  have h38 : (1 : Int) * (q : Int) % 18446744073709551616 = (q : Int) := by omega
  have h31 : (x : Int) / (q : Int) = ((x / q : Nat) : Int) := by rw [Int.natCast_ediv]
  generalize hd0 : z / q * q = d0 at *
  generalize hzq : z / q = zq at *
  generalize hxq : x / q = xq at *
  have hxd : d0 ^^^ (d0 &&& q) < 2 ^ 64 := Nat.xor_lt_two_pow (by omega) (Nat.lt_of_le_of_lt Nat.and_le_left (by omega))
  have hN : ∀ D, diffN x y c = D → ¬ x = y → ¬ c = 122 → fittingN x y c = if D = 0 then -1 else 2 * (Lib.ctz 64 D : Int) + (if x.testBit (Lib.ctz 64 D) then 1 else 0) := fun D hD h1 h2 => by
    unfold fittingN; rw [if_neg h1, if_neg h2, hD]
  have tz : ∀ D : Nat, D < 2 ^ 64 → ∃ k v : Nat, Lib.ctz 64 D = k ∧ (0 < D → k < 64) ∧ v ≤ 1 ∧ (if x.testBit k then 1 else 0) = v ∧ ((((x : Int) / ((2 ^ k : Nat) : Int)).toNat &&& 1 : Nat) : Int) = (v : Int) := fun D hD => by
    refine ⟨Lib.ctz 64 D, if x.testBit (Lib.ctz 64 D) then 1 else 0, rfl, fun h => (ctz_test h hD).2.1, by split <;> omega, rfl, ?_⟩
    rw [← Int.natCast_ediv, Int.toNat_natCast, Nat.and_one_is_mod, ← bitI_nat0, bitI_testN]
    split <;> rfl
  obtain ⟨k1, v1, hk1, hk1b, hv1, hv1d, hb1⟩ := tz d0 (by omega)
  obtain ⟨k2, v2, hk2, hk2b, hv2, hv2d, hb2⟩ := tz (d0 ^^^ (d0 &&& q)) (by omega)
  have hvi1 : (if x.testBit k1 then 1 else 0 : Int) = (v1 : Int) := by rw [← hv1d]; split <;> rfl
  have hvi2 : (if x.testBit k2 then 1 else 0 : Int) = (v2 : Int) := by rw [← hv2d]; split <;> rfl
  generalize hd2 : d0 ^^^ (d0 &&& q) = d2 at *
  have m61 : (2305843009213693951 : Int).toNat = 2305843009213693951 := rfl
  have m1 : (1 : Int).toNat = 1 := rfl
  (repeat' ((conv => whnf); first | rw [c2] | rw [Int.toNat_natCast] | rw [m61] | rw [m1] | rw [h20] | rw [h23] | rw [h38] | rw [h31] | rw [h32] | rw [hq] | rw [hz] | rw [hd2] | rw [hk1] | rw [hk2] | rw [hb1] | rw [hb2] | refine CallK_pure (.v _) (fun w hR => calls_tz _ (by omega) (by omega) w (hG.cast hR (by simp))) ?_ | (refine bcase_prop (fun h => ?_) (fun h => ?_) <;> try (exfalso; omega)) | (refine bcase_nprop (fun h => ?_) (fun h => ?_) <;> try (exfalso; omega)) | (refine bcase_intro (fun h => ?_) (fun h => ?_) <;> (try simp only [Bool.not_eq_true', Bool.not_eq_false', decide_eq_true_eq, decide_eq_false_iff_not, Bool.not_eq_true, Bool.not_eq_false, Decidable.not_not] at h)) | refine And.intro (by first | omega | exact rfl | assumption | exact ⟨rfl, rfl, rfl, rfl, rfl⟩ | exact ⟨rfl, rfl, rfl, rfl⟩ | exact ⟨rfl, by omega⟩ | exact oneAll_of rfl | exact ⟨rfl, oneAll_of rfl⟩ | exact Ref.refl _ | exact Thin.ref (.skip (Thin.refl _)) | exact Thin.ref (.skip (.skip (Thin.refl _))) | exact ⟨by omega, by show _ ≤ (64 : Int); omega⟩ | exact ⟨Int.ediv_nonneg (by omega) (Int.natCast_nonneg _), Int.le_trans (Int.ediv_le_self _ (by omega)) (by omega), by decide, by decide⟩ | exact ⟨rfl, Nat.le_of_ble_eq_true rfl⟩ | ((try unfold maxLen); (try simp only [List.length_nil, List.length_cons, List.length_append]); omega) | (refine ⟨rfl, ?_⟩; (try simp only [List.length_nil, List.length_cons, List.length_append]); omega)) ?_ | intro _)); (all_goals (conv => whnf))
  · refine ⟨?_⟩
    unfold fittingN
    rw [if_pos (by omega)]
  · refine ⟨?_⟩
    unfold fittingN
    rw [if_neg (by omega), if_pos (by omega)]
  · rw [if_pos ⟨by omega, by omega⟩] at hD
    exact ⟨by rw [hN _ hD (by omega) (by omega), if_pos (by omega)]⟩
  · rw [if_pos ⟨by omega, by omega⟩] at hD
    exact ⟨by rw [hN _ hD (by omega) (by omega), if_neg (by omega), hk2, hvi2]⟩
  · rw [if_neg (by omega)] at hD
    exact ⟨by rw [hN _ hD (by omega) (by omega), if_pos (by omega)]⟩
  · rw [if_neg (by omega)] at hD
    exact ⟨by rw [hN _ hD (by omega) (by omega), if_neg (by omega), hk1, hvi1]⟩
  · rw [if_neg (by omega)] at hD
    exact ⟨by rw [hN _ hD (by omega) (by omega), if_pos (by omega)]⟩
  · rw [if_neg (by omega)] at hD
    exact ⟨by rw [hN _ hD (by omega) (by omega), if_neg (by omega), hk1, hvi1]⟩

theorem fittingN_range {x y c : Nat} (hc : c ≤ 122) : -1 ≤ fittingN x y c ∧ fittingN x y c ≤ 122 := by
  have h := fitting_least (x := x) (y := y) hc
  refine ⟨h.low, ?_⟩
  by_cases h0 : 0 ≤ fittingN x y c
  · exact (h.some h0).2.1
  · omega

theorem calls_after (low x y : Nat) (hl : low ≤ 1152921504606846976) (hx : x < 18446744073709551616) (hy : y < 18446744073709551616) (w : World) (hG : Tab w) :
    Calls Tryd.prog fn_keys_after #[.int .i64 low, .int .u64 x, .int .u64 y] w fun e w' => e = .returned (.int .i64 (afterF low x y)) ∧ Ext w w' := by
  refine pure_call [.v (.int .i64 low), .v (.int .u64 x), .v (.int .u64 y)] w ok_keys_after (by simp) ?_
  rw [← afterN_eq]
  unfold afterN
  simp only
  have ej : (low : Int) / 2 + 1 = ((low / 2 + 1 : Nat) : Int) := by omega
  generalize hj : low / 2 + 1 = j at *
  have hjb : 1 ≤ j := by omega
  have ec : ((j : Int) - 1) % 123 = (((j - 1) % 123 : Nat) : Int) := by omega
  generalize hc : (j - 1) % 123 = c at *
  have hc1 : c ≤ 122 := by omega
  have r1 := fittingN_range (x := x) (y := y) hc1
  have r0 := fittingN_range (x := x) (y := y) (c := 0) (by omega)
  have k1 := fun w hG => calls_fitting c x y hc1 hx hy w hG
  have k0 := fun w hG => calls_fitting 0 x y (by omega) hx hy w hG
  generalize fittingN x y c = n1 at *
  generalize fittingN x y 0 = n0 at *
  (repeat' ((conv => whnf); first | rw [ej] | rw [ec] | refine CallK_pure (.v _) (fun w hR => k1 w (hG.cast hR (by simp))) ?_ | refine CallK_pure (.v _) (fun w hR => k0 w (hG.cast hR (by simp))) ?_ | (refine bcase_prop (fun h => ?_) (fun h => ?_) <;> try (exfalso; omega)) | (refine bcase_nprop (fun h => ?_) (fun h => ?_) <;> try (exfalso; omega)) | (refine bcase_intro (fun h => ?_) (fun h => ?_) <;> (try simp only [Bool.not_eq_true', Bool.not_eq_false', decide_eq_true_eq, decide_eq_false_iff_not, Bool.not_eq_true, Bool.not_eq_false, Decidable.not_not] at h)) | refine And.intro (by first | omega | exact rfl | assumption | exact ⟨rfl, rfl, rfl, rfl, rfl⟩ | exact ⟨rfl, rfl, rfl, rfl⟩ | exact ⟨rfl, by omega⟩ | exact oneAll_of rfl | exact ⟨rfl, oneAll_of rfl⟩ | exact Ref.refl _ | exact Thin.ref (.skip (Thin.refl _)) | exact Thin.ref (.skip (.skip (Thin.refl _))) | exact ⟨rfl, Nat.le_of_ble_eq_true rfl⟩ | ((try unfold maxLen); (try simp only [List.length_nil, List.length_cons, List.length_append]); omega) | (refine ⟨rfl, ?_⟩; (try simp only [List.length_nil, List.length_cons, List.length_append]); omega)) ?_ | intro _)); (all_goals (conv => whnf))
  · exact ⟨by rw [if_pos h]⟩
  · rename_i h1
    exact ⟨by rw [if_neg h1, if_pos h]⟩
  · rename_i h1
    exact ⟨by rw [if_neg h1, if_neg h]⟩

theorem calls_After (low : Int) (x y : Nat) (hx : x < 18446744073709551616) (hy : y < 18446744073709551616) (w : World) (hG : Tab w) :
    Calls Tryd.prog fn_keys_After #[.int .i64 low, .int .u64 x, .int .u64 y] w fun e w' => e = .returned (.int .i64 (if low > 1048576 then 0 else afterF (max low 0) x y)) ∧ Ext w w' := by
  refine pure_call [.v (.int .i64 low), .v (.int .u64 x), .v (.int .u64 y)] w ok_keys_After (by simp) ?_
  have em : max low 0 = ((low.toNat : Nat) : Int) := by omega
  (repeat' ((conv => whnf); first | rw [em] | refine CallK_pure (.v _) (fun w hR => calls_after _ x y (by omega) hx hy w (hG.cast hR (by simp))) ?_ | (refine bcase_prop (fun h => ?_) (fun h => ?_) <;> try (exfalso; omega)) | (refine bcase_nprop (fun h => ?_) (fun h => ?_) <;> try (exfalso; omega)) | (refine bcase_intro (fun h => ?_) (fun h => ?_) <;> (try simp only [Bool.not_eq_true', Bool.not_eq_false', decide_eq_true_eq, decide_eq_false_iff_not, Bool.not_eq_true, Bool.not_eq_false, Decidable.not_not] at h)) | refine And.intro (by first | omega | exact rfl | assumption | exact ⟨rfl, rfl, rfl, rfl, rfl⟩ | exact ⟨rfl, rfl, rfl, rfl⟩ | exact ⟨rfl, by omega⟩ | exact oneAll_of rfl | exact ⟨rfl, oneAll_of rfl⟩ | exact Ref.refl _ | exact Thin.ref (.skip (Thin.refl _)) | exact Thin.ref (.skip (.skip (Thin.refl _))) | exact ⟨rfl, Nat.le_of_ble_eq_true rfl⟩ | ((try unfold maxLen); (try simp only [List.length_nil, List.length_cons, List.length_append]); omega) | (refine ⟨rfl, ?_⟩; (try simp only [List.length_nil, List.length_cons, List.length_append]); omega)) ?_ | intro _)); (all_goals (conv => whnf))
  · exact ⟨by rw [if_pos h]⟩
  · exact ⟨by rw [if_neg (by omega)]⟩

theorem calls_rAfter (low : Int) (x y : Nat) (h0 : 0 ≤ low) (hl : low ≤ 1152921504606846976) (hx : x < 18446744073709551616) (hy : y < 18446744073709551616) (w : World) :
    Calls Tryd.prog fn_evergreenref20_After #[.int .i64 low, .int .u64 x, .int .u64 y] w fun e w' => e = .returned (.int .i64 (afterF low x y)) ∧ Ext w w' := by
  refine pure_call [.v (.int .i64 low), .v (.int .u64 x), .v (.int .u64 y)] w ok_evergreenref20_After (by simp) ?_
  (repeat' ((conv => whnf); first | (refine bcase_prop (fun h => ?_) (fun h => ?_) <;> try (exfalso; omega)) | (refine bcase_nprop (fun h => ?_) (fun h => ?_) <;> try (exfalso; omega)) | (refine bcase_intro (fun h => ?_) (fun h => ?_) <;> (try simp only [Bool.not_eq_true', Bool.not_eq_false', decide_eq_true_eq, decide_eq_false_iff_not, Bool.not_eq_true, Bool.not_eq_false, Decidable.not_not] at h)) | refine And.intro (by first | omega | exact rfl | assumption | exact ⟨rfl, rfl, rfl, rfl, rfl⟩ | exact ⟨rfl, rfl, rfl, rfl⟩ | exact ⟨rfl, by omega⟩ | exact oneAll_of rfl | exact ⟨rfl, oneAll_of rfl⟩ | exact Ref.refl _ | exact Thin.ref (.skip (Thin.refl _)) | exact Thin.ref (.skip (.skip (Thin.refl _))) | exact ⟨rfl, Nat.le_of_ble_eq_true rfl⟩ | ((try unfold maxLen); (try simp only [List.length_nil, List.length_cons, List.length_append]); omega) | (refine ⟨rfl, ?_⟩; (try simp only [List.length_nil, List.length_cons, List.length_append]); omega)) ?_ | intro _)); (all_goals (conv => whnf))
  refine VC_loop Nat (fun i => [(0, .v (.int .i64 low)), (1, .v (.int .u64 x)), (2, .v (.int .u64 y)), (7, .v (.int .i64 (i + 1)))]) (fun _ => []) (fun i => i ≤ 246 ∧ afterF low x y = srch (fitsF x y) (246 - i) (low + 1 + i)) (fun i => 246 - i) 0 ⟨by omega, by simp [afterF]⟩ (by (repeat ((conv => whnf); refine And.intro (by first | exact rfl | exact vint_eq (by omega) | exact vint_eq (by (dsimp only; omega)) | exact vsl_eq (by omega) | exact vsl_eq (by first | (dsimp only; omega) | (simp; done) | (simp; omega))) ?_)); exact trivial) (.refl _) ?_
  rintro i ⟨hi, hs⟩
  by_cases h1 : i < 246
  · have hs2 : srch (fitsF x y) (246 - i) (low + 1 + i) = if fitsF x y (low + 1 + i) = true then low + 1 + i else srch (fitsF x y) (246 - (i + 1)) (low + 1 + i + 1) := by
      rw [show 246 - i = (246 - (i + 1)) + 1 from by omega]; rfl
    have he : low + ((i : Int) + 1) = low + 1 + i := by omega
    (repeat' ((conv => whnf); first | rw [he] | refine CallK_pure (.v _) (fun w hR => calls_rFits x y _ w (by omega) (by omega) (by omega)) ?_ | (refine bcase_prop (fun h => ?_) (fun h => ?_) <;> try (exfalso; omega)) | (refine bcase_nprop (fun h => ?_) (fun h => ?_) <;> try (exfalso; omega)) | (refine bcase_intro (fun h => ?_) (fun h => ?_) <;> (try simp only [Bool.not_eq_true', Bool.not_eq_false', decide_eq_true_eq, decide_eq_false_iff_not, Bool.not_eq_true, Bool.not_eq_false, Decidable.not_not] at h)) | refine And.intro (by first | omega | exact rfl | assumption | exact ⟨rfl, rfl, rfl, rfl, rfl⟩ | exact ⟨rfl, rfl, rfl, rfl⟩ | exact ⟨rfl, by omega⟩ | exact oneAll_of rfl | exact ⟨rfl, oneAll_of rfl⟩ | exact Ref.refl _ | exact Thin.ref (.skip (Thin.refl _)) | exact Thin.ref (.skip (.skip (Thin.refl _))) | exact ⟨rfl, Nat.le_of_ble_eq_true rfl⟩ | ((try unfold maxLen); (try simp only [List.length_nil, List.length_cons, List.length_append]); omega) | (refine ⟨rfl, ?_⟩; (try simp only [List.length_nil, List.length_cons, List.length_append]); omega)) ?_ | intro _)); (all_goals (conv => whnf))
    · exact ⟨by rw [hs, hs2, if_pos h]⟩
    · refine loop_next (i + 1) ⟨by omega, ?_⟩ (by show 246 - (i + 1) < _; omega) (by (repeat ((conv => whnf); refine And.intro (by first | exact rfl | exact vint_eq (by omega) | exact vint_eq (by (dsimp only; omega)) | exact vsl_eq (by omega) | exact vsl_eq (by first | (dsimp only; omega) | (simp; done) | (simp; omega))) ?_)); exact trivial) (.refl _)
      rw [hs, hs2, if_neg (by rw [h]; simp)]
      congr 1
      omega
  · (repeat' ((conv => whnf); first | (refine bcase_prop (fun h => ?_) (fun h => ?_) <;> try (exfalso; omega)) | (refine bcase_nprop (fun h => ?_) (fun h => ?_) <;> try (exfalso; omega)) | (refine bcase_intro (fun h => ?_) (fun h => ?_) <;> (try simp only [Bool.not_eq_true', Bool.not_eq_false', decide_eq_true_eq, decide_eq_false_iff_not, Bool.not_eq_true, Bool.not_eq_false, Decidable.not_not] at h)) | refine And.intro (by first | omega | exact rfl | assumption | exact ⟨rfl, rfl, rfl, rfl, rfl⟩ | exact ⟨rfl, rfl, rfl, rfl⟩ | exact ⟨rfl, by omega⟩ | exact oneAll_of rfl | exact ⟨rfl, oneAll_of rfl⟩ | exact Ref.refl _ | exact Thin.ref (.skip (Thin.refl _)) | exact Thin.ref (.skip (.skip (Thin.refl _))) | exact ⟨rfl, Nat.le_of_ble_eq_true rfl⟩ | ((try unfold maxLen); (try simp only [List.length_nil, List.length_cons, List.length_append]); omega) | (refine ⟨rfl, ?_⟩; (try simp only [List.length_nil, List.length_cons, List.length_append]); omega)) ?_ | intro _)); (all_goals (conv => whnf))
    exact ⟨by rw [hs, show 246 - i = 0 from by omega]; rfl⟩

theorem calls_awake (w : World) (hG : Tab w) : Calls Tryd.prog fn_evergreenlaw20_awake #[] w fun e w' => e = .returned (.bool true) ∧ Ext w w' := by
  refine pure_call [] w ok_evergreenlaw20_awake (by simp) ?_
  have h1 : ∀ w, Tab w → Calls Tryd.prog fn_keys_After #[.int .i64 0, .int .u64 1, .int .u64 2] w fun e w' => e = .returned (.int .i64 4) ∧ Ext w w' := fun w hG => by
    have := calls_After 0 1 2 (by decide) (by decide) w hG
    rw [show (if (0 : Int) > 1048576 then 0 else afterF (max 0 0) ((1 : Nat) : Int) ((2 : Nat) : Int)) = 4 from by decide +kernel] at this
    exact this
  have h2 : ∀ w, Calls Tryd.prog fn_keys_Fits #[.int .u64 2, .int .u64 1, .int .i64 2] w fun e w' => e = .returned (.bool true) ∧ Ext w w' := fun w => by
    have := calls_Fits 2 1 2 w (by decide) (by decide) (by decide)
    rw [show fitsF 2 1 2 = true from by decide +kernel] at this
    exact this
  (repeat' ((conv => whnf); first | refine CallK_pure (.v _) (fun w hR => h1 w (hG.cast hR (by simp))) ?_ | refine CallK_pure (.v _) (fun w hR => h2 w) ?_ | (refine bcase_prop (fun h => ?_) (fun h => ?_) <;> try (exfalso; omega)) | (refine bcase_nprop (fun h => ?_) (fun h => ?_) <;> try (exfalso; omega)) | (refine bcase_intro (fun h => ?_) (fun h => ?_) <;> (try simp only [Bool.not_eq_true', Bool.not_eq_false', decide_eq_true_eq, decide_eq_false_iff_not, Bool.not_eq_true, Bool.not_eq_false, Decidable.not_not] at h)) | refine And.intro (by first | omega | exact rfl | assumption | exact ⟨rfl, rfl, rfl, rfl, rfl⟩ | exact ⟨rfl, rfl, rfl, rfl⟩ | exact ⟨rfl, by omega⟩ | exact oneAll_of rfl | exact ⟨rfl, oneAll_of rfl⟩ | exact Ref.refl _ | exact Thin.ref (.skip (Thin.refl _)) | exact Thin.ref (.skip (.skip (Thin.refl _))) | exact ⟨rfl, Nat.le_of_ble_eq_true rfl⟩ | ((try unfold maxLen); (try simp only [List.length_nil, List.length_cons, List.length_append]); omega) | (refine ⟨rfl, ?_⟩; (try simp only [List.length_nil, List.length_cons, List.length_append]); omega)) ?_ | intro _)); (all_goals (conv => whnf))
  exact ⟨rfl⟩
end Go.Proofs.YticiljgbjdcmlaaDoor
