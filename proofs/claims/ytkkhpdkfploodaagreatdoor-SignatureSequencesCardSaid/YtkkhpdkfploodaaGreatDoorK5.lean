/- Trailing zeros, the search for a level: program and reference. Condition where the table is read: the table's variable holds it. -/
import Derived.Test.YtkkhpdkfploodaaGreatDoorK4
import Derived.Test.YtkkhpdkfploodaaGreatDoorK2
import Derived.Sort.OwnSortedInts
namespace Go.Proofs.YtkkhpdkfploodaaGreatDoor
open Go.EG
attribute [local irreducible] CallK QCall Go.Calls
set_option linter.unusedSimpArgs false
set_option linter.unusedVariables false
set_option maxRecDepth 20000
def tabI : List Int := Lib.deBruijn64tab.map fun n : Nat => (n : Int)
theorem tabI_length : tabI.length = 64 := by decide
theorem tabI_get (i : Nat) : tabI.getD i 0 = ((Lib.deBruijn64tab.getD i 0 : Nat) : Int) := by
  unfold tabI
  rw [List.getD_eq_getElem?_getD,List.getElem?_map,List.getD_eq_getElem?_getD]
  cases Lib.deBruijn64tab[i]? <;> rfl
abbrev Tab (w : World) : Prop := In w [] (some ⟨0,0,none⟩) (ints .u8 tabI)
theorem rdG {w0 : World} {fp0 : List Nat} {L : List Ent} {k : IntKind} {g : Nat} {zs : List Int} {i : Nat} (hx : In w0 fp0 (some ⟨g,0,none⟩) (ints k zs)) (h : i < zs.length) : Rd w0 fp0 L (.v (.pointer (some ((⟨g,0,none⟩ : Addr).add i)))) [.int k (zs.getD i 0)] :=
  rdI hx h
theorem calls_tz (x : Nat) (h0 : 0 < x) (h1 : x < 18446744073709551616) (w : World) (hG : Tab w) : Calls Tryz.prog fn_math_bits_TrailingZeros64 #[.int .u64 x] w fun e w' => e = .returned (.int .i64 (Lib.ctz 64 x)) ∧ Ext w w' := by
  refine pure_call [.v (.int .u64 x)] w ok_math_bits_TrailingZeros64 (by simp) ?_
  obtain ⟨hlow,hk⟩ := Lib.lowest_bit 64 x (by omega) h1
  obtain ⟨hi,htab⟩ := Lib.deBruijn64_at _ hk
  generalize Lib.ctz 64 x = k at *
  have hn : (0 - (x : Int)) % 18446744073709551616 = ((18446744073709551616 - x : Nat) : Int) := by omega
  have hb : (((x : Int).toNat &&& ((0 - (x : Int)) % 18446744073709551616).toNat : Nat) : Int) = ((2 ^ k : Nat) : Int) := by
    rw [hn,Int.toNat_natCast,Int.toNat_natCast]
    rw [show 18446744073709551616 - x = 2 ^ 64 - x from rfl,hlow]
  have hx : ((2 ^ k : Nat) : Int) * 285870213051353865 % 18446744073709551616 / ((2 ^ (58 : Int).toNat : Nat) : Int) = ((2 ^ k * 285870213051353865 % 18446744073709551616 / 288230376151711744 : Nat) : Int) := by
    rw [Int.natCast_ediv,Int.natCast_emod,Int.natCast_mul]; rfl
  generalize hidx : 2 ^ k * 285870213051353865 % 18446744073709551616 / 288230376151711744 = idx at *
  have h2 : (0 : Int) ≤ (0 - (x : Int)) % 18446744073709551616 ∧ (0 - (x : Int)) % 18446744073709551616 ≤ 18446744073709551615 := by omega
  have h3 : tabI.getD idx 0 = (k : Int) := by rw [tabI_get,htab]
  (repeat' ((conv => whnf); first | rw [hb] | rw [hx] | rw [Int.toNat_natCast] | rw [h3] | refine ⟨_,rdG hG (by rw [tabI_length]; exact hi),?_⟩ | (refine bcase_prop (fun h => ?_) (fun h => ?_) <;> try (exfalso; omega)) | (refine bcase_nprop (fun h => ?_) (fun h => ?_) <;> try (exfalso; omega)) | (refine bcase_intro (fun h => ?_) (fun h => ?_) <;> (try simp only [Bool.not_eq_true',Bool.not_eq_false',decide_eq_true_eq,decide_eq_false_iff_not,Bool.not_eq_true,Bool.not_eq_false,Decidable.not_not] at h)) | refine And.intro (by first | omega | exact rfl | assumption | exact ⟨rfl,rfl,rfl,rfl,rfl⟩ | exact ⟨rfl,rfl,rfl,rfl⟩ | exact ⟨rfl,by omega⟩ | exact oneAll_of rfl | exact ⟨rfl,oneAll_of rfl⟩ | exact Ref.refl _ | exact Thin.ref (.skip (Thin.refl _)) | exact Thin.ref (.skip (.skip (Thin.refl _))) | exact ⟨by omega,by omega,h2.1,h2.2⟩ | exact ⟨by decide,by show _ ≤ (64 : Int); decide⟩ | exact ⟨rfl,Nat.le_of_ble_eq_true rfl⟩ | ((try unfold maxLen); (try simp only [List.length_nil,List.length_cons,List.length_append]); omega) | (refine ⟨rfl,?_⟩; (try simp only [List.length_nil,List.length_cons,List.length_append]); omega)) ?_ | intro _)); (all_goals (conv => whnf))
  exact ⟨rfl⟩
theorem bitI_nat0 (x k : Nat) : bitI (x : Int) (k : Int) = ((x / 2 ^ k % 2 : Nat) : Int) := by
  unfold bitI
  rw [Int.toNat_natCast]
  norm_cast
theorem calls_fitting (c x y : Nat) (hc : c ≤ 122) (hx : x < 18446744073709551616) (hy : y < 18446744073709551616) (w : World) (hG : Tab w) :
    Calls Tryz.prog fn_keys_fitting #[.int .i64 c,.int .u64 x,.int .u64 y] w fun e w' => e = .returned (.int .i64 (fittingN x y c)) ∧ Ext w w' := by
  refine pure_call [.v (.int .i64 c),.v (.int .u64 x),.v (.int .u64 y)] w ok_keys_fitting (by simp) ?_
  have hd := diff_lt x y c
  have hxor : x ^^^ y < 2 ^ 64 := Nat.xor_lt_two_pow (by omega) (by omega)
  have hand : (x ^^^ y) &&& 2305843009213693951 < 2 ^ 61 := Nat.and_lt_two_pow _ (by decide)
  have c2 : (c : Int) / 2 = ((c / 2 : Nat) : Int) := by omega
  have hp : 2 ^ (c / 2) ≤ 2305843009213693952 := Nat.pow_le_pow_right (i := c / 2) (j := 61) (by decide) (by omega)
  have h32 : x / 2 ^ (c / 2) &&& 1 = x / 2 ^ (c / 2) % 2 := Nat.and_one_is_mod _
  have hle : (((x ^^^ y) &&& 2305843009213693951) / 2 ^ (c / 2)) * 2 ^ (c / 2) ≤ (x ^^^ y) &&& 2305843009213693951 := Nat.div_mul_le_self _ _
  have h31b : x / 2 ^ (c / 2) ≤ x := Nat.div_le_self _ _
  have h20b : ((x ^^^ y) &&& 2305843009213693951) / 2 ^ (c / 2) ≤ (x ^^^ y) &&& 2305843009213693951 := Nat.div_le_self _ _
  have hD : diffN x y c = if c % 2 = 1 ∧ x / 2 ^ (c / 2) % 2 = 0 then (((x ^^^ y) &&& 2305843009213693951) / 2 ^ (c / 2)) * 2 ^ (c / 2) ^^^ ((((x ^^^ y) &&& 2305843009213693951) / 2 ^ (c / 2)) * 2 ^ (c / 2) &&& 2 ^ (c / 2)) else (((x ^^^ y) &&& 2305843009213693951) / 2 ^ (c / 2)) * 2 ^ (c / 2) := rfl
  generalize hq : 2 ^ (c / 2) = q at *
  generalize hz : (x ^^^ y) &&& 2305843009213693951 = z at *
  have h20 : (z : Int) / (q : Int) = ((z / q : Nat) : Int) := by rw [Int.natCast_ediv]
  have h23 : ((z / q : Nat) : Int) * (q : Int) % 18446744073709551616 = ((z / q * q : Nat) : Int) := by
    rw [← Int.natCast_mul]
    generalize z / q * q = zz at hle
    omega
  have hz1 : z / q * q ≤ z := hle
  have h38 : (1 : Int) * (q : Int) % 18446744073709551616 = (q : Int) := by omega
  have h31 : (x : Int) / (q : Int) = ((x / q : Nat) : Int) := by rw [Int.natCast_ediv]
  generalize hd0 : z / q * q = d0 at *
  generalize hzq : z / q = zq at *
  generalize hxq : x / q = xq at *
  have hxd : d0 ^^^ (d0 &&& q) < 2 ^ 64 := Nat.xor_lt_two_pow (by omega) (Nat.lt_of_le_of_lt Nat.and_le_left (by omega))
  have hN : ∀ D,diffN x y c = D → ¬ x = y → ¬ c = 122 → fittingN x y c = if D = 0 then -1 else 2 * (Lib.ctz 64 D : Int) + (if x.testBit (Lib.ctz 64 D) then 1 else 0) := fun D hD h1 h2 => by
    unfold fittingN; rw [if_neg h1,if_neg h2,hD]
  have tz : ∀ D : Nat,D < 2 ^ 64 → ∃ k v : Nat,Lib.ctz 64 D = k ∧ (0 < D → k < 64) ∧ v ≤ 1 ∧ (if x.testBit k then 1 else 0) = v ∧ ((((x : Int) / ((2 ^ k : Nat) : Int)).toNat &&& 1 : Nat) : Int) = (v : Int) := fun D hD => by
    refine ⟨Lib.ctz 64 D,if x.testBit (Lib.ctz 64 D) then 1 else 0,rfl,fun h => (ctz_test h hD).2.1,by split <;> omega,rfl,?_⟩
    rw [← Int.natCast_ediv,Int.toNat_natCast,Nat.and_one_is_mod,← bitI_nat0,bitI_testN]
    split <;> rfl
  obtain ⟨k1,v1,hk1,hk1b,hv1,hv1d,hb1⟩ := tz d0 (by omega)
  obtain ⟨k2,v2,hk2,hk2b,hv2,hv2d,hb2⟩ := tz (d0 ^^^ (d0 &&& q)) (by omega)
  have hvi1 : (if x.testBit k1 then 1 else 0 : Int) = (v1 : Int) := by rw [← hv1d]; split <;> rfl
  have hvi2 : (if x.testBit k2 then 1 else 0 : Int) = (v2 : Int) := by rw [← hv2d]; split <;> rfl
  generalize hd2 : d0 ^^^ (d0 &&& q) = d2 at *
  have m61 : (2305843009213693951 : Int).toNat = 2305843009213693951 := rfl
  have m1 : (1 : Int).toNat = 1 := rfl
  (repeat' ((conv => whnf); first | rw [c2] | rw [Int.toNat_natCast] | rw [m61] | rw [m1] | rw [h20] | rw [h23] | rw [h38] | rw [h31] | rw [h32] | rw [hq] | rw [hz] | rw [hd2] | rw [hk1] | rw [hk2] | rw [hb1] | rw [hb2] | refine CallK_pure (.v _) (fun w hR => calls_tz _ (by omega) (by omega) w (hG.cast hR (by simp))) ?_ | (refine bcase_prop (fun h => ?_) (fun h => ?_) <;> try (exfalso; omega)) | (refine bcase_nprop (fun h => ?_) (fun h => ?_) <;> try (exfalso; omega)) | (refine bcase_intro (fun h => ?_) (fun h => ?_) <;> (try simp only [Bool.not_eq_true',Bool.not_eq_false',decide_eq_true_eq,decide_eq_false_iff_not,Bool.not_eq_true,Bool.not_eq_false,Decidable.not_not] at h)) | refine And.intro (by first | omega | exact rfl | assumption | exact ⟨rfl,rfl,rfl,rfl,rfl⟩ | exact ⟨rfl,rfl,rfl,rfl⟩ | exact ⟨rfl,by omega⟩ | exact oneAll_of rfl | exact ⟨rfl,oneAll_of rfl⟩ | exact Ref.refl _ | exact Thin.ref (.skip (Thin.refl _)) | exact Thin.ref (.skip (.skip (Thin.refl _))) | exact ⟨by omega,by show _ ≤ (64 : Int); omega⟩ | exact ⟨Int.ediv_nonneg (by omega) (Int.natCast_nonneg _),Int.le_trans (Int.ediv_le_self _ (by omega)) (by omega),by decide,by decide⟩ | exact ⟨rfl,Nat.le_of_ble_eq_true rfl⟩ | ((try unfold maxLen); (try simp only [List.length_nil,List.length_cons,List.length_append]); omega) | (refine ⟨rfl,?_⟩; (try simp only [List.length_nil,List.length_cons,List.length_append]); omega)) ?_ | intro _)); (all_goals (conv => whnf))
  · refine ⟨?_⟩
    unfold fittingN
    rw [if_pos (by omega)]
  · refine ⟨?_⟩
    unfold fittingN
    rw [if_neg (by omega),if_pos (by omega)]
  · rw [if_pos ⟨by omega,by omega⟩] at hD
    exact ⟨by rw [hN _ hD (by omega) (by omega),if_pos (by omega)]⟩
  · rw [if_pos ⟨by omega,by omega⟩] at hD
    exact ⟨by rw [hN _ hD (by omega) (by omega),if_neg (by omega),hk2,hvi2]⟩
  · rw [if_neg (by omega)] at hD
    exact ⟨by rw [hN _ hD (by omega) (by omega),if_pos (by omega)]⟩
  · rw [if_neg (by omega)] at hD
    exact ⟨by rw [hN _ hD (by omega) (by omega),if_neg (by omega),hk1,hvi1]⟩
  · rw [if_neg (by omega)] at hD
    exact ⟨by rw [hN _ hD (by omega) (by omega),if_pos (by omega)]⟩
  · rw [if_neg (by omega)] at hD
    exact ⟨by rw [hN _ hD (by omega) (by omega),if_neg (by omega),hk1,hvi1]⟩
theorem fittingN_range {x y c : Nat} (hc : c ≤ 122) : -1 ≤ fittingN x y c ∧ fittingN x y c ≤ 122 := by
  have h := fitting_least (x := x) (y := y) hc
  refine ⟨h.low,?_⟩
  by_cases h0 : 0 ≤ fittingN x y c
  · exact (h.some h0).2.1
  · omega
theorem calls_after (low x y : Nat) (hl : low ≤ 1152921504606846976) (hx : x < 18446744073709551616) (hy : y < 18446744073709551616) (w : World) (hG : Tab w) :
    Calls Tryz.prog fn_keys_after #[.int .i64 low,.int .u64 x,.int .u64 y] w fun e w' => e = .returned (.int .i64 (afterF low x y)) ∧ Ext w w' := by
  refine pure_call [.v (.int .i64 low),.v (.int .u64 x),.v (.int .u64 y)] w ok_keys_after (by simp) ?_
  rw [← afterN_eq]
  unfold afterN
  simp only
  have ej : (low : Int) / 2 + 1 = ((low / 2 + 1 : Nat) : Int) := by omega
  generalize hj : low / 2 + 1 = j at *
  have hjb : 1 ≤ j := by omega
  have ec : ((j : Int) - 1) % 123 = (((j - 1) % 123 : Nat) : Int) := by omega
  generalize hc : (j - 1) % 123 = c at *
  have hc1 : c ≤ 122 := by omega
  have r1 := fittingN_range (x := x) (y := y) hc1
  have r0 := fittingN_range (x := x) (y := y) (c := 0) (by omega)
  have k1 := fun w hG => calls_fitting c x y hc1 hx hy w hG
  have k0 := fun w hG => calls_fitting 0 x y (by omega) hx hy w hG
  generalize fittingN x y c = n1 at *
  generalize fittingN x y 0 = n0 at *
  (repeat' ((conv => whnf); first | rw [ej] | rw [ec] | refine CallK_pure (.v _) (fun w hR => k1 w (hG.cast hR (by simp))) ?_ | refine CallK_pure (.v _) (fun w hR => k0 w (hG.cast hR (by simp))) ?_ | (refine bcase_prop (fun h => ?_) (fun h => ?_) <;> try (exfalso; omega)) | (refine bcase_nprop (fun h => ?_) (fun h => ?_) <;> try (exfalso; omega)) | (refine bcase_intro (fun h => ?_) (fun h => ?_) <;> (try simp only [Bool.not_eq_true',Bool.not_eq_false',decide_eq_true_eq,decide_eq_false_iff_not,Bool.not_eq_true,Bool.not_eq_false,Decidable.not_not] at h)) | refine And.intro (by first | omega | exact rfl | assumption | exact ⟨rfl,rfl,rfl,rfl,rfl⟩ | exact ⟨rfl,rfl,rfl,rfl⟩ | exact ⟨rfl,by omega⟩ | exact oneAll_of rfl | exact ⟨rfl,oneAll_of rfl⟩ | exact Ref.refl _ | exact Thin.ref (.skip (Thin.refl _)) | exact Thin.ref (.skip (.skip (Thin.refl _))) | exact ⟨rfl,Nat.le_of_ble_eq_true rfl⟩ | ((try unfold maxLen); (try simp only [List.length_nil,List.length_cons,List.length_append]); omega) | (refine ⟨rfl,?_⟩; (try simp only [List.length_nil,List.length_cons,List.length_append]); omega)) ?_ | intro _)); (all_goals (conv => whnf))
  · exact ⟨by rw [if_pos h]⟩
  · rename_i h1
    exact ⟨by rw [if_neg h1,if_pos h]⟩
  · rename_i h1
    exact ⟨by rw [if_neg h1,if_neg h]⟩
theorem calls_rAfter (low : Int) (x y : Nat) (h0 : 0 ≤ low) (hl : low ≤ 1152921504606846976) (hx : x < 18446744073709551616) (hy : y < 18446744073709551616) (w : World) :
    Calls Tryz.prog fn_evergreenref20_After #[.int .i64 low,.int .u64 x,.int .u64 y] w fun e w' => e = .returned (.int .i64 (afterF low x y)) ∧ Ext w w' := by
  refine pure_call [.v (.int .i64 low),.v (.int .u64 x),.v (.int .u64 y)] w ok_evergreenref20_After (by simp) ?_
  (repeat' ((conv => whnf); first | (refine bcase_prop (fun h => ?_) (fun h => ?_) <;> try (exfalso; omega)) | (refine bcase_nprop (fun h => ?_) (fun h => ?_) <;> try (exfalso; omega)) | (refine bcase_intro (fun h => ?_) (fun h => ?_) <;> (try simp only [Bool.not_eq_true',Bool.not_eq_false',decide_eq_true_eq,decide_eq_false_iff_not,Bool.not_eq_true,Bool.not_eq_false,Decidable.not_not] at h)) | refine And.intro (by first | omega | exact rfl | assumption | exact ⟨rfl,rfl,rfl,rfl,rfl⟩ | exact ⟨rfl,rfl,rfl,rfl⟩ | exact ⟨rfl,by omega⟩ | exact oneAll_of rfl | exact ⟨rfl,oneAll_of rfl⟩ | exact Ref.refl _ | exact Thin.ref (.skip (Thin.refl _)) | exact Thin.ref (.skip (.skip (Thin.refl _))) | exact ⟨rfl,Nat.le_of_ble_eq_true rfl⟩ | ((try unfold maxLen); (try simp only [List.length_nil,List.length_cons,List.length_append]); omega) | (refine ⟨rfl,?_⟩; (try simp only [List.length_nil,List.length_cons,List.length_append]); omega)) ?_ | intro _)); (all_goals (conv => whnf))
  refine VC_loop Nat (fun i => [(0,.v (.int .i64 low)),(1,.v (.int .u64 x)),(2,.v (.int .u64 y)),(7,.v (.int .i64 (i + 1)))]) (fun _ => []) (fun i => i ≤ 246 ∧ afterF low x y = srch (fitsF x y) (246 - i) (low + 1 + i)) (fun i => 246 - i) 0 ⟨by omega,by simp [afterF]⟩ (by (repeat ((conv => whnf); refine And.intro (by first | exact rfl | exact vint_eq (by omega) | exact vint_eq (by (dsimp only; omega)) | exact vsl_eq (by omega) | exact vsl_eq (by first | (dsimp only; omega) | (simp; done) | (simp; omega))) ?_)); exact trivial) (.refl _) ?_
  rintro i ⟨hi,hs⟩
  by_cases h1 : i < 246
  · have hs2 : srch (fitsF x y) (246 - i) (low + 1 + i) = if fitsF x y (low + 1 + i) = true then low + 1 + i else srch (fitsF x y) (246 - (i + 1)) (low + 1 + i + 1) := by
      rw [show 246 - i = (246 - (i + 1)) + 1 from by omega]; rfl
    have he : low + ((i : Int) + 1) = low + 1 + i := by omega
    (repeat' ((conv => whnf); first | rw [he] | refine CallK_pure (.v _) (fun w hR => calls_rFits x y _ w (by omega) (by omega) (by omega)) ?_ | (refine bcase_prop (fun h => ?_) (fun h => ?_) <;> try (exfalso; omega)) | (refine bcase_nprop (fun h => ?_) (fun h => ?_) <;> try (exfalso; omega)) | (refine bcase_intro (fun h => ?_) (fun h => ?_) <;> (try simp only [Bool.not_eq_true',Bool.not_eq_false',decide_eq_true_eq,decide_eq_false_iff_not,Bool.not_eq_true,Bool.not_eq_false,Decidable.not_not] at h)) | refine And.intro (by first | omega | exact rfl | assumption | exact ⟨rfl,rfl,rfl,rfl,rfl⟩ | exact ⟨rfl,rfl,rfl,rfl⟩ | exact ⟨rfl,by omega⟩ | exact oneAll_of rfl | exact ⟨rfl,oneAll_of rfl⟩ | exact Ref.refl _ | exact Thin.ref (.skip (Thin.refl _)) | exact Thin.ref (.skip (.skip (Thin.refl _))) | exact ⟨rfl,Nat.le_of_ble_eq_true rfl⟩ | ((try unfold maxLen); (try simp only [List.length_nil,List.length_cons,List.length_append]); omega) | (refine ⟨rfl,?_⟩; (try simp only [List.length_nil,List.length_cons,List.length_append]); omega)) ?_ | intro _)); (all_goals (conv => whnf))
    · exact ⟨by rw [hs,hs2,if_pos h]⟩
    · refine loop_next (i + 1) ⟨by omega,?_⟩ (by show 246 - (i + 1) < _; omega) (by (repeat ((conv => whnf); refine And.intro (by first | exact rfl | exact vint_eq (by omega) | exact vint_eq (by (dsimp only; omega)) | exact vsl_eq (by omega) | exact vsl_eq (by first | (dsimp only; omega) | (simp; done) | (simp; omega))) ?_)); exact trivial) (.refl _)
      rw [hs,hs2,if_neg (by rw [h]; simp)]
      congr 1
      omega
  · (repeat' ((conv => whnf); first | (refine bcase_prop (fun h => ?_) (fun h => ?_) <;> try (exfalso; omega)) | (refine bcase_nprop (fun h => ?_) (fun h => ?_) <;> try (exfalso; omega)) | (refine bcase_intro (fun h => ?_) (fun h => ?_) <;> (try simp only [Bool.not_eq_true',Bool.not_eq_false',decide_eq_true_eq,decide_eq_false_iff_not,Bool.not_eq_true,Bool.not_eq_false,Decidable.not_not] at h)) | refine And.intro (by first | omega | exact rfl | assumption | exact ⟨rfl,rfl,rfl,rfl,rfl⟩ | exact ⟨rfl,rfl,rfl,rfl⟩ | exact ⟨rfl,by omega⟩ | exact oneAll_of rfl | exact ⟨rfl,oneAll_of rfl⟩ | exact Ref.refl _ | exact Thin.ref (.skip (Thin.refl _)) | exact Thin.ref (.skip (.skip (Thin.refl _))) | exact ⟨rfl,Nat.le_of_ble_eq_true rfl⟩ | ((try unfold maxLen); (try simp only [List.length_nil,List.length_cons,List.length_append]); omega) | (refine ⟨rfl,?_⟩; (try simp only [List.length_nil,List.length_cons,List.length_append]); omega)) ?_ | intro _)); (all_goals (conv => whnf))
    exact ⟨by rw [hs,show 246 - i = 0 from by omega]; rfl⟩
end Go.Proofs.YtkkhpdkfploodaaGreatDoor
/- Keys and levels of what rules derive. Plain Lean: no program in sight. -/
namespace Go.Proofs.YtkkhpdkfploodaaGreatDoor
open Go.EG
set_option linter.unusedSimpArgs false
set_option linter.unusedVariables false
def Tm.key : Tm → Nat
  | .nil => 0
  | .lt l => mixN 1 l 0
  | .pr a b => mixN 2 a.key b.key
  | .pw a k => mixN 3 a.key k
def Tm.level : Tm → Int
  | .nil => 0
  | .lt _ => 0
  | .pr a b => if a ≠ b ∧ 0 ≤ a.level ∧ 0 ≤ b.level then afterF (max a.level b.level) a.key b.key else -1
  | .pw a _ => if 0 ≤ a.level ∧ a.level % 2 = 0 then a.level + 1 else -1
theorem Tm.key_lt (m : Tm) : m.key < PP := by
  cases m
  · exact (by decide : 0 < PP)
  · exact mixN_lt _ _ _
  · exact mixN_lt _ _ _
  · exact mixN_lt _ _ _
theorem Tm.key_lt' (m : Tm) : m.key < 18446744073709551616 := Nat.lt_trans m.key_lt (by decide)
theorem afterF_le (low x y : Int) (h : 0 ≤ low) : 0 ≤ afterF low x y ∧ afterF low x y ≤ low + 246 := by
  have key : ∀ (n : Nat) (p : Int → Bool) (k : Int),0 ≤ k → 0 ≤ srch p n k ∧ srch p n k ≤ k + n - 1 ∨ srch p n k = 0 := by
    intro n
    induction n with
    | zero => intro p k hk; exact .inr rfl
    | succ n ih =>
      intro p k hk
      have e : srch p (n + 1) k = if p k = true then k else srch p n (k + 1) := rfl
      rw [e]
      split
      · exact .inl ⟨hk,by omega⟩
      · rcases ih p (k + 1) (by omega) with h | h
        · exact .inl ⟨h.1,by omega⟩
        · exact .inr h
  rcases key 246 (fitsF x y) (low + 1) (by omega) with h1 | h1
  · have : afterF low x y = srch (fitsF x y) 246 (low + 1) := rfl
    omega
  · have : afterF low x y = srch (fitsF x y) 246 (low + 1) := rfl
    omega
theorem WF.lev {S : Sto} (h : WF S) : ∀ (k : Nat) (n : Int),n = k → 1 ≤ n → n ≤ S.E.length → -1 ≤ (tm S.E n).level ∧ (tm S.E n).level ≤ 246 * k := by
  intro k
  induction k using Nat.strongRecOn with
  | ind k ih =>
    intro n hk h0 h1
    obtain ⟨hr,_,ht,_⟩ := h.at_ h0 h1
    rw [ht]
    unfold mkT
    rcases hr with hr | ⟨h1',h2',h3',h4',h5',h6',h7'⟩ | ⟨h1',h2',h3',h4',h5',h6'⟩
    · rw [if_pos hr.1]; exact ⟨by simp [Tm.level],by simp [Tm.level]; omega⟩
    · rw [if_neg (by omega),if_pos h1']
      have i1 := ih (atE S.E n).r.a.toNat (by omega) (atE S.E n).r.a (by omega) h4' (by omega)
      have i2 := ih (atE S.E n).r.b.toNat (by omega) (atE S.E n).r.b (by omega) h6' (by omega)
      simp only [Tm.level]
      split
      · rename_i hc
        have := afterF_le (max (tm S.E (atE S.E n).r.a).level (tm S.E (atE S.E n).r.b).level) (tm S.E (atE S.E n).r.a).key (tm S.E (atE S.E n).r.b).key (by omega)
        omega
      · omega
    · rw [if_neg (by omega),if_neg (by omega)]
      have i1 := ih (atE S.E n).r.a.toNat (by omega) (atE S.E n).r.a (by omega) h5' (by omega)
      simp only [Tm.level]
      split <;> omega
theorem WF.lev' {S : Sto} (h : WF S) {n : Int} (h0 : 0 ≤ n) (h1 : n ≤ S.E.length) : -1 ≤ (tm S.E n).level ∧ (tm S.E n).level ≤ 257949696 := by
  by_cases hz : n = 0
  · subst hz; rw [tm_zero]; exact ⟨by decide,by decide⟩
  · have := h.lev n.toNat n (by omega) (by omega) h1
    have := h.small
    omega
theorem WF.inj {S : Sto} (h : WF S) : ∀ (k : Nat) (i j : Int),i = k → 1 ≤ i → i ≤ S.E.length → 1 ≤ j → j ≤ S.E.length → tm S.E i = tm S.E j → i = j := by
  intro k
  induction k using Nat.strongRecOn with
  | ind k ih =>
    intro i j hk h0 h1 k0 k1 he
    obtain ⟨hr,hl,ht,_,hu⟩ := h.at_ h0 h1
    obtain ⟨hr',hl',ht',_,hu'⟩ := h.at_ k0 k1
    rw [ht,ht'] at he
    have hrul : (atE S.E i).r = (atE S.E j).r := by
      unfold mkT at he
      generalize (atE S.E i).r = r at *
      generalize (atE S.E j).r = r' at *
      obtain ⟨rk,rl,ra,rb,rt⟩ := r
      obtain ⟨rk',rl',ra',rb',rt'⟩ := r'
      simp only [okR] at hr hr'
      dsimp only at he hl hl'
      rcases hr with ⟨e1,e2,e3,e4,_⟩ | ⟨e1,e2,e3,e4,e5,e6,e7⟩ | ⟨e1,e2,e3,e4,e5,e6⟩
      · rw [if_pos e1] at he
        rcases hr' with ⟨e1',e2',e3',e4',_⟩ | ⟨e1',e2',e3',e4',e5',e6',e7'⟩ | ⟨e1',e2',e3',e4',e5',e6'⟩
        · rw [if_pos e1'] at he
          injection he with he
          have : rl = rl' := by omega
          subst this e1 e2 e3 e4 e1' e2' e3' e4'
          rfl
        · rw [if_neg (by omega),if_pos e1'] at he; cases he
        · rw [if_neg (by omega),if_neg (by omega)] at he; cases he
      · rw [if_neg (by omega),if_pos e1] at he
        rcases hr' with ⟨e1',e2',e3',e4',_⟩ | ⟨e1',e2',e3',e4',e5',e6',e7'⟩ | ⟨e1',e2',e3',e4',e5',e6'⟩
        · rw [if_pos e1'] at he; cases he
        · rw [if_neg (by omega),if_pos e1'] at he
          injection he with he1 he2
          have q1 := ih ra.toNat (by omega) ra ra' (by omega) (by omega) (by omega) (by omega) (by omega) he1
          have q2 := ih rb.toNat (by omega) rb rb' (by omega) (by omega) (by omega) (by omega) (by omega) he2
          subst q1 q2 e1 e2 e3 e1' e2' e3'
          rfl
        · rw [if_neg (by omega),if_neg (by omega)] at he; cases he
      · rw [if_neg (by omega),if_neg (by omega)] at he
        rcases hr' with ⟨e1',e2',e3',e4',_⟩ | ⟨e1',e2',e3',e4',e5',e6',e7'⟩ | ⟨e1',e2',e3',e4',e5',e6'⟩
        · rw [if_pos e1'] at he; cases he
        · rw [if_neg (by omega),if_pos e1'] at he; cases he
        · rw [if_neg (by omega),if_neg (by omega)] at he
          injection he with he1 he2
          have q1 := ih ra.toNat (by omega) ra ra' (by omega) (by omega) (by omega) (by omega) (by omega) he1
          have q2 : rt = rt' := by omega
          subst q1 q2 e1 e2 e3 e1' e2' e3'
          rfl
    rw [hrul] at hu
    rw [hu] at hu'
    omega
theorem WF.inj_iff {S : Sto} (h : WF S) {i j : Int} (h0 : 1 ≤ i) (h1 : i ≤ S.E.length) (k0 : 1 ≤ j) (k1 : j ≤ S.E.length) : tm S.E i = tm S.E j ↔ i = j :=
  ⟨h.inj i.toNat i j (by omega) h0 h1 k0 k1,fun h => by rw [h]⟩
abbrev Krow : Type := Nat × Int × Bool
def row0 : Krow := (0,0,false)
def rowT (m : Tm) : Krow := (m.key,m.level,true)
abbrev krC (x : Krow) : List Value := [.int .u64 x.1,.int .i64 x.2.1,.bool x.2.2]
def krsC (l : List Krow) : List Value := l.flatMap krC
theorem krsC_length : ∀ g : List Krow,(krsC g).length = g.length * 3
  | [] => rfl
  | x :: g => by
    have := krsC_length g
    simp only [krsC,List.flatMap_cons,List.length_append,List.length_cons,List.length_nil] at this ⊢
    omega
theorem krsC_at : ∀ {g : List Krow} {i : Nat},i < g.length → ((krsC g).drop (i * 3)).take 3 = krC (g.getD i row0)
  | x :: g,0,_ => by simp [krsC,krC]
  | x :: g,i + 1,h => by
    have ih := krsC_at (g := g) (i := i) (by simpa using h)
    have e1 : krsC (x :: g) = krC x ++ krsC g := by simp [krsC]
    rw [e1,show (i + 1) * 3 = (krC x).length + i * 3 by simp [krC]; omega,← List.drop_drop,List.drop_left]
    simpa using ih
theorem krsC_known {g : List Krow} {i : Nat} (h : i < g.length) : (krsC g)[i * 3 + 2]? = some (.bool (g.getD i row0).2.2) := by
  have := congrArg (fun l => l[2]?) (krsC_at h)
  simpa [krC] using this
theorem krsC_zeros (g : List Krow) (m : Nat) : krsC g ++ (List.replicate m [Value.int .u64 0,.int .i64 0,.bool false]).flatten = krsC (g ++ List.replicate m row0) := by
  have e : (List.replicate m [Value.int .u64 0,.int .i64 0,.bool false]).flatten = krsC (List.replicate m row0) := by
    induction m with
    | zero => rfl
    | succ m ih => rw [List.replicate_succ,List.replicate_succ,List.flatten_cons,ih]; rfl
  rw [e]
  simp [krsC]
theorem krsC_set : ∀ {g : List Krow} {i : Nat} {x : Krow},i < g.length → splice (krsC g) (i * 3) (krC x) = krsC (g.set i x)
  | y :: g,0,x,_ => by simp [krsC,krC,splice]
  | y :: g,i + 1,x,h => by
    have ih := krsC_set (g := g) (i := i) (x := x) (by simpa using h)
    have e1 : krsC (y :: g) = krC y ++ krsC g := by simp [krsC]
    have e2 : krsC ((y :: g).set (i + 1) x) = krC y ++ krsC (g.set i x) := by simp [krsC]
    rw [e1,e2,← ih]
    unfold splice
    rw [show (i + 1) * 3 = i * 3 + 1 + 1 + 1 by omega,show i * 3 + 1 + 1 + 1 + (krC x).length = (i * 3 + (krC x).length) + 1 + 1 + 1 by omega]
    rfl
def TI (E : List Entr) (rows : List Krow) : Prop :=
  rows.length ≤ E.length + 1 ∧ ∀ i,i < rows.length → rows.getD i row0 = row0 ∨ (1 ≤ i ∧ rows.getD i row0 = rowT (tm E i))
theorem TI.nil (E : List Entr) : TI E [] := ⟨Nat.zero_le _,fun i h => absurd h (Nat.not_lt_zero i)⟩
theorem TI.mono {E E' : List Entr} {rows : List Krow} (h : TI E rows) : TI (E ++ E') rows := by
  refine ⟨by rw [List.length_append]; have := h.1; omega,fun i hi => ?_⟩
  rcases h.2 i hi with h1 | ⟨h1,h2⟩
  · exact .inl h1
  · exact .inr ⟨h1,by rw [tm_append (by have := h.1; omega)]; exact h2⟩
theorem TI.zeros {E : List Entr} {rows : List Krow} (h : TI E rows) {m : Nat} (hm : rows.length + m ≤ E.length + 1) : TI E (rows ++ List.replicate m row0) := by
  refine ⟨by simp; exact hm,fun i hi => ?_⟩
  by_cases hl : i < rows.length
  · rw [getD_append_left hl]; exact h.2 i hl
  · left
    rw [List.getD_eq_getElem?_getD,List.getElem?_append_right (by omega),List.getElem?_replicate]
    split <;> rfl
theorem getD_set {α : Type} {l : List α} {i j : Nat} {x d : α} (h : i < l.length) : (l.set i x).getD j d = if i = j then x else l.getD j d := by
  rw [List.getD_eq_getElem?_getD,List.getElem?_set,List.getD_eq_getElem?_getD]
  split
  · rfl
  · rfl
theorem TI.set {E : List Entr} {rows : List Krow} (h : TI E rows) {x : Nat} (h1 : 1 ≤ x) (h2 : x < rows.length) : TI E (rows.set x (rowT (tm E x))) := by
  refine ⟨by simpa using h.1,fun i hi => ?_⟩
  rw [List.length_set] at hi
  rw [getD_set h2]
  split
  · rename_i he
    subst he
    exact .inr ⟨h1,rfl⟩
  · exact h.2 i hi
theorem TI.at0 {E : List Entr} {rows : List Krow} (h : TI E rows) (h0 : 0 < rows.length) : rows.getD 0 row0 = row0 := by
  rcases h.2 0 h0 with h | h
  · exact h
  · omega
def unk (rows : List Krow) : Nat := rows.countP fun r => !r.2.2
theorem unk_set {rows : List Krow} {x : Nat} {m : Tm} (h : x < rows.length) (hu : rows.getD x row0 = row0) : unk (rows.set x (rowT m)) + 1 = unk rows := by
  unfold unk
  rw [List.countP_set h]
  have h1 : rows[x] = row0 := by
    rw [List.getD_eq_getElem?_getD,List.getElem?_eq_getElem h] at hu
    exact hu
  rw [h1]
  have hp : 0 < rows.countP fun r => !r.2.2 := List.countP_pos_iff.2 ⟨rows[x],List.getElem_mem h,by rw [h1]; rfl⟩
  simp [row0,rowT]
  omega
end Go.Proofs.YtkkhpdkfploodaaGreatDoor
/- The table of keys: what it holds,how it lies on the heap,its functions. Condition where levels are searched: the listed table's variable holds it. -/
namespace Go.Proofs.YtkkhpdkfploodaaGreatDoor
open Go.EG
attribute [local irreducible] CallK QCall Go.Calls
set_option linter.unusedSimpArgs false
set_option linter.unusedVariables false
set_option maxRecDepth 20000
set_option maxHeartbeats 1000000
structure TabG (E : List Entr) where
  rows : List Krow
  ok : TI E rows
  a : Option Addr
  c : Nat
def fT (bt bs : Nat) (E : List Entr) (x : TabG E) : List Ent :=
  [.box 2000 bt [pS bs,.slice x.a x.rows.length x.c] ty_keys_Table,.own 2001 x.a x.rows.length x.c ty_keys_row 3 (krsC x.rows)]
theorem fT_eq (bt bs : Nat) (E : List Entr) (rows : List Krow) (ok : TI E rows) (a : Option Addr) (c : Nat) : fT bt bs E ⟨rows,ok,a,c⟩ = [.box 2000 bt [pS bs,.slice a rows.length c] ty_keys_Table,.own 2001 a rows.length c ty_keys_row 3 (krsC rows)] := rfl
abbrev TabF (w : World) (fp : List Nat) : Prop := In w fp (some ⟨0,0,none⟩) (ints .u8 tabI)
theorem rdP {w0 : World} {fp0 : List Nat} {L : List Ent} {g : Nat} {xs : List Value} {i : Nat} {v : Value} (hx : In w0 fp0 (some ⟨g,0,none⟩) xs) (h : xs[i]? = some v) : Rd w0 fp0 L (.v (.pointer (some ((⟨g,0,none⟩ : Addr).add i)))) [v] :=
  hx.rd h
theorem calls_compute (S : Sto) (hw : WF S) (n : Int) (h1 : 1 ≤ n) (h2 : n ≤ S.E.length) (ht : (atE S.E n).r.t ≤ 9223372036854775807) (bt bs : Nat) (rows : List Krow) (hT : TI S.E rows) (a : Option Addr) (c : Nat)
    (ha : (atE S.E n).r.a < rows.length) (hb : (atE S.E n).r.b < rows.length) (ka : 1 ≤ (atE S.E n).r.a → rows.getD (atE S.E n).r.a.toNat row0 = rowT (tm S.E (atE S.E n).r.a)) (kb : 1 ≤ (atE S.E n).r.b → rows.getD (atE S.E n).r.b.toNat row0 = rowT (tm S.E (atE S.E n).r.b))
    (w : World) (hbox : In w [] (some ⟨bt,0,none⟩) [pS bs,.slice a rows.length c]) (hrow : In w [] a (krsC rows)) (hG : Tab w) :
    Calls Tryz.prog fn_P_keys_Table_compute #[pS bt,ruV (atE S.E n).r] w fun e w' => e = .returned (.agg (krC (rowT (tm S.E n))).toArray) ∧ Ext w w' := by
  refine pure_call [.v (pS bt),.v (ruV (atE S.E n).r)] w ok_P_keys_Table_compute (by simp) ?_
  obtain ⟨hr,hl,htm,_,_⟩ := hw.at_ h1 h2
  have e0 : ∀ i : Int,i = 0 → (rows.getD i.toNat row0).1 = (tm S.E i).key ∧ (rows.getD i.toNat row0).2.1 = (tm S.E i).level := fun i hi => by
    subst hi
    have := hT.at0 (by rcases hr with h | h | h <;> omega)
    rw [show (0 : Int).toNat = 0 from rfl,this]; exact ⟨rfl,rfl⟩
  have ea : (rows.getD (atE S.E n).r.a.toNat row0).1 = (tm S.E (atE S.E n).r.a).key ∧ (rows.getD (atE S.E n).r.a.toNat row0).2.1 = (tm S.E (atE S.E n).r.a).level := by
    by_cases h : 1 ≤ (atE S.E n).r.a
    · rw [ka h]; exact ⟨rfl,rfl⟩
    · exact e0 _ (by rcases hr with h | h | h <;> omega)
  have eb : (rows.getD (atE S.E n).r.b.toNat row0).1 = (tm S.E (atE S.E n).r.b).key ∧ (rows.getD (atE S.E n).r.b.toNat row0).2.1 = (tm S.E (atE S.E n).r.b).level := by
    by_cases h : 1 ≤ (atE S.E n).r.b
    · rw [kb h]; exact ⟨rfl,rfl⟩
    · exact e0 _ (by rcases hr with h | h | h <;> omega)
  have hinj := fun q1 q2 q3 q4 => hw.inj_iff (i := (atE S.E n).r.a) (j := (atE S.E n).r.b) q1 q2 q3 q4
  have la : 0 ≤ (atE S.E n).r.a ∧ (atE S.E n).r.a < n := by rcases hr with h | h | h <;> omega
  have lb : 0 ≤ (atE S.E n).r.b ∧ (atE S.E n).r.b < n := by rcases hr with h | h | h <;> omega
  have va := hw.lev' la.1 (by omega)
  have vb := hw.lev' lb.1 (by omega)
  have ba := (tm S.E (atE S.E n).r.a).key_lt'
  have bb := (tm S.E (atE S.E n).r.b).key_lt'
  rw [htm]
  unfold mkT
  generalize (atE S.E n).r = r at *
  simp only [okR] at hr
  have hne := hrow.ne' (k := 0) (by rw [krsC_length]; omega)
  have rda := fun {L : List Ent} => hrow.rdn (L := L) (vs := krC (rows.getD r.a.toNat row0)) (k := r.a.toNat * 3) (Nat.succ_pos _) (krsC_at (by omega))
  have rdb := fun {L : List Ent} => hrow.rdn (L := L) (vs := krC (rows.getD r.b.toNat row0)) (k := r.b.toNat * 3) (Nat.succ_pos _) (krsC_at (by omega))
  have rds := fun {L : List Ent} => rdP (L := L) hbox (i := 1) rfl
  obtain ⟨ea1,ea2⟩ := ea
  obtain ⟨eb1,eb2⟩ := eb
  generalize rows.getD r.a.toNat row0 = xa at *
  generalize rows.getD r.b.toNat row0 = xb at *
  generalize tm S.E r.a = ta at *
  generalize tm S.E r.b = tb at *
  rw [← ea1] at ba
  rw [← eb1] at bb
  rw [← ea2] at va
  rw [← eb2] at vb
  rcases hr with ⟨e1,e2,e3,e4,_⟩ | ⟨e1,e2,e3,e4,e5,e6,e7⟩ | ⟨e1,e2,e3,e4,e5,e6⟩
  · rw [if_pos e1]
    have c1 := calls_mMix 1 r.l.toNat 0 (by decide) (by omega) (by decide)
    have q : r.l % 18446744073709551616 = (r.l.toNat : Int) := by omega
    (repeat' ((conv => whnf); first | rw [q] | refine ⟨_,_,_,rds,?_⟩ | refine ⟨_,⟨rfl,trivial⟩,?_⟩ | refine ⟨_,rfl,rda,?_⟩ | refine ⟨_,rfl,rdb,?_⟩ | (first | refine CallK_pure (.v _) (fun w hR => c1 w) ?_ | refine QCall_pure (.v _) (fun w hR => c1 w) ?_) | refine stop_and ?_ ?_ | (refine bcase_prop (fun h => ?_) (fun h => ?_) <;> try (exfalso; omega)) | (refine bcase_nprop (fun h => ?_) (fun h => ?_) <;> try (exfalso; omega)) | (refine bcase_intro (fun h => ?_) (fun h => ?_) <;> (try simp only [Bool.not_eq_true',Bool.not_eq_false',decide_eq_true_eq,decide_eq_false_iff_not,Bool.not_eq_true,Bool.not_eq_false,Decidable.not_not] at h)) | refine And.intro (by first | omega | exact rfl | assumption | exact ⟨rfl,rfl,rfl,rfl,rfl⟩ | exact ⟨rfl,rfl,rfl,rfl⟩ | exact ⟨rfl,by omega⟩ | exact oneAll_of rfl | exact ⟨rfl,oneAll_of rfl⟩ | exact Ref.refl _ | exact Thin.ref (.skip (Thin.refl _)) | exact Thin.ref (.skip (.skip (Thin.refl _))) | exact hne | exact Option.some_ne_none _ | (intro _; exact Thin.ref (by (repeat (first | exact Thin.nil _ | exact Thin.refl _ | refine Thin.keep rfl (fun _ h => h) ?_ | refine Thin.skip ?_)))) | exact ⟨rfl,Nat.le_of_ble_eq_true rfl⟩ | ((try unfold maxLen); (try simp only [List.length_nil,List.length_cons,List.length_append]); omega) | (refine ⟨rfl,?_⟩; (try simp only [List.length_nil,List.length_cons,List.length_append]); omega)) ?_ | intro _)); (all_goals (conv => whnf))
    all_goals exact ⟨rfl⟩
  · rw [if_neg (by omega),if_pos e1]
    have c1 := calls_mMix 2 xa.1 xb.1 (by decide) ba bb
    have c2 := fun (h1 : 0 ≤ xa.2.1) (h2 : 0 ≤ xb.2.1) => calls_after (max xa.2.1 xb.2.1).toNat xa.1 xb.1 (by omega) ba bb
    have em : 0 ≤ xa.2.1 → ((max xa.2.1 xb.2.1).toNat : Int) = max xa.2.1 xb.2.1 := fun h => by omega
    have hi := hinj e4 (by omega) e6 (by omega)
    have hlv : (Tm.pr ta tb).level = if ta ≠ tb ∧ 0 ≤ ta.level ∧ 0 ≤ tb.level then afterF (max ta.level tb.level) ta.key tb.key else -1 := rfl
    have hky : (Tm.pr ta tb).key = mixN 2 ta.key tb.key := rfl
    unfold rowT
    rw [hlv,hky,← ea1,← ea2,← eb1,← eb2]
    clear hlv hky
    (repeat' ((conv => whnf); first | refine ⟨_,_,_,rds,?_⟩ | refine ⟨_,⟨rfl,trivial⟩,?_⟩ | refine ⟨_,rfl,rda,?_⟩ | refine ⟨_,rfl,rdb,?_⟩ | (first | refine CallK_pure (.v _) (fun w hR => c1 w) ?_ | refine QCall_pure (.v _) (fun w hR => c1 w) ?_) | (rw [← em (by omega)]; refine CallK_pure (.v _) (fun w hR => c2 (by omega) (by omega) w (hG.cast hR (by simp))) ?_) | refine stop_and ?_ ?_ | (refine bcase_prop (fun h => ?_) (fun h => ?_) <;> try (exfalso; omega)) | (refine bcase_nprop (fun h => ?_) (fun h => ?_) <;> try (exfalso; omega)) | (refine bcase_intro (fun h => ?_) (fun h => ?_) <;> (try simp only [Bool.not_eq_true',Bool.not_eq_false',decide_eq_true_eq,decide_eq_false_iff_not,Bool.not_eq_true,Bool.not_eq_false,Decidable.not_not] at h)) | refine And.intro (by first | omega | exact rfl | assumption | exact ⟨rfl,rfl,rfl,rfl,rfl⟩ | exact ⟨rfl,rfl,rfl,rfl⟩ | exact ⟨rfl,by omega⟩ | exact oneAll_of rfl | exact ⟨rfl,oneAll_of rfl⟩ | exact Ref.refl _ | exact Thin.ref (.skip (Thin.refl _)) | exact Thin.ref (.skip (.skip (Thin.refl _))) | exact hne | exact Option.some_ne_none _ | (intro _; exact Thin.ref (by (repeat (first | exact Thin.nil _ | exact Thin.refl _ | refine Thin.keep rfl (fun _ h => h) ?_ | refine Thin.skip ?_)))) | exact ⟨rfl,Nat.le_of_ble_eq_true rfl⟩ | ((try unfold maxLen); (try simp only [List.length_nil,List.length_cons,List.length_append]); omega) | (refine ⟨rfl,?_⟩; (try simp only [List.length_nil,List.length_cons,List.length_append]); omega)) ?_ | intro _)); (all_goals (conv => whnf))
    all_goals (refine ⟨?_⟩; first | (rw [if_pos ⟨fun h => absurd (hi.1 h) (by omega),by omega,by omega⟩,em (by omega)]; exact rfl) | (rw [if_neg (fun h => by omega)]; exact rfl) | (rw [if_neg (fun h => h.1 (hi.2 (by omega)))]; exact rfl))
  · rw [if_neg (by omega),if_neg (by omega)]
    have c1 := calls_mMix 3 xa.1 r.t.toNat (by decide) ba (by omega)
    have q : r.t % 18446744073709551616 = (r.t.toNat : Int) := by omega
    have hlv : (Tm.pw ta r.t.toNat).level = if 0 ≤ ta.level ∧ ta.level % 2 = 0 then ta.level + 1 else -1 := rfl
    have hky : (Tm.pw ta r.t.toNat).key = mixN 3 ta.key r.t.toNat := rfl
    unfold rowT
    rw [hlv,hky,← ea1,← ea2]
    clear hlv hky
    (repeat' ((conv => whnf); first | rw [q] | refine ⟨_,_,_,rds,?_⟩ | refine ⟨_,⟨rfl,trivial⟩,?_⟩ | refine ⟨_,rfl,rda,?_⟩ | refine ⟨_,rfl,rdb,?_⟩ | (first | refine CallK_pure (.v _) (fun w hR => c1 w) ?_ | refine QCall_pure (.v _) (fun w hR => c1 w) ?_) | refine stop_and ?_ ?_ | (refine bcase_prop (fun h => ?_) (fun h => ?_) <;> try (exfalso; omega)) | (refine bcase_nprop (fun h => ?_) (fun h => ?_) <;> try (exfalso; omega)) | (refine bcase_intro (fun h => ?_) (fun h => ?_) <;> (try simp only [Bool.not_eq_true',Bool.not_eq_false',decide_eq_true_eq,decide_eq_false_iff_not,Bool.not_eq_true,Bool.not_eq_false,Decidable.not_not] at h)) | refine And.intro (by first | omega | exact rfl | assumption | exact ⟨rfl,rfl,rfl,rfl,rfl⟩ | exact ⟨rfl,rfl,rfl,rfl⟩ | exact ⟨rfl,by omega⟩ | exact oneAll_of rfl | exact ⟨rfl,oneAll_of rfl⟩ | exact Ref.refl _ | exact Thin.ref (.skip (Thin.refl _)) | exact Thin.ref (.skip (.skip (Thin.refl _))) | exact hne | exact Option.some_ne_none _ | (intro _; exact Thin.ref (by (repeat (first | exact Thin.nil _ | exact Thin.refl _ | refine Thin.keep rfl (fun _ h => h) ?_ | refine Thin.skip ?_)))) | exact ⟨rfl,Nat.le_of_ble_eq_true rfl⟩ | ((try unfold maxLen); (try simp only [List.length_nil,List.length_cons,List.length_append]); omega) | (refine ⟨rfl,?_⟩; (try simp only [List.length_nil,List.length_cons,List.length_append]); omega)) ?_ | intro _)); (all_goals (conv => whnf))
    all_goals (refine ⟨?_⟩; first | (rw [if_pos ⟨by omega,by omega⟩]; exact rfl) | (rw [if_neg (fun h => by omega)]; exact rfl))
end Go.Proofs.YtkkhpdkfploodaaGreatDoor
/- The table of keys: a row is looked up,and computed if it is not known. -/
namespace Go.Proofs.YtkkhpdkfploodaaGreatDoor
open Go.EG
attribute [local irreducible] CallK QCall Go.Calls
set_option linter.unusedSimpArgs false
set_option linter.unusedVariables false
set_option maxRecDepth 20000
set_option maxHeartbeats 1000000
theorem WF.tim {S : Sto} (h : WF S) {n : Int} (h1 : 1 ≤ n) (h2 : n ≤ S.E.length) : (atE S.E n).r.t ≤ 9223372036854775807 := by
  obtain ⟨hr,_,ht,hl,_⟩ := h.at_ h1 h2
  rcases hr with hr | ⟨e1,e2,e3,e4,e5,e6,e7⟩ | ⟨e1,e2,e3,e4,e5,e6⟩
  · omega
  · omega
  · rw [ht] at hl
    unfold mkT at hl
    rw [if_neg (by omega),if_neg (by omega)] at hl
    unfold Tm.len at hl
    rw [Tm.txt,len_rep] at hl
    have hp := h.pos1 e5 (by omega)
    unfold Tm.len at hp
    have : (atE S.E n).r.t.toNat ≤ LM := Nat.le_trans (Nat.le_mul_of_pos_right _ hp) hl
    unfold LM at this
    omega
theorem stk_len : ∀ (st : List Int) (id : Int),0 ≤ id → st.Pairwise (fun a b => b < a) → (∀ x ∈ st,1 ≤ x ∧ x ≤ id) → (st.length : Int) ≤ id
  | [],id,h,_,_ => by simpa using h
  | y :: st,id,h,hp,hx => by
    obtain ⟨h1,h2⟩ := List.pairwise_cons.1 hp
    have hy := hx y List.mem_cons_self
    have := stk_len st (y - 1) (by omega) h2 (fun z hz => ⟨(hx z (List.mem_cons_of_mem _ hz)).1,by have := h1 z hz; omega⟩)
    rw [List.length_cons]; omega
structure StkI (rows : List Krow) (id : Int) (st : List Int) : Prop where
  pos : ∀ x ∈ st,1 ≤ x ∧ x ≤ id
  unk : ∀ x ∈ st,rows.getD x.toNat row0 = row0
  dec : st.Pairwise (fun a b => b < a)
  bot : (rows.getD id.toNat row0).2.2 = true ∨ ∃ t,st = id :: t
theorem StkI.len {rows : List Krow} {id : Int} {st : List Int} (h : StkI rows id st) (h0 : 0 ≤ id) : (st.length : Int) ≤ id := stk_len st id h0 h.dec h.pos
theorem TI.known {E : List Entr} {rows : List Krow} (h : TI E rows) {i : Int} (h0 : 0 ≤ i) (hl : i < rows.length) (hk : (rows.getD i.toNat row0).2.2 = true) : rows.getD i.toNat row0 = rowT (tm E i) := by
  rcases h.2 i.toNat (by omega) with h | h
  · rw [h] at hk; cases hk
  · rw [h.2,show ((i.toNat : Nat) : Int) = i by omega]
theorem TI.unknown {E : List Entr} {rows : List Krow} (h : TI E rows) {i : Int} (h0 : 0 ≤ i) (hl : i < rows.length) (hk : (rows.getD i.toNat row0).2.2 = false) : rows.getD i.toNat row0 = row0 := by
  rcases h.2 i.toNat (by omega) with h | h
  · exact h
  · rw [h.2] at hk; cases hk
theorem StkI.push {rows : List Krow} {id : Int} {s : List Int} {x y : Int} (h : StkI rows id (s ++ [x])) (h1 : 1 ≤ y) (h2 : y < x) (hu : rows.getD y.toNat row0 = row0) : StkI rows id ((s ++ [x]) ++ [y]) := by
  have hx := h.pos x (by simp)
  refine ⟨fun z hz => ?_,fun z hz => ?_,?_,?_⟩
  · rcases List.mem_append.1 hz with hz | hz
    · exact h.pos z hz
    · have : z = y := by simpa using hz
      omega
  · rcases List.mem_append.1 hz with hz | hz
    · exact h.unk z hz
    · have : z = y := by simpa using hz
      rw [this]; exact hu
  · refine List.pairwise_append.2 ⟨h.dec,by simp,fun a ha b hb => ?_⟩
    have hb' : b = y := by simpa using hb
    subst hb'
    rcases List.mem_append.1 ha with ha | ha
    · have := (List.pairwise_append.1 h.dec).2.2 a ha x (by simp)
      omega
    · have : a = x := by simpa using ha
      omega
  · rcases h.bot with hb | ⟨t,ht⟩
    · exact .inl hb
    · exact .inr ⟨t ++ [y],by rw [ht]; rfl⟩
theorem StkI.pop {rows : List Krow} {id : Int} {s : List Int} {x : Int} {m : Tm} (h : StkI rows id (s ++ [x])) (hl : x.toNat < rows.length) : StkI (rows.set x.toNat (rowT m)) id s := by
  have hx := h.pos x (by simp)
  have hs := List.pairwise_append.1 h.dec
  refine ⟨fun z hz => h.pos z (List.mem_append_left _ hz),fun z hz => ?_,hs.1,?_⟩
  · have h1 := hs.2.2 z hz x (by simp)
    have h2 := h.pos z (List.mem_append_left _ hz)
    rw [getD_set hl,if_neg (by omega)]
    exact h.unk z (List.mem_append_left _ hz)
  · by_cases hid : id = x
    · left
      subst hid
      rw [getD_set hl,if_pos rfl]; rfl
    · rcases h.bot with hb | ⟨t,ht⟩
      · left
        rw [getD_set hl,if_neg (by omega)]; exact hb
      · right
        cases s with
        | nil => simp at ht; omega
        | cons z s => simp at ht; exact ⟨s,by rw [ht.1]⟩
def retT (k1 k2 bt bs : Nat) (S : Sto) (r v : Value) (L1 : List Ent) : Prop := v = r ∧ ∃ fp1 fp2,L1 = [packE k1 fp1 (fT bt bs S.E),packE k2 fp2 (fS bs S)]
def TC (f : Nat) (args : Array Value) (bt bs : Nat) (S : Sto) (r : Value) : Prop :=
  ∀ (k1 k2 : Nat) (fp1 fp2 : List Nat) (w : World),R w (fp1 ++ fp2) [packE k1 fp1 (fT bt bs S.E),packE k2 fp2 (fS bs S)] w → TabF w (fp1 ++ fp2) → Calls Tryz.prog f args w fun e w' => ∃ v L1,e = .returned v ∧ R w (fp1 ++ fp2) L1 w' ∧ retT k1 k2 bt bs S r v L1
theorem endT {k1 k2 k' bt bs : Nat} {fp' : List Nat} {S : Sto} {r v : Value} {w0 : World} {fp0 : List Nat} {L : List Ent} (x : TabG S.E) (h : Thin L (packE k' fp' (fS bs S) :: fT bt bs S.E x)) (hv : v = r) : ∃ L1,Ref w0 fp0 L L1 ∧ retT k1 k2 bt bs S r v L1 := by
  refine ⟨_,h.ref.trans ((Ref.perm (List.perm_append_comm (l₁ := [_]) (l₂ := fT bt bs S.E x))).trans (Ref.packs (key := k1) x ?_)),hv,_,fp',rfl⟩
  obtain ⟨rows,ok,a,c⟩ := x
  exact .keep rfl (fun _ h => h) (.keep rfl (fun _ h => h) (.keep rfl (fun _ h => h) (.nil _)))
theorem endT0 {k1 k2 k' bt bs : Nat} {fp' : List Nat} {S : Sto} {r v : Value} {w0 : World} {fp0 : List Nat} {L : List Ent} {x : TabG S.E} (h : Thin L (fT bt bs S.E x ++ [packE k' fp' (fS bs S)])) (hv : v = r) : ∃ L1,Ref w0 fp0 L L1 ∧ retT k1 k2 bt bs S r v L1 := by
  refine ⟨_,h.ref.trans (Ref.packs (key := k1) (Lr := [packE k2 fp' (fS bs S)]) x ?_),hv,_,fp',rfl⟩
  obtain ⟨rows,ok,a,c⟩ := x
  exact .keep rfl (fun _ h => h) (.keep rfl (fun _ h => h) (.keep rfl (fun _ h => h) (.nil _)))
def rowRes (S : Sto) (id : Int) : Value := if 1 ≤ id ∧ id ≤ S.E.length then .tuple #[.agg (krC (rowT (tm S.E id))).toArray,.nilIface] else .tuple #[.agg (krC row0).toArray,errV 1]
structure RowA (E : List Entr) where
  x : TabG E
  fp : List Nat
structure RowG (E : List Entr) where
  x : TabG E
  fp : List Nat
  st : List Int
  a6 : Option Addr
  c6 : Nat
abbrev zer3 : List Value := [.int .u64 0,.int .i64 0,.bool false]
abbrev rowE (bt b4 : Nat) (i : Int) (E : List Entr) (x : RowG E) : Env := [(0,.ptr 2000 bt 0),(1,.v (.int .i64 i)),(4,.ptr 4 b4 0),(6,.sl 500 x.a6 x.st.length x.c6)]
abbrev rowH (bt b4 bs : Nat) (S : Sto) (x : RowG S.E) : List Ent := [.own 500 x.a6 x.st.length x.c6 ty_api_ID 1 (ints .i64 x.st),packE 77 x.fp (fS bs S),.box 4 b4 zer3 ty_keys_row,.box 2000 bt [pS bs,.slice x.x.a x.x.rows.length x.x.c] ty_keys_Table,.own 2001 x.x.a x.x.rows.length x.x.c ty_keys_row 3 (krsC x.x.rows)]
def rowMu (i : Nat) (E : List Entr) (x : RowG E) : Nat := unk x.x.rows * (i + 2) + (x.st.getLastD 0).toNat
theorem ints_last {s : List Int} {x : Int} : (ints .i64 (s ++ [x]))[s.length]? = some (.int .i64 x) := by simp [ints]
theorem ints_take {s : List Int} {x : Int} : (ints .i64 (s ++ [x])).take s.length = ints .i64 s := by simp [ints]
theorem calls_row (bt bs : Nat) (S : Sto) (hw : WF S) (id : Int) : TC fn_P_keys_Table_row #[pS bt,.int .i64 id] bt bs S (rowRes S id) := by
  intro k1 k2 fp1 fp2 w hR hG
  have hR : R w (fp1 ++ fp2) [packE 78 fp1 (fT bt bs S.E),packE 77 fp2 (fS bs S)] w := (Thin.packE (Thin.packE (.nil []))).ref w hR
  obtain ⟨⟨rows,ok,a,c⟩,hfp,hR'⟩ := hR.unpack
  rw [fT_eq] at hR' hfp
  refine (calls_ir [.ptr 2000 bt 0,.v (.int .i64 id)] ok_P_keys_Table_row (by simp) hR' (K := fun v L' => ∃ L1,Ref w (fp1 ++ fp2) L' L1 ∧ retT k1 k2 bt bs S (rowRes S id) v L1) ?_).mono fun e w' ⟨v,L',he,hR2,L1,href,hq⟩ => ⟨v,L1,he,href w' hR2,hq⟩
  have hsm := hw.small
  have c1 := calls_sLen bs S
  by_cases hid : 1 ≤ id ∧ id ≤ S.E.length
  · have hres : rowRes S id = .tuple #[.agg (krC (rowT (tm S.E id))).toArray,.nilIface] := if_pos hid
    rw [hres]
    obtain ⟨i,rfl⟩ : ∃ i : Nat,id = i := ⟨id.toNat,by omega⟩
    have hz3 := fun m : Nat => krsC_zeros rows m
    (repeat' ((conv => whnf); first | (refine CallK_pack (key := 77) rfl (fun w hR h0 => c1 _ _ _ h0) ?_; rintro _ _ ⟨rfl,fp',rfl⟩; refine ⟨.v _,rfl,?_⟩) | refine ⟨_,⟨rfl,trivial⟩,?_⟩ | (refine bcase_prop (fun h => ?_) (fun h => ?_) <;> try (exfalso; omega)) | (refine bcase_nprop (fun h => ?_) (fun h => ?_) <;> try (exfalso; omega)) | (refine bcase_intro (fun h => ?_) (fun h => ?_) <;> (try simp only [Bool.not_eq_true',Bool.not_eq_false',decide_eq_true_eq,decide_eq_false_iff_not,Bool.not_eq_true,Bool.not_eq_false,Decidable.not_not] at h)) | refine And.intro (by first | omega | exact rfl | assumption | exact ⟨rfl,rfl,rfl,rfl,rfl⟩ | exact ⟨rfl,rfl,rfl,rfl⟩ | exact ⟨rfl,by omega⟩ | exact oneAll_of rfl | exact ⟨rfl,oneAll_of rfl⟩ | exact Ref.refl _ | exact Thin.ref (.skip (Thin.refl _)) | exact Thin.ref (.skip (.skip (Thin.refl _))) | exact ⟨rfl,Nat.le_of_ble_eq_true rfl⟩ | ((try unfold maxLen); (try simp only [List.length_nil,List.length_cons,List.length_append]); omega) | (refine ⟨rfl,?_⟩; (try simp only [List.length_nil,List.length_cons,List.length_append]); omega)) ?_ | intro _)); (all_goals (conv => whnf))
    rename_i b4 _
    refine VC_cut (RowA S.E) (fun x => [(0,.ptr 2000 bt 0),(1,.v (.int .i64 i)),(4,.ptr 4 b4 0)]) (fun x => [packE 77 x.fp (fS bs S),.box 4 b4 zer3 ty_keys_row,.box 2000 bt [pS bs,.slice x.x.a x.x.rows.length x.x.c] ty_keys_Table,.own 2001 x.x.a x.x.rows.length x.x.c ty_keys_row 3 (krsC x.x.rows)]) (fun x => i < x.x.rows.length) ?_ ?_
    · have hq : ((i : Int) + 1 - (rows.length : Int)).toNat = i + 1 - rows.length := by omega
      have hz := hz3 (i + 1 - rows.length)
      (repeat' ((conv => whnf); first | rw [hq] | rw [hz] | refine ⟨.sl 2001 _ _ _,⟨rfl,rfl,rfl,rfl⟩,?_⟩ | (refine bcase_prop (fun h => ?_) (fun h => ?_) <;> try (exfalso; omega)) | (refine bcase_nprop (fun h => ?_) (fun h => ?_) <;> try (exfalso; omega)) | (refine bcase_intro (fun h => ?_) (fun h => ?_) <;> (try simp only [Bool.not_eq_true',Bool.not_eq_false',decide_eq_true_eq,decide_eq_false_iff_not,Bool.not_eq_true,Bool.not_eq_false,Decidable.not_not] at h)) | refine And.intro (by first | omega | exact rfl | assumption | exact ⟨rfl,rfl,rfl,rfl,rfl⟩ | exact ⟨rfl,rfl,rfl,rfl⟩ | exact ⟨rfl,by omega⟩ | exact oneAll_of rfl | exact ⟨rfl,oneAll_of rfl⟩ | exact Ref.refl _ | exact Thin.ref (.skip (Thin.refl _)) | exact Thin.ref (.skip (.skip (Thin.refl _))) | exact ⟨by omega,oneAll_of rfl⟩ | exact ⟨by unfold maxLen; omega,by omega⟩ | exact ⟨rfl,Nat.le_of_ble_eq_true rfl⟩ | ((try unfold maxLen); (try simp only [List.length_nil,List.length_cons,List.length_append]); omega) | (refine ⟨rfl,?_⟩; (try simp only [List.length_nil,List.length_cons,List.length_append]); omega)) ?_ | intro _)); (all_goals (conv => whnf))
      · rename_i a' c'
        refine cut_next ⟨⟨rows ++ List.replicate (i + 1 - rows.length) row0,ok.zeros (by omega),a',c'⟩,fp'⟩ (by simp; omega) (by (repeat ((conv => whnf); refine And.intro (by first | exact rfl | exact vint_eq (by omega) | exact vint_eq (by (dsimp only; omega)) | exact vsl_eq (by omega) | exact vsl_eq (by first | (dsimp only; omega) | (simp; done) | (simp; omega))) ?_)); exact trivial) (Thin.ref ?_)
        refine .keep rfl (fun _ h => h) (.keep rfl (fun _ h => h) (.box ?_ (.own ?_ rfl (.nil _))))
        · simp
        · simp
      · refine cut_next ⟨⟨rows,ok,a,c⟩,fp'⟩ (show i < rows.length by omega) (by (repeat ((conv => whnf); refine And.intro (by first | exact rfl | exact vint_eq (by omega) | exact vint_eq (by (dsimp only; omega)) | exact vsl_eq (by omega) | exact vsl_eq (by first | (dsimp only; omega) | (simp; done) | (simp; omega))) ?_)); exact trivial) (Thin.ref (by (repeat (first | exact Thin.nil _ | exact Thin.refl _ | refine Thin.keep rfl (fun _ h => h) ?_ | refine Thin.skip ?_))))
    · rintro ⟨⟨rows,ok,a,c⟩,fp2'⟩ hlt
      dsimp only at hlt ⊢
      have hkn : (krsC rows)[i * 3 + 2]? = some (.bool (rows.getD i row0).2.2) := krsC_known hlt
      (repeat' ((conv => whnf); first | rw [Int.toNat_natCast] | refine ⟨.sl 2001 _ _ _,⟨rfl,rfl,rfl,rfl⟩,?_⟩ | refine ldCell hkn ?_ | (refine bcase_prop (fun h => ?_) (fun h => ?_) <;> try (exfalso; omega)) | (refine bcase_nprop (fun h => ?_) (fun h => ?_) <;> try (exfalso; omega)) | (refine bcase_intro (fun h => ?_) (fun h => ?_) <;> (try simp only [Bool.not_eq_true',Bool.not_eq_false',decide_eq_true_eq,decide_eq_false_iff_not,Bool.not_eq_true,Bool.not_eq_false,Decidable.not_not] at h)) | refine And.intro (by first | omega | exact rfl | assumption | exact ⟨rfl,rfl,rfl,rfl,rfl⟩ | exact ⟨rfl,rfl,rfl,rfl⟩ | exact ⟨rfl,by omega⟩ | exact oneAll_of rfl | exact ⟨rfl,oneAll_of rfl⟩ | exact Ref.refl _ | exact Thin.ref (.skip (Thin.refl _)) | exact Thin.ref (.skip (.skip (Thin.refl _))) | exact ⟨rfl,Nat.le_of_ble_eq_true rfl⟩ | ((try unfold maxLen); (try simp only [List.length_nil,List.length_cons,List.length_append]); omega) | (refine ⟨rfl,?_⟩; (try simp only [List.length_nil,List.length_cons,List.length_append]); omega)) ?_ | intro _)); (all_goals (conv => whnf))
      refine VC_cut (RowG S.E) (rowE bt b4 i S.E) (rowH bt b4 bs S) (fun x => i < x.x.rows.length ∧ StkI x.x.rows i x.st) ?_ ?_
      · (repeat' ((conv => whnf); first | rw [Int.toNat_natCast] | refine ⟨.sl 2001 _ _ _,⟨rfl,rfl,rfl,rfl⟩,?_⟩ | refine ldCell hkn ?_ | (refine bcase_prop (fun h => ?_) (fun h => ?_) <;> try (exfalso; omega)) | (refine bcase_nprop (fun h => ?_) (fun h => ?_) <;> try (exfalso; omega)) | (refine bcase_intro (fun h => ?_) (fun h => ?_) <;> (try simp only [Bool.not_eq_true',Bool.not_eq_false',decide_eq_true_eq,decide_eq_false_iff_not,Bool.not_eq_true,Bool.not_eq_false,Decidable.not_not] at h)) | refine And.intro (by first | omega | exact rfl | assumption | exact ⟨rfl,rfl,rfl,rfl,rfl⟩ | exact ⟨rfl,rfl,rfl,rfl⟩ | exact ⟨rfl,by omega⟩ | exact oneAll_of rfl | exact ⟨rfl,oneAll_of rfl⟩ | exact Ref.refl _ | exact Thin.ref (.skip (Thin.refl _)) | exact Thin.ref (.skip (.skip (Thin.refl _))) | exact ⟨rfl,Nat.le_of_ble_eq_true rfl⟩ | ((try unfold maxLen); (try simp only [List.length_nil,List.length_cons,List.length_append]); omega) | (refine ⟨rfl,?_⟩; (try simp only [List.length_nil,List.length_cons,List.length_append]); omega)) ?_ | intro _)); (all_goals (conv => whnf))
        · rename_i a' c'
          refine cut_next ⟨⟨rows,ok,a,c⟩,fp2',[(i : Int)],a',c'⟩ ⟨hlt,?_⟩ (by (repeat ((conv => whnf); refine And.intro (by first | exact rfl | exact vint_eq (by omega) | exact vint_eq (by (dsimp only; omega)) | exact vsl_eq (by omega) | exact vsl_eq (by first | (dsimp only; omega) | (simp; done) | (simp; omega))) ?_)); exact trivial) (Thin.ref ?_)
          · refine ⟨by simp; omega,by simp; exact ok.unknown (i := i) (by omega) (by omega) (by simpa using h),by simp,.inr ⟨[],rfl⟩⟩
          · exact .own rfl rfl (.skip (by (repeat (first | exact Thin.nil _ | exact Thin.refl _ | refine Thin.keep rfl (fun _ h => h) ?_ | refine Thin.skip ?_))))
        · refine cut_next ⟨⟨rows,ok,a,c⟩,fp2',[],none,0⟩ ⟨hlt,?_⟩ (by (repeat ((conv => whnf); refine And.intro (by first | exact rfl | exact vint_eq (by omega) | exact vint_eq (by (dsimp only; omega)) | exact vsl_eq (by omega) | exact vsl_eq (by first | (dsimp only; omega) | (simp; done) | (simp; omega))) ?_)); exact trivial) ((Thin.ref (by (repeat (first | exact Thin.nil _ | exact Thin.refl _ | refine Thin.keep rfl (fun _ h => h) ?_ | refine Thin.skip ?_)))).trans (Ref.ownNil 500 _ 1))
          exact ⟨by simp,by simp,by simp,.inl (by simpa using h)⟩
      · clear hkn
        rintro ⟨⟨rows,ok,a,c⟩,fpx,st,a6,c6⟩ ⟨hlt,hst⟩
        (repeat' ((conv => whnf); first | (refine bcase_prop (fun h => ?_) (fun h => ?_) <;> try (exfalso; omega)) | (refine bcase_nprop (fun h => ?_) (fun h => ?_) <;> try (exfalso; omega)) | (refine bcase_intro (fun h => ?_) (fun h => ?_) <;> (try simp only [Bool.not_eq_true',Bool.not_eq_false',decide_eq_true_eq,decide_eq_false_iff_not,Bool.not_eq_true,Bool.not_eq_false,Decidable.not_not] at h)) | refine And.intro (by first | omega | exact rfl | assumption | exact ⟨rfl,rfl,rfl,rfl,rfl⟩ | exact ⟨rfl,rfl,rfl,rfl⟩ | exact ⟨rfl,by omega⟩ | exact oneAll_of rfl | exact ⟨rfl,oneAll_of rfl⟩ | exact Ref.refl _ | exact Thin.ref (.skip (Thin.refl _)) | exact Thin.ref (.skip (.skip (Thin.refl _))) | exact ⟨rfl,Nat.le_of_ble_eq_true rfl⟩ | ((try unfold maxLen); (try simp only [List.length_nil,List.length_cons,List.length_append]); omega) | (refine ⟨rfl,?_⟩; (try simp only [List.length_nil,List.length_cons,List.length_append]); omega)) ?_ | intro _)); (all_goals (conv => whnf))
        refine VC_loop (RowG S.E) (rowE bt b4 i S.E) (rowH bt b4 bs S) (fun x => i < x.x.rows.length ∧ StkI x.x.rows i x.st) (rowMu i S.E) ⟨⟨rows,ok,a,c⟩,fpx,st,a6,c6⟩ ⟨hlt,hst⟩ (by (repeat ((conv => whnf); refine And.intro (by first | exact rfl | exact vint_eq (by omega) | exact vint_eq (by (dsimp only; omega)) | exact vsl_eq (by omega) | exact vsl_eq (by first | (dsimp only; omega) | (simp; done) | (simp; omega))) ?_)); exact trivial) (Ref.refl _) ?_
        clear hlt hst
        rintro ⟨⟨rows,ok,a,c⟩,fpx,st,a6,c6⟩ ⟨hlt,hst⟩
        dsimp only [rowE,rowH] at hlt hst ⊢
        rcases List.eq_nil_or_concat st with rfl | ⟨s,x,rfl⟩
        · have hkn : (rows.getD i row0).2.2 = true := by
            rcases hst.bot with h | ⟨t,ht⟩
            · simpa using h
            · cases ht
          have hrow := krsC_at hlt
          rw [show rows.getD i row0 = rowT (tm S.E i) from ok.known (i := i) (by omega) (by omega) (by simpa using hkn)] at hrow
          (repeat' ((conv => whnf); first | rw [Int.toNat_natCast] | refine ⟨.sl 2001 _ _ _,⟨rfl,rfl,rfl,rfl⟩,?_⟩ | refine ldRow hrow ?_ | (refine bcase_prop (fun h => ?_) (fun h => ?_) <;> try (exfalso; omega)) | (refine bcase_nprop (fun h => ?_) (fun h => ?_) <;> try (exfalso; omega)) | (refine bcase_intro (fun h => ?_) (fun h => ?_) <;> (try simp only [Bool.not_eq_true',Bool.not_eq_false',decide_eq_true_eq,decide_eq_false_iff_not,Bool.not_eq_true,Bool.not_eq_false,Decidable.not_not] at h)) | refine And.intro (by first | omega | exact rfl | assumption | exact ⟨rfl,rfl,rfl,rfl,rfl⟩ | exact ⟨rfl,rfl,rfl,rfl⟩ | exact ⟨rfl,by omega⟩ | exact oneAll_of rfl | exact ⟨rfl,oneAll_of rfl⟩ | exact Ref.refl _ | exact Thin.ref (.skip (Thin.refl _)) | exact Thin.ref (.skip (.skip (Thin.refl _))) | exact ⟨rfl,Nat.le_of_ble_eq_true rfl⟩ | ((try unfold maxLen); (try simp only [List.length_nil,List.length_cons,List.length_append]); omega) | (refine ⟨rfl,?_⟩; (try simp only [List.length_nil,List.length_cons,List.length_append]); omega)) ?_ | intro _)); (all_goals (conv => whnf))
          exact ⟨endT ⟨rows,ok,a,c⟩ (.skip (.keep rfl (fun _ h => h) (.skip (.keep rfl (fun _ h => h) (.keep rfl (fun _ h => h) (.nil _)))))) rfl⟩
        · rw [List.concat_eq_append] at hst ⊢
          have hx := hst.pos x (by simp)
          have hxu := hst.unk x (by simp)
          have hrl := ok.1
          have hsl := hst.len (by omega)
          have hle : (s ++ [x]).length = s.length + 1 := by simp
          obtain ⟨hr,_,_,_,_⟩ := hw.at_ (n := x) hx.1 (by omega)
          have hidx : (((s ++ [x]).length : Int) - 1).toNat = s.length := by omega
          have hlast := ints_last (s := s) (x := x)
          have htk := ints_take (s := s) (x := x)
          have c2 := calls_Rule bs S x hsm
          rw [ruleV_ok hx.1 (by omega)] at c2
          have htim := hw.tim hx.1 (by omega)
          have hset := krsC_set (g := rows) (i := x.toNat) (x := rowT (tm S.E x)) (by omega)
          have la : 0 ≤ (atE S.E x).r.a ∧ (atE S.E x).r.a < x := by rcases hr with h | h | h <;> omega
          have lb : 0 ≤ (atE S.E x).r.b ∧ (atE S.E x).r.b < x := by rcases hr with h | h | h <;> omega
          have hka : (krsC rows)[(atE S.E x).r.a.toNat * 3 + 2]? = some (.bool (rows.getD (atE S.E x).r.a.toNat row0).2.2) := krsC_known (by omega)
          have hkb : (krsC rows)[(atE S.E x).r.b.toNat * 3 + 2]? = some (.bool (rows.getD (atE S.E x).r.b.toNat row0).2.2) := krsC_known (by omega)
          have c3 := fun ka kb w h1 h2 h3 => calls_compute S hw x hx.1 (by omega) htim bt bs rows ok a c (by omega) (by omega) ka kb w h1 h2 h3
          have ta := fun h => ok.known (i := (atE S.E x).r.a) la.1 (by omega) h
          have tb := fun h => ok.known (i := (atE S.E x).r.b) lb.1 (by omega) h
          have ua := fun h => ok.unknown (i := (atE S.E x).r.a) la.1 (by omega) h
          have ub := fun h => ok.unknown (i := (atE S.E x).r.b) lb.1 (by omega) h
          have hkl : x.toNat * 3 + 3 ≤ (krsC rows).length := by rw [krsC_length]; omega
          have ok2 : TI S.E (rows.set x.toNat (rowT (tm S.E x))) := by
            have := ok.set (x := x.toNat) (by omega) (by omega)
            rwa [show ((x.toNat : Nat) : Int) = x by omega] at this
          have m1 : ∀ y : Int,0 ≤ y → y < x → ∀ fp' a' c',rowMu i S.E ⟨⟨rows,ok,a,c⟩,fp',(s ++ [x]) ++ [y],a',c'⟩ < rowMu i S.E ⟨⟨rows,ok,a,c⟩,fpx,s ++ [x],a6,c6⟩ := fun y h0 hy fp' a' c' => by
            simp only [rowMu,List.getLastD_concat]; omega
          have m2 : ∀ fp' a' c',rowMu i S.E ⟨⟨rows.set x.toNat (rowT (tm S.E x)),ok2,a,c⟩,fp',s,a',c'⟩ < rowMu i S.E ⟨⟨rows,ok,a,c⟩,fpx,s ++ [x],a6,c6⟩ := fun fp' a' c' => by
            have hu := unk_set (rows := rows) (x := x.toNat) (m := tm S.E x) (by omega) hxu
            have hl : (s.getLastD 0).toNat ≤ i := by
              rcases List.eq_nil_or_concat s with rfl | ⟨s',y,rfl⟩
              · exact Nat.zero_le _
              · rw [List.concat_eq_append,List.getLastD_concat]
                have := hst.pos y (by simp)
                omega
            simp only [rowMu,List.getLastD_concat]
            rw [← hu,Nat.succ_mul]
            omega
          (repeat' ((conv => whnf); first | (refine CallK_pure (.v _) (fun w hR => c3 (fun h1 => ta (by first | assumption | (exfalso; omega))) (fun h1 => tb (by first | assumption | (exfalso; omega))) w (In.box (key := 2000) hR rfl) (In.ownR (key := 2001) hR rfl) (hG.cast hR (by simp))) ?_) | rw [hidx] | rw [Nat.mul_one] | rw [hset] | rw [htk] | (refine CallK_pack (key := 77) rfl (fun w hR h0 => c2 _ _ _ h0) ?_; rintro _ _ ⟨rfl,fp',rfl⟩; refine ⟨.v _,rfl,?_⟩) | refine ⟨.sl 2001 _ _ _,⟨rfl,rfl,rfl,rfl⟩,?_⟩ | refine ⟨_,⟨rfl,trivial⟩,?_⟩ | refine ldCell hlast ?_ | refine ldCell hka ?_ | refine ldCell hkb ?_ | (refine bcase_prop (fun h => ?_) (fun h => ?_) <;> try (exfalso; omega)) | (refine bcase_nprop (fun h => ?_) (fun h => ?_) <;> try (exfalso; omega)) | (refine bcase_intro (fun h => ?_) (fun h => ?_) <;> (try simp only [Bool.not_eq_true',Bool.not_eq_false',decide_eq_true_eq,decide_eq_false_iff_not,Bool.not_eq_true,Bool.not_eq_false,Decidable.not_not] at h)) | refine And.intro (by first | omega | exact rfl | assumption | exact ⟨rfl,rfl,rfl,rfl,rfl⟩ | exact ⟨rfl,rfl,rfl,rfl⟩ | exact ⟨rfl,by omega⟩ | exact oneAll_of rfl | exact ⟨rfl,oneAll_of rfl⟩ | exact Ref.refl _ | exact Thin.ref (.skip (Thin.refl _)) | exact Thin.ref (.skip (.skip (Thin.refl _))) | exact ⟨by unfold maxLen; omega,by omega⟩ | exact ⟨rfl,hkl⟩ | exact ⟨rfl,Nat.le_of_ble_eq_true rfl⟩ | ((try unfold maxLen); (try simp only [List.length_nil,List.length_cons,List.length_append]); omega) | (refine ⟨rfl,?_⟩; (try simp only [List.length_nil,List.length_cons,List.length_append]); omega)) ?_ | intro _)); (all_goals (conv => whnf))
          · rename_i a' c'
            refine loop_next ⟨⟨rows,ok,a,c⟩,fp',(s ++ [x]) ++ [(atE S.E x).r.a],a',c'⟩ ⟨hlt,hst.push (by omega) la.2 (ua h)⟩ (m1 _ la.1 la.2 _ _ _) (by (repeat ((conv => whnf); refine And.intro (by first | exact rfl | exact vint_eq (by omega) | exact vint_eq (by (dsimp only; omega)) | exact vsl_eq (by omega) | exact vsl_eq (by first | (dsimp only; omega) | (simp; done) | (simp; omega))) ?_)); exact trivial) ((Thin.ref (.skip (.skip (.keep rfl (fun _ h => h) (.own (by simp) ints_snoc (by (repeat (first | exact Thin.nil _ | exact Thin.refl _ | refine Thin.keep rfl (fun _ h => h) ?_ | refine Thin.skip ?_)))))))).trans (Ref.perm (.swap _ _ _)))
          all_goals first
            | (rename_i a' c'
               refine loop_next ⟨⟨rows,ok,a,c⟩,fp',(s ++ [x]) ++ [(atE S.E x).r.b],a',c'⟩ ⟨hlt,hst.push (by omega) lb.2 (ub h)⟩ (m1 _ lb.1 lb.2 _ _ _) (by (repeat ((conv => whnf); refine And.intro (by first | exact rfl | exact vint_eq (by omega) | exact vint_eq (by (dsimp only; omega)) | exact vsl_eq (by omega) | exact vsl_eq (by first | (dsimp only; omega) | (simp; done) | (simp; omega))) ?_)); exact trivial) ((Thin.ref (.skip (.skip (.keep rfl (fun _ h => h) (.own (by simp) ints_snoc (by (repeat (first | exact Thin.nil _ | exact Thin.refl _ | refine Thin.keep rfl (fun _ h => h) ?_ | refine Thin.skip ?_)))))))).trans (Ref.perm (.swap _ _ _))))
            | (refine loop_next ⟨⟨rows.set x.toNat (rowT (tm S.E x)),ok2,a,c⟩,fp',s,a6,c6⟩ ⟨by simpa using hlt,hst.pop (by omega)⟩ (m2 _ _ _) (by (repeat ((conv => whnf); refine And.intro (by first | exact rfl | exact vint_eq (by omega) | exact vint_eq (by (dsimp only; omega)) | exact vsl_eq (by omega) | exact vsl_eq (by first | (dsimp only; omega) | (simp; done) | (simp; omega))) ?_)); exact trivial) ((Thin.ref (.skip (.keep rfl (fun _ h => h) (.own rfl rfl (.keep rfl (fun _ h => h) (.box (by simp) (.own (by simp) rfl (.nil _)))))))).trans (Ref.perm (.swap _ _ _))))
  · have hres : rowRes S id = .tuple #[.agg (krC row0).toArray,errV 1] := if_neg hid
    rw [hres]
    by_cases h1 : id < 1
    · (repeat' ((conv => whnf); first | (refine CallK_pack (key := 77) rfl (fun w hR h0 => c1 _ _ _ h0) ?_; rintro _ _ ⟨rfl,fp',rfl⟩; refine ⟨.v _,rfl,?_⟩) | refine ⟨_,⟨rfl,trivial⟩,?_⟩ | (refine bcase_prop (fun h => ?_) (fun h => ?_) <;> try (exfalso; omega)) | (refine bcase_nprop (fun h => ?_) (fun h => ?_) <;> try (exfalso; omega)) | (refine bcase_intro (fun h => ?_) (fun h => ?_) <;> (try simp only [Bool.not_eq_true',Bool.not_eq_false',decide_eq_true_eq,decide_eq_false_iff_not,Bool.not_eq_true,Bool.not_eq_false,Decidable.not_not] at h)) | refine And.intro (by first | omega | exact rfl | assumption | exact ⟨rfl,rfl,rfl,rfl,rfl⟩ | exact ⟨rfl,rfl,rfl,rfl⟩ | exact ⟨rfl,by omega⟩ | exact oneAll_of rfl | exact ⟨rfl,oneAll_of rfl⟩ | exact Ref.refl _ | exact Thin.ref (.skip (Thin.refl _)) | exact Thin.ref (.skip (.skip (Thin.refl _))) | exact ⟨rfl,Nat.le_of_ble_eq_true rfl⟩ | ((try unfold maxLen); (try simp only [List.length_nil,List.length_cons,List.length_append]); omega) | (refine ⟨rfl,?_⟩; (try simp only [List.length_nil,List.length_cons,List.length_append]); omega)) ?_ | intro _)); (all_goals (conv => whnf))
      exact ⟨endT0 (k' := 77) (fp' := fp2) (x := ⟨rows,ok,a,c⟩) (.skip (Thin.refl _)) rfl⟩
    · (repeat' ((conv => whnf); first | (refine CallK_pack (key := 77) rfl (fun w hR h0 => c1 _ _ _ h0) ?_; rintro _ _ ⟨rfl,fp',rfl⟩; refine ⟨.v _,rfl,?_⟩) | refine ⟨_,⟨rfl,trivial⟩,?_⟩ | (refine bcase_prop (fun h => ?_) (fun h => ?_) <;> try (exfalso; omega)) | (refine bcase_nprop (fun h => ?_) (fun h => ?_) <;> try (exfalso; omega)) | (refine bcase_intro (fun h => ?_) (fun h => ?_) <;> (try simp only [Bool.not_eq_true',Bool.not_eq_false',decide_eq_true_eq,decide_eq_false_iff_not,Bool.not_eq_true,Bool.not_eq_false,Decidable.not_not] at h)) | refine And.intro (by first | omega | exact rfl | assumption | exact ⟨rfl,rfl,rfl,rfl,rfl⟩ | exact ⟨rfl,rfl,rfl,rfl⟩ | exact ⟨rfl,by omega⟩ | exact oneAll_of rfl | exact ⟨rfl,oneAll_of rfl⟩ | exact Ref.refl _ | exact Thin.ref (.skip (Thin.refl _)) | exact Thin.ref (.skip (.skip (Thin.refl _))) | exact ⟨rfl,Nat.le_of_ble_eq_true rfl⟩ | ((try unfold maxLen); (try simp only [List.length_nil,List.length_cons,List.length_append]); omega) | (refine ⟨rfl,?_⟩; (try simp only [List.length_nil,List.length_cons,List.length_append]); omega)) ?_ | intro _)); (all_goals (conv => whnf))
      exact ⟨endT ⟨rows,ok,a,c⟩ (.keep rfl (fun _ h => h) (.skip (Thin.refl _))) rfl⟩
end Go.Proofs.YtkkhpdkfploodaaGreatDoor
/- The table of keys: its functions. -/
namespace Go.Proofs.YtkkhpdkfploodaaGreatDoor
open Go.EG
attribute [local irreducible] CallK QCall Go.Calls
set_option linter.unusedSimpArgs false
set_option linter.unusedVariables false
set_option maxRecDepth 20000
set_option maxHeartbeats 1000000
theorem _root_.Go.EG.In.cast2 {w0 w : World} {fp0 fp1 fp2 : List Nat} {k1 k2 : Nat} {ok1 ok2 : World → Prop} {Lr : List Ent} {a : Option Addr} {xs : List Value} (h : In w0 fp0 a xs) (hR : R w0 fp0 (.abs k1 fp1 ok1 :: .abs k2 fp2 ok2 :: Lr) w) : In w (fp1 ++ fp2) a xs :=
  h.cast hR (fun b hb => by
    rw [fps_cons,fps_cons]
    rcases List.mem_append.1 hb with hb | hb
    · exact List.mem_append_left _ hb
    · exact List.mem_append_right _ (List.mem_append_left _ hb))
theorem endQ {k1 k2 bt bs : Nat} {k1' k2' : Nat} {fp1 fp2 : List Nat} {S : Sto} {r v : Value} {w0 : World} {fp0 : List Nat} {L : List Ent} (h : Thin L [packE k1' fp1 (fT bt bs S.E),packE k2' fp2 (fS bs S)]) (hv : v = r) : ∃ L1,Ref w0 fp0 L L1 ∧ retT k1 k2 bt bs S r v L1 :=
  ⟨[packE k1 fp1 (fT bt bs S.E),packE k2 fp2 (fS bs S)],fun w hR => (Thin.packE (Thin.packE (.nil _))).ref w (h.ref w hR),hv,_,_,rfl⟩
def keyRes (S : Sto) (id : Int) : Value := if 1 ≤ id ∧ id ≤ S.E.length then .tuple #[.int .u64 (tm S.E id).key,.nilIface] else .tuple #[.int .u64 0,errV 1]
theorem calls_Key (bt bs : Nat) (S : Sto) (hw : WF S) (id : Int) : TC fn_P_keys_Table_Key #[pS bt,.int .i64 id] bt bs S (keyRes S id) := by
  intro k1 k2 fp1 fp2 w hR hG
  have hR : R w (fp1 ++ fp2) [packE 78 fp1 (fT bt bs S.E),packE 77 fp2 (fS bs S)] w := (Thin.packE (Thin.packE (.nil []))).ref w hR
  refine part_call [.v (pS bt),.v (.int .i64 id)] ok_P_keys_Table_Key (by simp) hR ?_
  have c1 := calls_row bt bs S hw id
  unfold rowRes at c1
  unfold keyRes
  by_cases h : 1 ≤ id ∧ id ≤ S.E.length
  · rw [if_pos h] at c1 ⊢
    (repeat' ((conv => whnf); first | (refine CallK_pack2 (key1 := 78) (key2 := 77) rfl rfl (fun w hR h0 => c1 _ _ _ _ _ h0 (hG.cast2 hR)) ?_; rintro _ _ ⟨rfl,fp1',fp2',rfl⟩; refine ⟨.v _,rfl,?_⟩) | (refine bcase_prop (fun h => ?_) (fun h => ?_) <;> try (exfalso; omega)) | (refine bcase_nprop (fun h => ?_) (fun h => ?_) <;> try (exfalso; omega)) | (refine bcase_intro (fun h => ?_) (fun h => ?_) <;> (try simp only [Bool.not_eq_true',Bool.not_eq_false',decide_eq_true_eq,decide_eq_false_iff_not,Bool.not_eq_true,Bool.not_eq_false,Decidable.not_not] at h)) | refine And.intro (by first | omega | exact rfl | assumption | exact ⟨rfl,rfl,rfl,rfl,rfl⟩ | exact ⟨rfl,rfl,rfl,rfl⟩ | exact ⟨rfl,by omega⟩ | exact oneAll_of rfl | exact ⟨rfl,oneAll_of rfl⟩ | exact Ref.refl _ | exact Thin.ref (.skip (Thin.refl _)) | exact Thin.ref (.skip (.skip (Thin.refl _))) | exact ⟨rfl,Nat.le_of_ble_eq_true rfl⟩ | ((try unfold maxLen); (try simp only [List.length_nil,List.length_cons,List.length_append]); omega) | (refine ⟨rfl,?_⟩; (try simp only [List.length_nil,List.length_cons,List.length_append]); omega)) ?_ | intro _)); (all_goals (conv => whnf))
    exact ⟨endQ (.skip (.keep rfl (fun _ h => h) (.keep rfl (fun _ h => h) (.nil _)))) rfl⟩
  · rw [if_neg h] at c1 ⊢
    (repeat' ((conv => whnf); first | (refine CallK_pack2 (key1 := 78) (key2 := 77) rfl rfl (fun w hR h0 => c1 _ _ _ _ _ h0 (hG.cast2 hR)) ?_; rintro _ _ ⟨rfl,fp1',fp2',rfl⟩; refine ⟨.v _,rfl,?_⟩) | (refine bcase_prop (fun h => ?_) (fun h => ?_) <;> try (exfalso; omega)) | (refine bcase_nprop (fun h => ?_) (fun h => ?_) <;> try (exfalso; omega)) | (refine bcase_intro (fun h => ?_) (fun h => ?_) <;> (try simp only [Bool.not_eq_true',Bool.not_eq_false',decide_eq_true_eq,decide_eq_false_iff_not,Bool.not_eq_true,Bool.not_eq_false,Decidable.not_not] at h)) | refine And.intro (by first | omega | exact rfl | assumption | exact ⟨rfl,rfl,rfl,rfl,rfl⟩ | exact ⟨rfl,rfl,rfl,rfl⟩ | exact ⟨rfl,by omega⟩ | exact oneAll_of rfl | exact ⟨rfl,oneAll_of rfl⟩ | exact Ref.refl _ | exact Thin.ref (.skip (Thin.refl _)) | exact Thin.ref (.skip (.skip (Thin.refl _))) | exact ⟨rfl,Nat.le_of_ble_eq_true rfl⟩ | ((try unfold maxLen); (try simp only [List.length_nil,List.length_cons,List.length_append]); omega) | (refine ⟨rfl,?_⟩; (try simp only [List.length_nil,List.length_cons,List.length_append]); omega)) ?_ | intro _)); (all_goals (conv => whnf))
    exact ⟨endQ (.skip (.keep rfl (fun _ h => h) (.keep rfl (fun _ h => h) (.nil _)))) rfl⟩
def levRes (S : Sto) (id : Int) : Value := if 1 ≤ id ∧ id ≤ S.E.length then (if (tm S.E id).level < 0 then .tuple #[.int .i64 0,errV 4] else .tuple #[.int .i64 (tm S.E id).level,.nilIface]) else .tuple #[.int .i64 0,errV 1]
theorem calls_Level (bt bs : Nat) (S : Sto) (hw : WF S) (id : Int) : TC fn_P_keys_Table_Level #[pS bt,.int .i64 id] bt bs S (levRes S id) := by
  intro k1 k2 fp1 fp2 w hR hG
  have hR : R w (fp1 ++ fp2) [packE 78 fp1 (fT bt bs S.E),packE 77 fp2 (fS bs S)] w := (Thin.packE (Thin.packE (.nil []))).ref w hR
  refine part_call [.v (pS bt),.v (.int .i64 id)] ok_P_keys_Table_Level (by simp) hR ?_
  have c1 := calls_row bt bs S hw id
  unfold rowRes at c1
  unfold levRes
  by_cases h : 1 ≤ id ∧ id ≤ S.E.length
  · rw [if_pos h] at c1 ⊢
    by_cases h0 : (tm S.E id).level < 0
    · rw [if_pos h0]
      have h1 : ¬ 0 ≤ (rowT (tm S.E id)).2.1 := by simp only [rowT]; omega
      (repeat' ((conv => whnf); first | (refine CallK_pack2 (key1 := 78) (key2 := 77) rfl rfl (fun w hR h0 => c1 _ _ _ _ _ h0 (hG.cast2 hR)) ?_; rintro _ _ ⟨rfl,fp1',fp2',rfl⟩; refine ⟨.v _,rfl,?_⟩) | (refine bcase_prop (fun h => ?_) (fun h => ?_) <;> try (exfalso; omega)) | (refine bcase_nprop (fun h => ?_) (fun h => ?_) <;> try (exfalso; omega)) | (refine bcase_intro (fun h => ?_) (fun h => ?_) <;> (try simp only [Bool.not_eq_true',Bool.not_eq_false',decide_eq_true_eq,decide_eq_false_iff_not,Bool.not_eq_true,Bool.not_eq_false,Decidable.not_not] at h)) | refine And.intro (by first | omega | exact rfl | assumption | exact ⟨rfl,rfl,rfl,rfl,rfl⟩ | exact ⟨rfl,rfl,rfl,rfl⟩ | exact ⟨rfl,by omega⟩ | exact oneAll_of rfl | exact ⟨rfl,oneAll_of rfl⟩ | exact Ref.refl _ | exact Thin.ref (.skip (Thin.refl _)) | exact Thin.ref (.skip (.skip (Thin.refl _))) | exact ⟨rfl,Nat.le_of_ble_eq_true rfl⟩ | ((try unfold maxLen); (try simp only [List.length_nil,List.length_cons,List.length_append]); omega) | (refine ⟨rfl,?_⟩; (try simp only [List.length_nil,List.length_cons,List.length_append]); omega)) ?_ | intro _)); (all_goals (conv => whnf))
      · exact ⟨endQ (.skip (.keep rfl (fun _ h => h) (.keep rfl (fun _ h => h) (.nil _)))) rfl⟩
    · rw [if_neg h0]
      have h1 : 0 ≤ (rowT (tm S.E id)).2.1 := by simp only [rowT]; omega
      (repeat' ((conv => whnf); first | (refine CallK_pack2 (key1 := 78) (key2 := 77) rfl rfl (fun w hR h0 => c1 _ _ _ _ _ h0 (hG.cast2 hR)) ?_; rintro _ _ ⟨rfl,fp1',fp2',rfl⟩; refine ⟨.v _,rfl,?_⟩) | (refine bcase_prop (fun h => ?_) (fun h => ?_) <;> try (exfalso; omega)) | (refine bcase_nprop (fun h => ?_) (fun h => ?_) <;> try (exfalso; omega)) | (refine bcase_intro (fun h => ?_) (fun h => ?_) <;> (try simp only [Bool.not_eq_true',Bool.not_eq_false',decide_eq_true_eq,decide_eq_false_iff_not,Bool.not_eq_true,Bool.not_eq_false,Decidable.not_not] at h)) | refine And.intro (by first | omega | exact rfl | assumption | exact ⟨rfl,rfl,rfl,rfl,rfl⟩ | exact ⟨rfl,rfl,rfl,rfl⟩ | exact ⟨rfl,by omega⟩ | exact oneAll_of rfl | exact ⟨rfl,oneAll_of rfl⟩ | exact Ref.refl _ | exact Thin.ref (.skip (Thin.refl _)) | exact Thin.ref (.skip (.skip (Thin.refl _))) | exact ⟨rfl,Nat.le_of_ble_eq_true rfl⟩ | ((try unfold maxLen); (try simp only [List.length_nil,List.length_cons,List.length_append]); omega) | (refine ⟨rfl,?_⟩; (try simp only [List.length_nil,List.length_cons,List.length_append]); omega)) ?_ | intro _)); (all_goals (conv => whnf))
      · exact ⟨endQ (.skip (.keep rfl (fun _ h => h) (.keep rfl (fun _ h => h) (.nil _)))) rfl⟩
  · rw [if_neg h] at c1 ⊢
    (repeat' ((conv => whnf); first | (refine CallK_pack2 (key1 := 78) (key2 := 77) rfl rfl (fun w hR h0 => c1 _ _ _ _ _ h0 (hG.cast2 hR)) ?_; rintro _ _ ⟨rfl,fp1',fp2',rfl⟩; refine ⟨.v _,rfl,?_⟩) | (refine bcase_prop (fun h => ?_) (fun h => ?_) <;> try (exfalso; omega)) | (refine bcase_nprop (fun h => ?_) (fun h => ?_) <;> try (exfalso; omega)) | (refine bcase_intro (fun h => ?_) (fun h => ?_) <;> (try simp only [Bool.not_eq_true',Bool.not_eq_false',decide_eq_true_eq,decide_eq_false_iff_not,Bool.not_eq_true,Bool.not_eq_false,Decidable.not_not] at h)) | refine And.intro (by first | omega | exact rfl | assumption | exact ⟨rfl,rfl,rfl,rfl,rfl⟩ | exact ⟨rfl,rfl,rfl,rfl⟩ | exact ⟨rfl,by omega⟩ | exact oneAll_of rfl | exact ⟨rfl,oneAll_of rfl⟩ | exact Ref.refl _ | exact Thin.ref (.skip (Thin.refl _)) | exact Thin.ref (.skip (.skip (Thin.refl _))) | exact ⟨rfl,Nat.le_of_ble_eq_true rfl⟩ | ((try unfold maxLen); (try simp only [List.length_nil,List.length_cons,List.length_append]); omega) | (refine ⟨rfl,?_⟩; (try simp only [List.length_nil,List.length_cons,List.length_append]); omega)) ?_ | intro _)); (all_goals (conv => whnf))
    exact ⟨endQ (.skip (.keep rfl (fun _ h => h) (.keep rfl (fun _ h => h) (.nil _)))) rfl⟩
def newT (key bs : Nat) (E : List Entr) (v : Value) (L1 : List Ent) : Prop := ∃ b fp',v = pS b ∧ L1 = [packE key fp' (fT b bs E)]
theorem calls_newT (bs : Nat) (E : List Entr) (key : Nat) (w : World) : Calls Tryz.prog fn_keys_New #[pS bs] w fun e w' => ∃ v L1,e = .returned v ∧ R w [] L1 w' ∧ newT key bs E v L1 := by
  refine new_call [.v (pS bs)] ok_keys_New (by simp) ?_
  (repeat' ((conv => whnf); first | (refine bcase_prop (fun h => ?_) (fun h => ?_) <;> try (exfalso; omega)) | (refine bcase_nprop (fun h => ?_) (fun h => ?_) <;> try (exfalso; omega)) | (refine bcase_intro (fun h => ?_) (fun h => ?_) <;> (try simp only [Bool.not_eq_true',Bool.not_eq_false',decide_eq_true_eq,decide_eq_false_iff_not,Bool.not_eq_true,Bool.not_eq_false,Decidable.not_not] at h)) | refine And.intro (by first | omega | exact rfl | assumption | exact ⟨rfl,rfl,rfl,rfl,rfl⟩ | exact ⟨rfl,rfl,rfl,rfl⟩ | exact ⟨rfl,by omega⟩ | exact oneAll_of rfl | exact ⟨rfl,oneAll_of rfl⟩ | exact Ref.refl _ | exact Thin.ref (.skip (Thin.refl _)) | exact Thin.ref (.skip (.skip (Thin.refl _))) | exact ⟨rfl,Nat.le_of_ble_eq_true rfl⟩ | ((try unfold maxLen); (try simp only [List.length_nil,List.length_cons,List.length_append]); omega) | (refine ⟨rfl,?_⟩; (try simp only [List.length_nil,List.length_cons,List.length_append]); omega)) ?_ | intro _)); (all_goals (conv => whnf))
  rename_i b
  exact ⟨⟨_,(Ref.ownNil 2001 ty_keys_row 3).trans ((Ref.perm (.swap _ _ _)).trans (Ref.pack (key := key) (f := fT b bs E) ⟨[],TI.nil E,none,0⟩ (by rw [fT_eq]; exact .keep rfl (fun _ h => h) (.keep rfl (fun _ h => h) (.nil _))))),_,_,rfl,rfl⟩⟩
theorem packT_mono {k k' bt bs : Nat} {fp : List Nat} {E E' : List Entr} {L L' : List Ent} (h : Thin L L') : Thin (packE k fp (fT bt bs E) :: L) (packE k' fp (fT bt bs (E ++ E')) :: L') := by
  refine .keep rfl (fun w hok w' hs => ?_) h
  obtain ⟨⟨rows,ok,a,c⟩,h1,h2⟩ := hok w' hs
  exact ⟨⟨rows,ok.mono,a,c⟩,h1,h2⟩
end Go.Proofs.YtkkhpdkfploodaaGreatDoor
/- Keys and levels of the rules of a store,by the reference. -/
namespace Go.Proofs.YtkkhpdkfploodaaGreatDoor
open Go.EG
attribute [local irreducible] CallK QCall Go.Calls
set_option linter.unusedSimpArgs false
set_option linter.unusedVariables false
set_option maxRecDepth 20000
set_option maxHeartbeats 2000000
def ruls (E : List Entr) : List Rul := rul0 :: E.map (·.r)
theorem ruls_length (E : List Entr) : (ruls E).length = E.length + 1 := by simp [ruls]
theorem ruls_at {E : List Entr} {i : Nat} (h1 : 1 ≤ i) (h2 : i ≤ E.length) : (ruls E).getD i rul0 = (atE E i).r := by
  obtain ⟨j,rfl⟩ : ∃ j,i = j + 1 := ⟨i - 1,by omega⟩
  rw [show ((j + 1 : Nat) : Int) = (j : Int) + 1 by omega,atE_succ,ruls,List.getD_cons_succ,List.getD_eq_getElem?_getD,List.getD_eq_getElem?_getD,List.getElem?_map]
  have : j < E.length := by omega
  simp [this]
abbrev kvC (x : Nat × Int) : List Value := [.int .u64 x.1,.int .i64 x.2]
def kvsC (l : List (Nat × Int)) : List Value := l.flatMap kvC
theorem kvsC_at : ∀ {g : List (Nat × Int)} {i : Nat},i < g.length → ((kvsC g).drop (i * 2)).take 2 = kvC (g.getD i (0,0))
  | x :: g,0,_ => by simp [kvsC,kvC]
  | x :: g,i + 1,h => by
    have ih := kvsC_at (g := g) (i := i) (by simpa using h)
    have e1 : kvsC (x :: g) = kvC x ++ kvsC g := by simp [kvsC]
    rw [e1,show (i + 1) * 2 = (kvC x).length + i * 2 by simp [kvC]; omega,← List.drop_drop,List.drop_left]
    simpa using ih
theorem kvsC_snoc (g : List (Nat × Int)) (x : Nat × Int) : kvsC g ++ kvC x = kvsC (g ++ [x]) := by simp [kvsC]
def kvL (E : List Entr) (n : Nat) : List (Nat × Int) := (List.range n).map fun j : Nat => ((tm E j).key,(tm E j).level)
theorem kvL_length (E : List Entr) (n : Nat) : (kvL E n).length = n := by simp [kvL]
theorem kvL_succ (E : List Entr) (n : Nat) : kvL E (n + 1) = kvL E n ++ [((tm E n).key,(tm E n).level)] := by simp [kvL,List.range_succ]
theorem kvL_at {E : List Entr} {n i : Nat} (h : i < n) : (kvL E n).getD i (0,0) = ((tm E i).key,(tm E i).level) := by
  simp [kvL,List.getD_eq_getElem?_getD,h]
structure KvG where
  i : Nat
  a : Option Addr
  c : Nat
theorem calls_r20Keys (S : Sto) (hw : WF S) (a : Option Addr) (c : Nat) (w : World) (hin : In w [] a (rulsC (ruls S.E))) : Calls Tryz.prog fn_evergreenref20_Keys #[.slice a (S.E.length + 1) c] w (RetS ty_evergreenref20_Key 2 (S.E.length + 1) (kvsC (kvL S.E (S.E.length + 1))) w) := by
  refine slice_call [.v (.slice a (S.E.length + 1) c)] w ok_evergreenref20_Keys (by simp) ?_
  have hsm := hw.small
  have hne : a ≠ none := hin.ne' (k := 0) (by rw [rulsC_length,ruls_length]; omega)
  (repeat' ((conv => whnf); first | (refine bcase_prop (fun h => ?_) (fun h => ?_) <;> try (exfalso; omega)) | (refine bcase_nprop (fun h => ?_) (fun h => ?_) <;> try (exfalso; omega)) | (refine bcase_intro (fun h => ?_) (fun h => ?_) <;> (try simp only [Bool.not_eq_true',Bool.not_eq_false',decide_eq_true_eq,decide_eq_false_iff_not,Bool.not_eq_true,Bool.not_eq_false,Decidable.not_not] at h)) | refine And.intro (by first | omega | exact rfl | assumption | exact ⟨rfl,rfl,rfl,rfl,rfl⟩ | exact ⟨rfl,rfl,rfl,rfl⟩ | exact ⟨rfl,by omega⟩ | exact oneAll_of rfl | exact ⟨rfl,oneAll_of rfl⟩ | exact Ref.refl _ | exact Thin.ref (.skip (Thin.refl _)) | exact Thin.ref (.skip (.skip (Thin.refl _))) | exact ⟨rfl,Nat.le_of_ble_eq_true rfl⟩ | ((try unfold maxLen); (try simp only [List.length_nil,List.length_cons,List.length_append]); omega) | (refine ⟨rfl,?_⟩; (try simp only [List.length_nil,List.length_cons,List.length_append]); omega)) ?_ | intro _)); (all_goals (conv => whnf))
  rename_i b10
  refine VC_loop KvG (fun x => [(0,.v (.slice a (S.E.length + 1) c)),(3,.sl 500 x.a x.i x.c),(4,.v (.int .i64 x.i))]) (fun x => [.own 500 x.a x.i x.c ty_evergreenref20_Key 2 (kvsC (kvL S.E x.i))])
    (fun x => 1 ≤ x.i ∧ x.i ≤ S.E.length + 1) (fun x => S.E.length + 1 - x.i) ⟨1,some ⟨b10,0,none⟩,1⟩ ⟨Nat.le_refl _,by simp⟩ (by (repeat ((conv => whnf); refine And.intro (by first | exact rfl | exact vint_eq (by omega) | exact vint_eq (by (dsimp only; omega)) | exact vsl_eq (by omega) | exact vsl_eq (by first | (dsimp only; omega) | (simp; done) | (simp; omega))) ?_)); exact trivial) (Thin.ref (.own rfl rfl (.nil _))) ?_
  rintro ⟨i,a3,c3⟩ ⟨h1,h2⟩
  dsimp only at h1 h2 ⊢
  by_cases hlt : i ≤ S.E.length
  case neg =>
    have : i = S.E.length + 1 := by omega
    subst this
    (repeat' ((conv => whnf); first | (refine bcase_prop (fun h => ?_) (fun h => ?_) <;> try (exfalso; omega)) | (refine bcase_nprop (fun h => ?_) (fun h => ?_) <;> try (exfalso; omega)) | (refine bcase_intro (fun h => ?_) (fun h => ?_) <;> (try simp only [Bool.not_eq_true',Bool.not_eq_false',decide_eq_true_eq,decide_eq_false_iff_not,Bool.not_eq_true,Bool.not_eq_false,Decidable.not_not] at h)) | refine And.intro (by first | omega | exact rfl | assumption | exact ⟨rfl,rfl,rfl,rfl,rfl⟩ | exact ⟨rfl,rfl,rfl,rfl⟩ | exact ⟨rfl,by omega⟩ | exact oneAll_of rfl | exact ⟨rfl,oneAll_of rfl⟩ | exact Ref.refl _ | exact Thin.ref (.skip (Thin.refl _)) | exact Thin.ref (.skip (.skip (Thin.refl _))) | exact ⟨rfl,Nat.le_of_ble_eq_true rfl⟩ | ((try unfold maxLen); (try simp only [List.length_nil,List.length_cons,List.length_append]); omega) | (refine ⟨rfl,?_⟩; (try simp only [List.length_nil,List.length_cons,List.length_append]); omega)) ?_ | intro _)); (all_goals (conv => whnf))
    exact ⟨a3,c3,rfl,Thin.ref (.own rfl rfl (.nil _))⟩
  · have hrul := rulsC_at (g := ruls S.E) (i := i) (by rw [ruls_length]; omega)
    rw [ruls_at h1 hlt] at hrul
    have hr1 := fun {L : List Ent} => hin.rdn (L := L) (vs := ruC (atE S.E i).r) (k := i * 5) (Nat.succ_pos _) hrul
    obtain ⟨hr,hl,htm,_,_⟩ := hw.at_ (n := i) (by omega) (by omega)
    have htim := hw.tim (n := i) (by omega) (by omega)
    have hk0 := kvL_succ S.E i
    have hsn := kvsC_snoc (kvL S.E i) ((tm S.E i).key,(tm S.E i).level)
    rw [← hk0] at hsn
    have la : 0 ≤ (atE S.E i).r.a ∧ (atE S.E i).r.a < i := by rcases hr with h | h | h <;> omega
    have lb : 0 ≤ (atE S.E i).r.b ∧ (atE S.E i).r.b < i := by rcases hr with h | h | h <;> omega
    have va := hw.lev' la.1 (by omega)
    have vb := hw.lev' lb.1 (by omega)
    have ba := (tm S.E (atE S.E i).r.a).key_lt'
    have bb := (tm S.E (atE S.E i).r.b).key_lt'
    have hinj := fun q1 q2 q3 q4 => hw.inj_iff (i := (atE S.E i).r.a) (j := (atE S.E i).r.b) q1 q2 q3 q4
    have rda := kvsC_at (g := kvL S.E i) (i := (atE S.E i).r.a.toNat) (by rw [kvL_length]; omega)
    have rdb := kvsC_at (g := kvL S.E i) (i := (atE S.E i).r.b.toNat) (by rw [kvL_length]; omega)
    rw [kvL_at (by omega),show (((atE S.E i).r.a.toNat : Nat) : Int) = (atE S.E i).r.a by omega] at rda
    rw [kvL_at (by omega),show (((atE S.E i).r.b.toNat : Nat) : Int) = (atE S.E i).r.b by omega] at rdb
    have hnx : 1 ≤ i + 1 ∧ i + 1 ≤ S.E.length + 1 := by omega
    have hmx : i + 1 ≤ maxLen ∧ (i + 1) * 16 ≤ 140737488355328 := ⟨by unfold maxLen; omega,by omega⟩
    rw [htm] at hsn
    unfold mkT at hsn
    generalize (atE S.E i).r = r at *
    simp only [okR] at hr
    generalize tm S.E r.a = ta at *
    generalize tm S.E r.b = tb at *
    rcases hr with ⟨e1,e2,e3,e4,_⟩ | ⟨e1,e2,e3,e4,e5,e6,e7⟩ | ⟨e1,e2,e3,e4,e5,e6⟩
    · rw [if_pos e1] at hsn
      have c1 := calls_rMix 1 r.l.toNat 0 (by decide) (by omega) (by decide)
      have q : r.l % 18446744073709551616 = (r.l.toNat : Int) := by omega
      have hs2 : kvsC (kvL S.E i) ++ [.int .u64 (mixN 1 r.l.toNat 0),.int .i64 0] = kvsC (kvL S.E (i + 1)) := hsn
      clear hsn
      (repeat' ((conv => whnf); first | rw [q] | rw [Int.toNat_natCast] | rw [hs2] | refine ⟨_,rfl,hr1,?_⟩ | refine ldRow rda ?_ | refine ldRow rdb ?_ | (first | refine CallK_pure (.v _) (fun w hR => c1 w) ?_ | refine QCall_pure (.v _) (fun w hR => c1 w) ?_) | refine stop_and ?_ ?_ | (refine bcase_prop (fun h => ?_) (fun h => ?_) <;> try (exfalso; omega)) | (refine bcase_nprop (fun h => ?_) (fun h => ?_) <;> try (exfalso; omega)) | (refine bcase_intro (fun h => ?_) (fun h => ?_) <;> (try simp only [Bool.not_eq_true',Bool.not_eq_false',decide_eq_true_eq,decide_eq_false_iff_not,Bool.not_eq_true,Bool.not_eq_false,Decidable.not_not] at h)) | refine And.intro (by first | omega | exact rfl | assumption | exact ⟨rfl,rfl,rfl,rfl,rfl⟩ | exact ⟨rfl,rfl,rfl,rfl⟩ | exact ⟨rfl,by omega⟩ | exact oneAll_of rfl | exact ⟨rfl,oneAll_of rfl⟩ | exact Ref.refl _ | exact Thin.ref (.skip (Thin.refl _)) | exact Thin.ref (.skip (.skip (Thin.refl _))) | exact hne | (intro _; exact Thin.ref (by (repeat (first | exact Thin.nil _ | exact Thin.refl _ | refine Thin.keep rfl (fun _ h => h) ?_ | refine Thin.skip ?_)))) | exact ⟨rfl,Nat.le_of_ble_eq_true rfl⟩ | ((try unfold maxLen); (try simp only [List.length_nil,List.length_cons,List.length_append]); omega) | (refine ⟨rfl,?_⟩; (try simp only [List.length_nil,List.length_cons,List.length_append]); omega)) ?_ | intro _)); (all_goals (conv => whnf))
      all_goals (rename_i a' c'; refine loop_next ⟨i + 1,a',c'⟩ hnx (by ((try dsimp only); omega)) (by (repeat ((conv => whnf); refine And.intro (by first | exact rfl | exact vint_eq (by omega) | exact vint_eq (by (dsimp only; omega)) | exact vsl_eq (by omega) | exact vsl_eq (by first | (dsimp only; omega) | (simp; done) | (simp; omega))) ?_)); exact trivial) (Thin.ref (.skip (.skip (.skip (.skip (.skip (.own rfl rfl (.nil _)))))))))
    · rw [if_neg (by omega),if_pos e1] at hsn
      have c1 := calls_rMix 2 ta.key tb.key (by decide) ba bb
      have hlv : (Tm.pr ta tb).level = if ta ≠ tb ∧ 0 ≤ ta.level ∧ 0 ≤ tb.level then afterF (max ta.level tb.level) ta.key tb.key else -1 := rfl
      have hky : (Tm.pr ta tb).key = mixN 2 ta.key tb.key := rfl
      rw [hlv,hky] at hsn
      clear hlv hky
      have hi := hinj e4 (by omega) e6 (by omega)
      have c2 := fun (h1 : 0 ≤ ta.level) (h2 : 0 ≤ tb.level) => calls_rAfter (max ta.level tb.level) ta.key tb.key (by omega) (by omega) ba bb
      generalize ta.level = va' at *
      generalize tb.level = vb' at *
      have hs1 : r.a ≠ r.b → 0 ≤ va' → 0 ≤ vb' → kvsC (kvL S.E i) ++ [.int .u64 (mixN 2 ta.key tb.key),.int .i64 (afterF (max va' vb') ta.key tb.key)] = kvsC (kvL S.E (i + 1)) := fun q1 q2 q3 => by
        rw [if_pos ⟨fun h => q1 (hi.1 h),q2,q3⟩] at hsn; exact hsn
      have hs2 : ¬ (r.a ≠ r.b ∧ 0 ≤ va' ∧ 0 ≤ vb') → kvsC (kvL S.E i) ++ [.int .u64 (mixN 2 ta.key tb.key),.int .i64 (-1)] = kvsC (kvL S.E (i + 1)) := fun q1 => by
        rw [if_neg (fun h => q1 ⟨fun h' => h.1 (hi.2 h'),h.2⟩)] at hsn; exact hsn
      clear hsn
      (repeat' ((conv => whnf); first | rw [Int.toNat_natCast] | rw [hs1 (by omega) (by omega) (by omega)] | rw [hs2 (by omega)] | refine ⟨_,rfl,hr1,?_⟩ | refine ldRow rda ?_ | refine ldRow rdb ?_ | (first | refine CallK_pure (.v _) (fun w hR => c1 w) ?_ | refine QCall_pure (.v _) (fun w hR => c1 w) ?_) | (refine CallK_pure (.v _) (fun w hR => c2 (by omega) (by omega) w) ?_) | refine stop_and ?_ ?_ | (refine bcase_prop (fun h => ?_) (fun h => ?_) <;> try (exfalso; omega)) | (refine bcase_nprop (fun h => ?_) (fun h => ?_) <;> try (exfalso; omega)) | (refine bcase_intro (fun h => ?_) (fun h => ?_) <;> (try simp only [Bool.not_eq_true',Bool.not_eq_false',decide_eq_true_eq,decide_eq_false_iff_not,Bool.not_eq_true,Bool.not_eq_false,Decidable.not_not] at h)) | refine And.intro (by first | omega | exact rfl | assumption | exact ⟨rfl,rfl,rfl,rfl,rfl⟩ | exact ⟨rfl,rfl,rfl,rfl⟩ | exact ⟨rfl,by omega⟩ | exact oneAll_of rfl | exact ⟨rfl,oneAll_of rfl⟩ | exact Ref.refl _ | exact Thin.ref (.skip (Thin.refl _)) | exact Thin.ref (.skip (.skip (Thin.refl _))) | exact hne | (intro _; exact Thin.ref (by (repeat (first | exact Thin.nil _ | exact Thin.refl _ | refine Thin.keep rfl (fun _ h => h) ?_ | refine Thin.skip ?_)))) | exact ⟨rfl,Nat.le_of_ble_eq_true rfl⟩ | ((try unfold maxLen); (try simp only [List.length_nil,List.length_cons,List.length_append]); omega) | (refine ⟨rfl,?_⟩; (try simp only [List.length_nil,List.length_cons,List.length_append]); omega)) ?_ | intro _)); (all_goals (conv => whnf))
      all_goals (rename_i a' c'; refine loop_next ⟨i + 1,a',c'⟩ hnx (by ((try dsimp only); omega)) (by (repeat ((conv => whnf); refine And.intro (by first | exact rfl | exact vint_eq (by omega) | exact vint_eq (by (dsimp only; omega)) | exact vsl_eq (by omega) | exact vsl_eq (by first | (dsimp only; omega) | (simp; done) | (simp; omega))) ?_)); exact trivial) (Thin.ref (.skip (.skip (.skip (.skip (.skip (.own rfl rfl (.nil _)))))))))
    · rw [if_neg (by omega),if_neg (by omega)] at hsn
      have c1 := calls_rMix 3 ta.key r.t.toNat (by decide) ba (by omega)
      have q : r.t % 18446744073709551616 = (r.t.toNat : Int) := by omega
      have hlv : (Tm.pw ta r.t.toNat).level = if 0 ≤ ta.level ∧ ta.level % 2 = 0 then ta.level + 1 else -1 := rfl
      have hky : (Tm.pw ta r.t.toNat).key = mixN 3 ta.key r.t.toNat := rfl
      rw [hlv,hky] at hsn
      clear hlv hky
      generalize ta.level = va' at *
      have hs1 : 0 ≤ va' → va' % 2 = 0 → kvsC (kvL S.E i) ++ [.int .u64 (mixN 3 ta.key r.t.toNat),.int .i64 (va' + 1)] = kvsC (kvL S.E (i + 1)) := fun q1 q2 => by
        rw [if_pos ⟨q1,q2⟩] at hsn; exact hsn
      have hs2 : ¬ (0 ≤ va' ∧ va' % 2 = 0) → kvsC (kvL S.E i) ++ [.int .u64 (mixN 3 ta.key r.t.toNat),.int .i64 (-1)] = kvsC (kvL S.E (i + 1)) := fun q1 => by
        rw [if_neg q1] at hsn; exact hsn
      clear hsn
      (repeat' ((conv => whnf); first | rw [q] | rw [Int.toNat_natCast] | rw [hs1 (by omega) (by omega)] | rw [hs2 (by omega)] | refine ⟨_,rfl,hr1,?_⟩ | refine ldRow rda ?_ | refine ldRow rdb ?_ | (first | refine CallK_pure (.v _) (fun w hR => c1 w) ?_ | refine QCall_pure (.v _) (fun w hR => c1 w) ?_) | refine stop_and ?_ ?_ | (refine bcase_prop (fun h => ?_) (fun h => ?_) <;> try (exfalso; omega)) | (refine bcase_nprop (fun h => ?_) (fun h => ?_) <;> try (exfalso; omega)) | (refine bcase_intro (fun h => ?_) (fun h => ?_) <;> (try simp only [Bool.not_eq_true',Bool.not_eq_false',decide_eq_true_eq,decide_eq_false_iff_not,Bool.not_eq_true,Bool.not_eq_false,Decidable.not_not] at h)) | refine And.intro (by first | omega | exact rfl | assumption | exact ⟨rfl,rfl,rfl,rfl,rfl⟩ | exact ⟨rfl,rfl,rfl,rfl⟩ | exact ⟨rfl,by omega⟩ | exact oneAll_of rfl | exact ⟨rfl,oneAll_of rfl⟩ | exact Ref.refl _ | exact Thin.ref (.skip (Thin.refl _)) | exact Thin.ref (.skip (.skip (Thin.refl _))) | exact hne | (intro _; exact Thin.ref (by (repeat (first | exact Thin.nil _ | exact Thin.refl _ | refine Thin.keep rfl (fun _ h => h) ?_ | refine Thin.skip ?_)))) | exact ⟨rfl,Nat.le_of_ble_eq_true rfl⟩ | ((try unfold maxLen); (try simp only [List.length_nil,List.length_cons,List.length_append]); omega) | (refine ⟨rfl,?_⟩; (try simp only [List.length_nil,List.length_cons,List.length_append]); omega)) ?_ | intro _)); (all_goals (conv => whnf))
      all_goals (rename_i a' c'; refine loop_next ⟨i + 1,a',c'⟩ hnx (by ((try dsimp only); omega)) (by (repeat ((conv => whnf); refine And.intro (by first | exact rfl | exact vint_eq (by omega) | exact vint_eq (by (dsimp only; omega)) | exact vsl_eq (by omega) | exact vsl_eq (by first | (dsimp only; omega) | (simp; done) | (simp; omega))) ?_)); exact trivial) (Thin.ref (.skip (.skip (.skip (.skip (.skip (.own rfl rfl (.nil _)))))))))
end Go.Proofs.YtkkhpdkfploodaaGreatDoor
/- The lengths of a grammar's texts,by the reference. -/
namespace Go.Proofs.YtkkhpdkfploodaaGreatDoor
open Go.EG
attribute [local irreducible] CallK QCall Go.Calls
set_option linter.unusedSimpArgs false
set_option linter.unusedVariables false
set_option maxRecDepth 20000
set_option maxHeartbeats 1000000
structure LenG where
  i : Nat
  ms : List Tm
  a : Option Addr
  c : Nat
end Go.Proofs.YtkkhpdkfploodaaGreatDoor
/- Rows of one's own,taken out or read. Generic over the program: no condition. -/
namespace Go.Proofs.YtkkhpdkfploodaaGreatDoor
open Go.EG
set_option linter.unusedVariables false
theorem rdO {w0 : World} {fp0 : List Nat} {L : List Ent} (key : Nat) {a : Option Addr} {n c T sz i : Nat} {xs : List Value} {v : Value} (h : ownAt key L = some ⟨a,n,c,T,sz,xs⟩) (hv : xs[i]? = some v) : Rd w0 fp0 L (.el a i) [v] := by
  refine Rd.own h (Nat.succ_pos _) ?_
  obtain ⟨hi,hv⟩ := List.getElem?_eq_some_iff.1 hv
  rw [List.drop_eq_getElem_cons hi,hv]; rfl
theorem CallK_packO {P : Program} {w0 : World} {fp0 : List Nat} {L : List Ent} {f : FuncId} {args : List Value} {k : SV → List Ent → Prop} {key : Nat} {fp : List Nat} {α β : Type} {fA : α → List Ent} {Lr : List Ent} {Q : Value → List Ent → Prop} (key' : Nat) (fB : β → List Ent) (hp : pickE key L = some (packE key fp fA,Lr))
    (h : ∀ w,R w0 fp0 (packE key fp fA :: Lr) w → R w fp [packE key fp fA] w → Calls P f args.toArray w fun e w' => ∃ v L1,e = .returned v ∧ R w fp L1 w' ∧ Q v L1)
    (hk : ∀ v L1,Q v L1 → ∃ fp' L2,L1 = packE key' fp' fB :: L2 ∧ ∀ x w',R w0 fp0 (fB x ++ (L2 ++ Lr)) w' → ∃ s : SV,s.val = v ∧ k s (fB x ++ (L2 ++ Lr))) : CallK P w0 fp0 f args L k := fun w hR => by
  have e1 : fps [packE key fp fA] = fp := by simp [packE,Ent.fp,fps]
  have hR1 : R w0 fp0 ([packE key fp fA] ++ Lr) w := hR.perm (pickE_perm hp)
  have h0 := hR1.restart
  rw [e1] at h0
  refine (h w hR1 h0).mono fun e w' ⟨v,L1,he,hR',hq⟩ => ?_
  obtain ⟨fp',L2,rfl,hk⟩ := hk v L1 hq
  rw [← e1] at hR'
  obtain ⟨x,_,hR2⟩ := (R.call hR1 hR').unpack
  obtain ⟨s,hs,hk⟩ := hk x w' hR2
  exact ⟨v,s,fB x ++ (L2 ++ Lr),he,hs,hR2,hk⟩
end Go.Proofs.YtkkhpdkfploodaaGreatDoor
/- Letters,ranges and ways in texts of rules. Plain Lean: no program in sight. -/
namespace Go.Proofs.YtkkhpdkfploodaaGreatDoor
open Go.EG
set_option linter.unusedSimpArgs false
set_option linter.unusedVariables false
def sub (t : List Nat) (i n : Nat) : List Nat := (t.drop i).take n
theorem sub_zero (t : List Nat) (i : Nat) : sub t i 0 = [] := by simp [sub]
theorem WF.below {S : Sto} (hw : WF S) {n : Int} (h1 : 1 ≤ n) (h2 : n ≤ S.E.length) :
    ((atE S.E n).r.k = 1 ∧ tm S.E n = .lt (atE S.E n).r.l.toNat) ∨
    ((atE S.E n).r.k = 2 ∧ tm S.E n = .pr (tm S.E (atE S.E n).r.a) (tm S.E (atE S.E n).r.b) ∧ 1 ≤ (atE S.E n).r.a ∧ (atE S.E n).r.a < n ∧ 1 ≤ (atE S.E n).r.b ∧ (atE S.E n).r.b < n) ∨
    ((atE S.E n).r.k = 3 ∧ tm S.E n = .pw (tm S.E (atE S.E n).r.a) (atE S.E n).r.t.toNat ∧ 1 ≤ (atE S.E n).r.a ∧ (atE S.E n).r.a < n ∧ 2 ≤ (atE S.E n).r.t) := by
  obtain ⟨hr,_,ht,_,_⟩ := hw.at_ h1 h2
  rcases hr with hr | ⟨e1,e2,e3,e4,e5,e6,e7⟩ | ⟨e1,e2,e3,e4,e5,e6⟩
  · exact .inl ⟨hr.1,by rw [ht,mkT,if_pos hr.1]⟩
  · exact .inr (.inl ⟨e1,by rw [ht,mkT,if_neg (by omega),if_pos e1],e4,e5,e6,e7⟩)
  · exact .inr (.inr ⟨e1,by rw [ht,mkT,if_neg (by omega),if_neg (by omega)],e5,e6,e4⟩)
section
variable {S : Sto} (hw : WF S) {n : Int} {i : Nat}
theorem Tm.len_pr (a b : Tm) : (Tm.pr a b).len = a.len + b.len := by unfold Tm.len; rw [Tm.txt,List.length_append]
theorem Tm.len_pw (a : Tm) (k : Nat) : (Tm.pw a k).len = k * a.len := by unfold Tm.len; rw [Tm.txt,rep_length]
end
end Go.Proofs.YtkkhpdkfploodaaGreatDoor
/- What a rule reaches,and the grammar that is handed out. Plain Lean: no program in sight. -/
namespace Go.Proofs.YtkkhpdkfploodaaGreatDoor
open Go.EG
set_option linter.unusedSimpArgs false
set_option linter.unusedVariables false
structure Rch (S : Sto) (id : Int) (L : List Int) : Prop where
  asc : L.Pairwise (· < ·)
  pos : ∀ x ∈ L,1 ≤ x ∧ x ≤ id
  cls : ∀ x ∈ L,∀ y ∈ refsL (atE S.E x).r,y ∈ L
  top : id ≠ 0 → id ∈ L
  rea : ∀ x ∈ L,x ≠ id → ∃ z ∈ L,x ∈ refsL (atE S.E z).r
def posn (L : List Int) (x : Int) : Int := if x ∈ L then (L.idxOf x : Int) + 1 else 0
def ren (L : List Int) (r : Rul) : Rul := { r with a := posn L r.a,b := posn L r.b }
def xg (S : Sto) (L : List Int) : List Rul := L.map fun x => ren L (atE S.E x).r
theorem xg_length (S : Sto) (L : List Int) : (xg S L).length = L.length := by simp [xg]
theorem asc_get {L : List Int} (h : L.Pairwise (· < ·)) {i j : Nat} (hij : i < j) (hj : j < L.length) : L.getD i 0 < L.getD j 0 := by
  rw [List.pairwise_iff_getElem] at h
  have := h i j (by omega) hj hij
  simpa [List.getD_eq_getElem?_getD,List.getElem?_eq_getElem (show i < L.length by omega),List.getElem?_eq_getElem hj] using this
theorem getD_mem {L : List Int} {i : Nat} (hi : i < L.length) : L.getD i 0 ∈ L := by
  rw [List.getD_eq_getElem?_getD,List.getElem?_eq_getElem hi]
  exact List.getElem_mem hi
theorem idxOf_getD {L : List Int} {x : Int} (h : x ∈ L) : L.idxOf x < L.length ∧ L.getD (L.idxOf x) 0 = x := by
  have hl := List.idxOf_lt_length_of_mem h
  refine ⟨hl,?_⟩
  rw [List.getD_eq_getElem?_getD,List.getElem?_eq_getElem hl]
  simp
theorem asc_idx {L : List Int} (h : L.Pairwise (· < ·)) {i : Nat} {x : Int} (hi : i < L.length) (hx : x ∈ L) (hlt : x < L.getD i 0) : L.idxOf x < i := by
  obtain ⟨h1,h2⟩ := idxOf_getD hx
  refine Decidable.byContradiction fun hc => ?_
  by_cases he : L.idxOf x = i
  · rw [he] at h2; omega
  · have := asc_get h (show i < L.idxOf x by omega) h1
    omega
theorem posn_mem {L : List Int} {x : Int} (h : x ∈ L) : posn L x = (L.idxOf x : Int) + 1 := if_pos h
theorem posn_not {L : List Int} {x : Int} (h : x ∉ L) : posn L x = 0 := if_neg h
theorem refs_two {r : Rul} (h : r.k = 2) : refsL r = [r.a,r.b] := if_pos h
theorem refs_one {r : Rul} (h : r.k = 3) : refsL r = [r.a] := by rw [refsL,if_neg (by omega),if_pos h]
theorem WF.okAt {S : Sto} (hw : WF S) {x : Int} (h1 : 1 ≤ x) (h2 : x ≤ S.E.length) : okR (atE S.E x).r x := by
  have := hw.rul (x.toNat - 1) (by omega)
  unfold atE
  rw [if_neg (by omega)]
  rw [show ((x.toNat - 1 : Nat) : Int) + 1 = x by omega] at this
  exact this
theorem WF.letAt {S : Sto} (hw : WF S) {x : Int} (h1 : 1 ≤ x) (h2 : x ≤ S.E.length) : 0 ≤ (atE S.E x).r.l ∧ (atE S.E x).r.l < 256 := by
  have := hw.let_ (x.toNat - 1) (by omega)
  unfold atE
  rw [if_neg (by omega)]
  exact this
theorem WF.tmAt {S : Sto} (hw : WF S) {x : Int} (h1 : 1 ≤ x) (h2 : x ≤ S.E.length) : tm S.E x = mkT S.E (atE S.E x).r := by
  have := hw.tms (x.toNat - 1) (by omega)
  unfold tm atE
  rw [if_neg (by omega)]
  exact this
theorem take_snoc {α : Type} {L : List α} {i : Nat} {d : α} (h : i < L.length) : L.take (i + 1) = L.take i ++ [L.getD i d] := by
  rw [List.take_add_one,List.getElem?_eq_getElem h,List.getD_eq_getElem?_getD,List.getElem?_eq_getElem h]
  rfl
theorem getD_map {α β : Type} {L : List α} {f : α → β} {i : Nat} {d : α} {e : β} (h : i < L.length) : (L.map f).getD i e = f (L.getD i d) := by
  rw [List.getD_eq_getElem?_getD,List.getD_eq_getElem?_getD,List.getElem?_map,List.getElem?_eq_getElem h]
  rfl
theorem Rch.term {S : Sto} (hw : WF S) {id : Int} {L : List Int} (h : Rch S id L) (hk : id ≤ S.E.length) {i : Nat} (hi : i < L.length) :
    gT ((L.take i).map (tm S.E)) (ren L (atE S.E (L.getD i 0)).r) = tm S.E (L.getD i 0) := by
  have hm := getD_mem hi
  obtain ⟨p1,p2⟩ := h.pos _ hm
  have ho := hw.okAt p1 (by omega)
  rw [hw.tmAt p1 (by omega)]
  have key : ∀ y,y ∈ refsL (atE S.E (L.getD i 0)).r → y < L.getD i 0 → mAt ((L.take i).map (tm S.E)) (posn L y) = tm S.E y := by
    intro y hy hlt
    have hyL := h.cls _ hm y hy
    have hx := asc_idx h.asc hi hyL hlt
    rw [posn_mem hyL]
    unfold mAt
    rw [if_neg (by omega),show ((L.idxOf y : Int) + 1).toNat - 1 = L.idxOf y by omega,getD_map (d := 0) (by rw [List.length_take]; omega),List.getD_eq_getElem?_getD,List.getElem?_take,if_pos hx,← List.getD_eq_getElem?_getD,(idxOf_getD hyL).2]
  generalize (atE S.E (L.getD i 0)).r = r at *
  unfold gT mkT ren
  rcases ho with ⟨hk1,_⟩ | ⟨hk2,_,_,_,ha,_,hb⟩ | ⟨hk3,_,_,_,_,ha⟩
  · simp only [hk1,if_true]
  · simp only [hk2]
    rw [key r.a (by rw [refs_two hk2]; simp) ha,key r.b (by rw [refs_two hk2]; simp) hb]
  · simp only [hk3]
    rw [key r.a (by rw [refs_one hk3]; simp) ha,if_neg (by decide),if_neg (by decide),if_neg (by decide),if_neg (by decide)]
theorem Rch.ok {S : Sto} (hw : WF S) {id : Int} {L : List Int} (h : Rch S id L) (hk : id ≤ S.E.length) {i : Nat} (hi : i < L.length) : okR ((xg S L).getD i rul0) (i + 1) := by
  have hm := getD_mem hi
  obtain ⟨p1,p2⟩ := h.pos _ hm
  have ho := hw.okAt p1 (by omega)
  have hn : (0 : Int) ∉ L := fun h0 => by have := (h.pos 0 h0).1; omega
  have key : ∀ y,y ∈ refsL (atE S.E (L.getD i 0)).r → y < L.getD i 0 → 1 ≤ posn L y ∧ posn L y < (i : Int) + 1 := by
    intro y hy hlt
    have hyL := h.cls _ hm y hy
    have hx := asc_idx h.asc hi hyL hlt
    rw [posn_mem hyL]
    omega
  rw [xg,getD_map (d := 0) hi]
  generalize (atE S.E (L.getD i 0)).r = r at *
  unfold okR ren
  rcases ho with ⟨hk1,e1,e2,e3,e4⟩ | ⟨hk2,e1,e2,_,ha,_,hb⟩ | ⟨hk3,e1,e2,e3,_,ha⟩
  · refine .inl ⟨hk1,?_,?_,e3,by omega⟩
    · show posn L r.a = 0; rw [e1]; exact posn_not hn
    · show posn L r.b = 0; rw [e2]; exact posn_not hn
  · have k1 := key r.a (by rw [refs_two hk2]; simp) ha
    have k2 := key r.b (by rw [refs_two hk2]; simp) hb
    exact .inr (.inl ⟨hk2,e1,e2,k1.1,k1.2,k2.1,k2.2⟩)
  · have k1 := key r.a (by rw [refs_one hk3]; simp) ha
    refine .inr (.inr ⟨hk3,e1,?_,e3,k1.1,k1.2⟩)
    show posn L r.b = 0; rw [e2]; exact posn_not hn
theorem Rch.let_ {S : Sto} (hw : WF S) {id : Int} {L : List Int} (h : Rch S id L) (hk : id ≤ S.E.length) {i : Nat} (hi : i < L.length) : 0 ≤ ((xg S L).getD i rul0).l ∧ ((xg S L).getD i rul0).l < 256 := by
  obtain ⟨p1,p2⟩ := h.pos _ (getD_mem hi)
  rw [xg,getD_map (d := 0) hi]
  exact hw.letAt p1 (by omega)
theorem Rch.last {S : Sto} {id : Int} {L : List Int} (h : Rch S id L) (h0 : id ≠ 0) : 0 < L.length ∧ L.getD (L.length - 1) 0 = id := by
  have hm := h.top h0
  obtain ⟨h1,h2⟩ := idxOf_getD hm
  refine ⟨by omega,?_⟩
  by_cases he : L.idxOf id = L.length - 1
  · rw [← he]; exact h2
  · have := asc_get h.asc (show L.idxOf id < L.length - 1 by omega) (by omega)
    have := (h.pos _ (getD_mem (show L.length - 1 < L.length by omega))).2
    omega
theorem Rch.len {S : Sto} {id : Int} {L : List Int} (h : Rch S id L) : (L.length : Int) ≤ id ∨ L = [] := by
  cases hL : L with
  | nil => exact .inr rfl
  | cons x t =>
    refine .inl ?_
    have : ∀ i,i < L.length → (i : Int) + 1 ≤ L.getD i 0 := by
      intro i
      induction i with
      | zero => intro hi; have := (h.pos _ (getD_mem hi)).1; omega
      | succ i ih =>
        intro hi
        have h1 := ih (by omega)
        have h2 := asc_get h.asc (show i < i + 1 by omega) hi
        omega
    have hl : 0 < L.length := by rw [hL]; simp
    have h1 := this (L.length - 1) (by omega)
    have h2 := (h.pos _ (getD_mem (show L.length - 1 < L.length by omega))).2
    rw [← hL]
    omega
theorem Rch.small {S : Sto} (hw : WF S) {id : Int} {L : List Int} (h : Rch S id L) (hk : known S id) : L.length ≤ 1048576 := by
  have := hw.small
  have := hk.2
  rcases h.len with h | h
  · omega
  · rw [h]; simp
structure Bfs (S : Sto) (id : Int) (i : Nat) (L : List Int) : Prop where
  nod : L.Nodup
  pos : ∀ x ∈ L,1 ≤ x ∧ x ≤ id
  cls : ∀ j,j < i → ∀ y ∈ refsL (atE S.E (L.getD j 0)).r,y ∈ L
  top : id ∈ L
  rea : ∀ x ∈ L,x ≠ id → ∃ z ∈ L,x ∈ refsL (atE S.E z).r
theorem Bfs.start {S : Sto} {id : Int} (h : 1 ≤ id) : Bfs S id 0 [id] :=
  ⟨by simp,fun x hx => by rw [List.mem_singleton] at hx; subst hx; omega,fun j hj => absurd hj (by omega),by simp,fun x hx hn => absurd (List.mem_singleton.1 hx) hn⟩
theorem nodup_len : ∀ {n : Nat} {L : List Int},L.Nodup → (∀ x ∈ L,1 ≤ x ∧ x ≤ n) → L.length ≤ n
  | 0,[],_,_ => Nat.le_refl _
  | 0,x :: t,_,h => absurd (h x (by simp)) (by omega)
  | n + 1,L,hn,h => by
    have h1 : (L.erase ((n : Int) + 1)).length ≤ n := nodup_len (hn.erase _) fun x hx => by
      have h2 := h x (List.mem_of_mem_erase hx)
      have h3 : x ≠ (n : Int) + 1 := fun he => by
        subst he
        exact absurd hx (List.Nodup.not_mem_erase hn)
      omega
    by_cases hm : ((n : Int) + 1) ∈ L
    · rw [List.length_erase_of_mem hm] at h1
      omega
    · rw [List.erase_of_not_mem hm] at h1
      omega
theorem Bfs.len {S : Sto} {id : Int} {i : Nat} {L : List Int} (h : Bfs S id i L) (h0 : 0 ≤ id) : L.length ≤ id.toNat :=
  nodup_len h.nod fun x hx => by have := h.pos x hx; omega
theorem Bfs.snoc {S : Sto} {id : Int} {i : Nat} {L : List Int} (h : Bfs S id i L) (hi : i ≤ L.length) {x z : Int} (hx : x ∉ L) (h1 : 1 ≤ x) (h2 : x ≤ id) (hz : z ∈ L) (hr : x ∈ refsL (atE S.E z).r) : Bfs S id i (L ++ [x]) := by
  refine ⟨?_,?_,?_,by simp [h.top],?_⟩
  · rw [List.nodup_append]
    exact ⟨h.nod,by simp,fun a ha b hb => by rw [List.mem_singleton] at hb; subst hb; exact fun e => hx (e ▸ ha)⟩
  · intro y hy
    rcases List.mem_append.1 hy with hy | hy
    · exact h.pos y hy
    · rw [List.mem_singleton] at hy; subst hy; exact ⟨h1,h2⟩
  · intro j hj y hy
    rw [getD_append_left (by omega)] at hy
    exact List.mem_append_left _ (h.cls j hj y hy)
  · intro y hy hn
    rcases List.mem_append.1 hy with hy | hy
    · obtain ⟨w,hw,hwr⟩ := h.rea y hy hn
      exact ⟨w,List.mem_append_left _ hw,hwr⟩
    · rw [List.mem_singleton] at hy; subst hy
      exact ⟨z,List.mem_append_left _ hz,hr⟩
theorem Bfs.next {S : Sto} {id : Int} {i : Nat} {L : List Int} (h : Bfs S id i L) (hr : ∀ y ∈ refsL (atE S.E (L.getD i 0)).r,y ∈ L) : Bfs S id (i + 1) L :=
  ⟨h.nod,h.pos,fun j hj => by
    by_cases he : j = i
    · subst he; exact hr
    · exact h.cls j (by omega),h.top,h.rea⟩
theorem Bfs.done {S : Sto} {id : Int} {L : List Int} (h : Bfs S id L.length L) : Rch S id (L.mergeSort (· ≤ ·)) := by
  have hp : (L.mergeSort (· ≤ ·)).Perm L := List.mergeSort_perm L _
  have hs : (L.mergeSort (fun x y : Int => decide (x ≤ y))).Pairwise (fun a b => decide (a ≤ b) = true) :=
    List.pairwise_mergeSort (fun a b c h1 h2 => by simp at *; omega) (fun a b => by simp; omega) L
  have hn : (L.mergeSort (· ≤ ·)).Nodup := hp.nodup_iff.2 h.nod
  refine ⟨?_,fun x hx => h.pos x (hp.mem_iff.1 hx),fun x hx y hy => ?_,fun _ => hp.mem_iff.2 h.top,fun x hx hne => ?_⟩
  · refine (hs.and hn).imp ?_
    rintro a b ⟨h1,h2⟩
    have h1 : a ≤ b := by simpa using h1
    omega
  · have hx := hp.mem_iff.1 hx
    obtain ⟨h1,h2⟩ := idxOf_getD hx
    exact hp.mem_iff.2 (h.cls (L.idxOf x) h1 y (by rw [h2]; exact hy))
  · obtain ⟨z,hz,hr⟩ := h.rea x (hp.mem_iff.1 hx) hne
    exact ⟨z,hp.mem_iff.2 hz,hr⟩
theorem Rch.nil {S : Sto} : Rch S 0 [] := ⟨.nil,fun _ h => by simp at h,fun _ h => by simp at h,fun h => absurd rfl h,fun _ h => by simp at h⟩
end Go.Proofs.YtkkhpdkfploodaaGreatDoor
/- Counts of letters,the first occurrence of a letter,of what a grammar derives. Plain Lean: no program in sight. -/
namespace Go.Proofs.YtkkhpdkfploodaaGreatDoor
open Go.EG
set_option linter.unusedSimpArgs false
set_option linter.unusedVariables false
structure Gr (g : List Rul) (ms : List Tm) : Prop where
  len : ms.length = g.length
  most : g.length ≤ 1048576
  ok : ∀ i,i < g.length → okR (g.getD i rul0) (i + 1)
  let_ : ∀ i,i < g.length → 0 ≤ (g.getD i rul0).l ∧ (g.getD i rul0).l < 256
  fit : ∀ i,i < g.length → 1 ≤ (ms.getD i .nil).len ∧ (ms.getD i .nil).len ≤ LM
  term : ∀ i,i < g.length → ms.getD i .nil = gT ms (g.getD i rul0)
theorem Gr.cases {g : List Rul} {ms : List Tm} (h : Gr g ms) {i : Nat} (hi : i < g.length) :
    (((g.getD i rul0).k = 1 ∧ (g.getD i rul0).a = 0 ∧ (g.getD i rul0).b = 0 ∧ ∃ l : Nat,l < 256 ∧ (g.getD i rul0).l = l ∧ mAt ms ((i : Int) + 1) = .lt l) ∨
     ((g.getD i rul0).k = 2 ∧ ∃ p q : Nat,p < i ∧ q < i ∧ (g.getD i rul0).a = (p : Int) + 1 ∧ (g.getD i rul0).b = (q : Int) + 1 ∧ mAt ms ((i : Int) + 1) = .pr (mAt ms ((p : Int) + 1)) (mAt ms ((q : Int) + 1)) ∧ (mAt ms ((p : Int) + 1)).len + (mAt ms ((q : Int) + 1)).len ≤ LM) ∨
     ((g.getD i rul0).k = 3 ∧ (g.getD i rul0).b = 0 ∧ ∃ p k : Nat,p < i ∧ 2 ≤ k ∧ (g.getD i rul0).a = (p : Int) + 1 ∧ (g.getD i rul0).t = (k : Int) ∧ mAt ms ((i : Int) + 1) = .pw (mAt ms ((p : Int) + 1)) k ∧ k * (mAt ms ((p : Int) + 1)).len ≤ LM)) ∧
    1 ≤ (mAt ms ((i : Int) + 1)).len ∧ (mAt ms ((i : Int) + 1)).len ≤ LM := by
  have e : mAt ms ((i : Int) + 1) = ms.getD i .nil := by
    unfold mAt
    rw [if_neg (by omega),show ((i : Int) + 1).toNat - 1 = i by omega]
  have ht := h.term i hi
  have ho := h.ok i hi
  have hl := h.let_ i hi
  have hf := h.fit i hi
  rw [← e] at ht hf
  refine ⟨?_,hf⟩
  generalize g.getD i rul0 = r at *
  unfold gT at ht
  rcases ho with ⟨h1,h2,h3,_⟩ | ⟨h1,h2,h3,h4,h5,h6,h7⟩ | ⟨h1,h2,h3,h4,h5,h6⟩
  · rw [if_pos h1] at ht
    exact .inl ⟨h1,h2,h3,r.l.toNat,by omega,by omega,ht⟩
  · rw [if_neg (by omega),if_pos h1] at ht
    refine .inr (.inl ⟨h1,(r.a - 1).toNat,(r.b - 1).toNat,by omega,by omega,by omega,by omega,?_,?_⟩)
    · rw [ht]; congr 2 <;> omega
    · have := hf.2
      rw [ht,Tm.len_pr] at this
      rw [show (((r.a - 1).toNat : Nat) : Int) + 1 = r.a by omega,show (((r.b - 1).toNat : Nat) : Int) + 1 = r.b by omega]
      exact this
  · rw [if_neg (by omega),if_neg (by omega)] at ht
    refine .inr (.inr ⟨h1,h3,(r.a - 1).toNat,r.t.toNat,by omega,by omega,by omega,by omega,?_,?_⟩)
    · rw [ht]; congr 2; omega
    · have := hf.2
      rw [ht,Tm.len_pw] at this
      rw [show (((r.a - 1).toNat : Nat) : Int) + 1 = r.a by omega]
      exact this
theorem Rch.gr {S : Sto} (hw : WF S) {id : Int} {L : List Int} (h : Rch S id L) (hk : id ≤ S.E.length) : Gr (xg S L) (L.map (tm S.E)) := by
  have hlen : L.length ≤ 1048576 := by
    have := hw.small
    rcases h.len with h | h
    · omega
    · rw [h]; simp
  refine ⟨by rw [xg_length,List.length_map],by rw [xg_length]; exact hlen,fun i hi => h.ok hw hk (by rwa [xg_length] at hi),fun i hi => h.let_ hw hk (by rwa [xg_length] at hi),fun i hi => ?_,fun i hi => ?_⟩
  · rw [xg_length] at hi
    obtain ⟨p1,p2⟩ := h.pos _ (getD_mem hi)
    rw [getD_map (d := 0) hi]
    exact ⟨hw.pos1 p1 (by omega),hw.le (by omega)⟩
  · rw [xg_length] at hi
    rw [getD_map (d := 0) hi,← h.term hw hk hi,xg,getD_map (d := 0) hi]
    have ho := h.ok hw hk hi
    rw [xg,getD_map (d := 0) hi] at ho
    have key : ∀ y : Int,y < (i : Int) + 1 → mAt ((L.take i).map (tm S.E)) y = mAt (L.map (tm S.E)) y := fun y hy => by
      conv => rhs; rw [← List.take_append_drop i L,List.map_append]
      unfold mAt
      split
      · rfl
      · rw [getD_append_left (by rw [List.length_map,List.length_take]; omega)]
    generalize ren L (atE S.E (L.getD i 0)).r = r at *
    unfold gT
    rcases ho with ⟨h1,h2,h3,_⟩ | ⟨h1,h2,h3,h4,h5,h6,h7⟩ | ⟨h1,h2,h3,h4,h5,h6⟩
    · rw [if_pos h1,if_pos h1]
    · rw [if_neg (by omega),if_pos h1,if_neg (by omega),if_pos h1,key _ h5,key _ h7]
    · rw [if_neg (by omega),if_neg (by omega),if_neg (by omega),if_neg (by omega),key _ h6]
theorem Rch.top_ {S : Sto} {id : Int} {L : List Int} (h : Rch S id L) (h0 : 0 ≤ id) : mAt (L.map (tm S.E)) L.length = tm S.E id := by
  by_cases hz : id = 0
  · subst hz
    have : L = [] := by
      cases hL : L with
      | nil => rfl
      | cons x t => exact absurd (h.pos x (by rw [hL]; simp)) (by omega)
    subst this; rfl
  · obtain ⟨h1,h2⟩ := h.last hz
    unfold mAt
    rw [if_neg (by omega),show ((L.length : Nat) : Int).toNat - 1 = L.length - 1 by omega,getD_map (d := 0) (by omega),h2]
def cnt (p : Nat → Bool) (t : List Nat) : Nat := t.countP p
theorem cnt_append (p : Nat → Bool) (s t : List Nat) : cnt p (s ++ t) = cnt p s + cnt p t := List.countP_append
theorem cnt_rep (p : Nat → Bool) (t : List Nat) : ∀ k,cnt p (rep k t) = k * cnt p t
  | 0 => by simp [rep,cnt]
  | k + 1 => by
    have := cnt_rep p t k
    rw [rep_succ,cnt_append,this,Nat.succ_mul,Nat.add_comm]
theorem cnt_one (p : Nat → Bool) (l : Nat) : cnt p [l] = if p l then 1 else 0 := by simp [cnt,List.countP_cons]
theorem idx_left {b : Nat} {s : List Nat} (h : b ∈ s) (t : List Nat) : (s ++ t).idxOf b = s.idxOf b := by rw [List.idxOf_append,if_pos h]
theorem idx_right {b : Nat} {s : List Nat} (h : b ∉ s) (t : List Nat) : (s ++ t).idxOf b = t.idxOf b + s.length := by rw [List.idxOf_append,if_neg h]
def fst1 (b : Nat) (t : List Nat) : Int := if b ∈ t then (t.idxOf b : Int) else -1
theorem fst1_pos {b : Nat} {t : List Nat} (h : b ∈ t) : fst1 b t = (t.idxOf b : Int) ∧ t.idxOf b < t.length := ⟨if_pos h,List.idxOf_lt_length_of_mem h⟩
theorem fst1_neg {b : Nat} {t : List Nat} (h : b ∉ t) : fst1 b t = -1 := if_neg h
theorem fst1_ge {b : Nat} {t : List Nat} : 0 ≤ fst1 b t ↔ b ∈ t := by
  unfold fst1
  split
  · rename_i h; exact ⟨fun _ => h,fun _ => by omega⟩
  · rename_i h; exact ⟨fun h0 => by omega,fun h0 => absurd h0 h⟩
theorem fst1_append (b : Nat) (s t : List Nat) : fst1 b (s ++ t) = if 0 ≤ fst1 b s then fst1 b s else if 0 ≤ fst1 b t then s.length + fst1 b t else -1 := by
  by_cases hs : b ∈ s
  · rw [if_pos (fst1_ge.2 hs),(fst1_pos hs).1,(fst1_pos (List.mem_append_left _ hs)).1,idx_left hs]
  · rw [if_neg (fun h => hs (fst1_ge.1 h))]
    by_cases ht : b ∈ t
    · rw [if_pos (fst1_ge.2 ht),(fst1_pos ht).1,(fst1_pos (List.mem_append_right _ ht)).1,idx_right hs]
      omega
    · rw [if_neg (fun h => ht (fst1_ge.1 h)),fst1_neg (by simp [hs,ht])]
theorem mem_rep {b : Nat} {t : List Nat} : ∀ {k : Nat},b ∈ rep k t ↔ 0 < k ∧ b ∈ t
  | 0 => by simp [rep]
  | k + 1 => by
    rw [rep_succ,List.mem_append,mem_rep]
    constructor
    · rintro (h | h)
      · exact ⟨by omega,h⟩
      · exact ⟨by omega,h.2⟩
    · exact fun h => .inl h.2
theorem fst1_rep (b : Nat) (t : List Nat) {k : Nat} (h : 0 < k) : fst1 b (rep k t) = fst1 b t := by
  obtain ⟨m,rfl⟩ : ∃ m,k = m + 1 := ⟨k - 1,by omega⟩
  by_cases ht : b ∈ t
  · rw [(fst1_pos ht).1,(fst1_pos (mem_rep.2 ⟨h,ht⟩)).1,rep_succ,idx_left ht]
  · rw [fst1_neg ht,fst1_neg (fun hm => ht (mem_rep.1 hm).2)]
def fin (b i base : Nat) (later : Int) (t : List Nat) : Int := if 0 ≤ fst1 b (t.drop i) then base + i + fst1 b (t.drop i) else later
def rowN (ms : List Tm) (x : Nat) : Int := ((mAt ms x).len : Nat)
def rowF (b : Nat) (ms : List Tm) (x : Nat) : Int := if x = 0 then 0 else fst1 b (mAt ms x).txt
def rowC (p : Nat → Bool) (ms : List Tm) (x : Nat) : Int := (cnt p (mAt ms x).txt : Nat)
theorem rowF_succ (b : Nat) (ms : List Tm) (x : Nat) : rowF b ms (x + 1) = fst1 b (mAt ms ((x : Int) + 1)).txt := by
  unfold rowF
  rw [if_neg (by omega)]
  congr 3
theorem rowN_succ (ms : List Tm) (x : Nat) : rowN ms (x + 1) = ((mAt ms ((x : Int) + 1)).len : Nat) := by
  unfold rowN
  congr 3
theorem rowC_succ (p : Nat → Bool) (ms : List Tm) (x : Nat) : rowC p ms (x + 1) = (cnt p (mAt ms ((x : Int) + 1)).txt : Nat) := by
  unfold rowC
  congr 3
theorem Gr.rows {g : List Rul} {ms : List Tm} (h : Gr g ms) (b : Nat) (p : Nat → Bool) {i : Nat} (hi : i < g.length) :
    ((g.getD i rul0).k = 1 ∧ ∃ l : Nat,l < 256 ∧ (g.getD i rul0).l = l ∧ rowN ms (i + 1) = 1 ∧ rowF b ms (i + 1) = (if l = b then 0 else -1) ∧ rowC p ms (i + 1) = (if p l then 1 else 0)) ∨
    ((g.getD i rul0).k = 2 ∧ ∃ x y : Nat,x < i ∧ y < i ∧ (g.getD i rul0).a = (x : Int) + 1 ∧ (g.getD i rul0).b = (y : Int) + 1 ∧ rowN ms (i + 1) = rowN ms (x + 1) + rowN ms (y + 1) ∧ rowF b ms (i + 1) = (if 0 ≤ rowF b ms (x + 1) then rowF b ms (x + 1) else if 0 ≤ rowF b ms (y + 1) then rowN ms (x + 1) + rowF b ms (y + 1) else -1) ∧ rowC p ms (i + 1) = rowC p ms (x + 1) + rowC p ms (y + 1)) ∨
    ((g.getD i rul0).k = 3 ∧ ∃ x k : Nat,x < i ∧ 2 ≤ k ∧ (g.getD i rul0).a = (x : Int) + 1 ∧ (g.getD i rul0).t = (k : Int) ∧ rowN ms (i + 1) = rowN ms (x + 1) * k ∧ rowF b ms (i + 1) = rowF b ms (x + 1) ∧ rowC p ms (i + 1) = rowC p ms (x + 1) * k) := by
  obtain ⟨hc,_⟩ := h.cases hi
  rcases hc with ⟨h1,_,_,l,h2,h3,h4⟩ | ⟨h1,x,y,h2,h3,h4,h5,h6,_⟩ | ⟨h1,_,x,k,h2,h3,h4,h5,h6,_⟩
  · refine .inl ⟨h1,l,h2,h3,?_,?_,?_⟩
    · rw [rowN_succ,h4]; rfl
    · rw [rowF_succ,h4]
      by_cases hl : l = b
      · rw [if_pos hl,hl]; simp [fst1,Tm.txt]
      · rw [if_neg hl]; exact fst1_neg (by simp [Tm.txt]; exact Ne.symm hl)
    · rw [rowC_succ,h4,Tm.txt,cnt_one]; split <;> rfl
  · refine .inr (.inl ⟨h1,x,y,h2,h3,h4,h5,?_,?_,?_⟩)
    · rw [rowN_succ,rowN_succ,rowN_succ,h6,Tm.len_pr]; push_cast; rfl
    · rw [rowF_succ,rowF_succ,rowF_succ,rowN_succ,h6,Tm.txt,fst1_append]; rfl
    · rw [rowC_succ,rowC_succ,rowC_succ,h6,Tm.txt,cnt_append]; push_cast; rfl
  · refine .inr (.inr ⟨h1,x,k,h2,h3,h4,h5,?_,?_,?_⟩)
    · rw [rowN_succ,rowN_succ,h6,Tm.len_pw]; push_cast; rw [Int.mul_comm]
    · rw [rowF_succ,rowF_succ,h6,Tm.txt,fst1_rep _ _ (by omega)]
    · rw [rowC_succ,rowC_succ,h6,Tm.txt,cnt_rep]; push_cast; rw [Int.mul_comm]
end Go.Proofs.YtkkhpdkfploodaaGreatDoor
/- A row of one's own,sorted by the library. No condition. -/
namespace Go.EG
open Go Go.Sort
set_option linter.unusedVariables false
def SortsI (P : Program) (f : FuncId) : Prop :=
  ∀ (blk off cap : Nat) (zs : List Int) (w : World),Holds (Value.int .i64) w blk off zs.toArray → blk < w.heap.size → zs.length < 4611686018427387904 →
    Calls P f #[.slice (some ⟨blk,off,none⟩) zs.length cap] w fun e w' => e = .returned (.tuple #[]) ∧ ∃ n os,w' = grow (putRow (Value.int .i64) (Sort.ahead w n) blk off (zs.mergeSort fun x y => decide (x ≤ y)).toArray) os
theorem R_sorted {w0 w : World} {fp0 : List Nat} {L : List Ent} {key : Nat} {a : Option Addr} {n c T : Nat} {zs : List Int} (hR : R w0 fp0 L w) (hb : ownAt key L = some ⟨a,n,c,T,1,ints .i64 zs⟩) (hn : zs.length = n) (h0 : 0 < n) :
    ∃ blk,a = some ⟨blk,0,none⟩ ∧ Holds (Value.int .i64) w blk 0 zs.toArray ∧ blk < w.heap.size ∧
      ∀ m os,R w0 fp0 (setOwn key a n c (ints .i64 (zs.mergeSort fun x y => decide (x ≤ y))) L) (grow (putRow (Value.int .i64) (Sort.ahead w m) blk 0 (zs.mergeSort fun x y => decide (x ≤ y)).toArray) os) := by
  obtain ⟨L',h1,h2⟩ := ownAt_perm hb
  have hR' := hR.perm h1
  have hrow : w.ownsRow 0 T 1 (.slice a n c) n (ints .i64 zs) := hR'.ok (.own key a n c T 1 (ints .i64 zs)) (List.mem_cons_self ..)
  rcases hrow.2 with ⟨hv,h⟩ | ⟨g,cap,cur,hv,hbase,hg,r3,r4,r5,r6⟩
  · omega
  · simp only [Value.slice.injEq,true_and] at hv
    obtain ⟨rfl,rfl⟩ := hv
    subst hn
    have hlt : g < w.heap.size := (Array.getElem?_eq_some_iff.1 hg).1
    refine ⟨g,rfl,holds_of_blockI hg (by simpa [ints] using r6),hlt,fun m os => ?_⟩
    obtain ⟨g1,g2,g3,g4,g5⟩ := grownBy_sortedI (w := w) (g := g) (n := m) (os := os) (zs.mergeSort fun x y => decide (x ≤ y)).toArray
    refine (R.grow (e' := .own key (some ⟨g,0,none⟩) zs.length c T 1 (ints .i64 (zs.mergeSort fun x y => decide (x ≤ y)))) hR' (fun x hx => .inl hx) (by simp [Ent.fp,Value.ownBlock]) ?_ ?_ ?_ ?_ ?_ ?_).perm (h2 _ _ _ _).symm
    · exact ownsRow_sortedI (by simp) hbase hg r3 r4 r5
    · simp [grow,putRow,mapBlock,Sort.ahead]
    · rfl
    · rfl
    · rfl
    · intro b hb' hne
      exact g5 b hb' (by simpa [Ent.fp,Value.ownBlock,eq_comm] using hne)
theorem CallK_sort {P : Program} {w0 : World} {fp0 : List Nat} {L : List Ent} {f : FuncId} {key : Nat} {a : Option Addr} {n c T : Nat} {zs : List Int} {k : SV → List Ent → Prop} (hs : SortsI P f) (hb : ownAt key L = some ⟨a,n,c,T,1,ints .i64 zs⟩) (hn : zs.length = n) (h0 : 0 < n) (hsz : n < 4611686018427387904)
    (hk : k (.v (.tuple #[])) (setOwn key a n c (ints .i64 (zs.mergeSort fun x y => decide (x ≤ y))) L)) : CallK P w0 fp0 f [.slice a n c] L k := by
  intro w hR
  obtain ⟨blk,rfl,hH,hlt,hend⟩ := R_sorted hR hb hn h0
  subst hn
  exact (hs blk 0 c zs w hH hlt hsz).mono fun e w' ⟨he,m,os,hw⟩ => ⟨_,.v (.tuple #[]),_,he,rfl,hw ▸ hend m os,hk⟩
end Go.EG
/- The parse of a text,level by level. Plain Lean: no program in sight. -/
namespace Go.Proofs.YtkkhpdkfploodaaGreatDoor
open Go.EG
set_option linter.unusedSimpArgs false
set_option linter.unusedVariables false
def txtOf (ts : List Tm) : List Nat := ts.flatMap Tm.txt
theorem txtOf_append (a b : List Tm) : txtOf (a ++ b) = txtOf a ++ txtOf b := by simp [txtOf]
theorem txtOf_cons (a : Tm) (b : List Tm) : txtOf (a :: b) = a.txt ++ txtOf b := by simp [txtOf]
theorem txtOf_lets (t : List Nat) : txtOf (t.map .lt) = t := by
  induction t with
  | nil => rfl
  | cons x t ih => rw [List.map_cons,txtOf_cons,ih]; rfl
def runsT : List Tm → List (Tm × Nat)
  | [] => []
  | x :: xs => match runsT xs with
    | [] => [(x,1)]
    | (y,t) :: r => if x = y then (y,t + 1) :: r else (x,1) :: (y,t) :: r
def powT (g : Tm × Nat) : Tm := if g.2 = 1 then g.1 else .pw g.1 g.2
def runT (ts : List Tm) : List Tm := (runsT ts).map powT
theorem runsT_pos : ∀ ts : List Tm,∀ g ∈ runsT ts,1 ≤ g.2
  | [],g,h => by simp [runsT] at h
  | x :: xs,g,h => by
    have ih := runsT_pos xs
    simp only [runsT] at h
    cases hr : runsT xs with
    | nil => rw [hr] at h; simp at h; subst h; exact Nat.le_refl _
    | cons p r =>
      obtain ⟨y,t⟩ := p
      rw [hr] at h ih
      simp only at h
      split at h
      · simp only [List.mem_cons] at h
        rcases h with rfl | h
        · simp
        · exact ih g (List.mem_cons_of_mem _ h)
      · simp only [List.mem_cons] at h
        rcases h with rfl | h
        · simp
        · exact ih g (by simpa using h)
theorem powT_txt {g : Tm × Nat} (h : 1 ≤ g.2) : (powT g).txt = rep g.2 g.1.txt := by
  unfold powT
  split
  · rename_i h1; rw [h1,rep_one]
  · rfl
theorem runsT_txt : ∀ ts : List Tm,(runsT ts).flatMap (fun g => rep g.2 g.1.txt) = txtOf ts
  | [] => rfl
  | x :: xs => by
    have ih := runsT_txt xs
    rw [txtOf_cons,← ih]
    simp only [runsT]
    cases hr : runsT xs with
    | nil => simp [rep_one]
    | cons p r =>
      obtain ⟨y,t⟩ := p
      simp only
      split
      · rename_i h; subst h; simp [rep_succ]
      · simp [rep_one]
theorem runT_txt (ts : List Tm) : txtOf (runT ts) = txtOf ts := by
  rw [← runsT_txt ts]
  have h := runsT_pos ts
  unfold runT
  generalize runsT ts = gs at *
  induction gs with
  | nil => rfl
  | cons g gs ih =>
    rw [List.map_cons,txtOf_cons,List.flatMap_cons,powT_txt (h g List.mem_cons_self),ih fun g' hg => h g' (List.mem_cons_of_mem _ hg)]
theorem runsT_le : ∀ ts : List Tm,(runsT ts).length ≤ ts.length ∧ ((runsT ts).length = ts.length → runT ts = ts)
  | [] => ⟨Nat.le_refl _,fun _ => rfl⟩
  | x :: xs => by
    obtain ⟨i1,i2⟩ := runsT_le xs
    unfold runT at i2 ⊢
    simp only [runsT]
    cases hr : runsT xs with
    | nil =>
      rw [hr] at i1 i2
      have hx : xs = [] := by
        have := runsT_txt xs
        cases xs with
        | nil => rfl
        | cons y ys =>
          simp only [runsT] at hr
          split at hr
          · cases hr
          · split at hr <;> cases hr
      subst hx
      simp [powT]
    | cons p r =>
      obtain ⟨y,t⟩ := p
      rw [hr] at i1 i2
      simp only
      split
      · simp only [List.length_cons] at i1 ⊢
        exact ⟨by omega,fun h => by omega⟩
      · simp only [List.length_cons,List.map_cons] at i1 i2 ⊢
        refine ⟨by omega,fun h => ?_⟩
        have := i2 (by omega)
        rw [this]
        simp [powT]
theorem runT_len (ts : List Tm) : (runT ts).length = (runsT ts).length := by simp [runT]
theorem runT_same {ts : List Tm} (h : (runT ts).length = ts.length) : runT ts = ts := (runsT_le ts).2 (by rw [← runT_len]; exact h)
theorem runsT_head : ∀ (x : Tm) (xs : List Tm),∃ t r,runsT (x :: xs) = (x,t) :: r
  | x,[] => ⟨1,[],rfl⟩
  | x,y :: ys => by
    obtain ⟨t,r,h⟩ := runsT_head y ys
    have e : runsT (x :: y :: ys) = match runsT (y :: ys) with
      | [] => [(x,1)]
      | (y,t) :: r => if x = y then (y,t + 1) :: r else (x,1) :: (y,t) :: r := rfl
    rw [e,h]
    simp only
    by_cases hx : x = y
    · rw [if_pos hx,hx]; exact ⟨_,_,rfl⟩
    · rw [if_neg hx]; exact ⟨_,_,rfl⟩
theorem runT_shrinks {x : Tm} {r : List Tm} : (runT (x :: x :: r)).length < (x :: x :: r).length := by
  rw [runT_len]
  have h := (runsT_le (x :: r)).1
  have e : runsT (x :: x :: r) = match runsT (x :: r) with
    | [] => [(x,1)]
    | (y,t) :: r => if x = y then (y,t + 1) :: r else (x,1) :: (y,t) :: r := rfl
  obtain ⟨t,r',h'⟩ := runsT_head x r
  rw [e,h']
  rw [h'] at h
  simp only [if_true,List.length_cons] at h ⊢
  omega
theorem runT_pos {ts : List Tm} (h : 0 < ts.length) : 0 < (runT ts).length := by
  cases ts with
  | nil => simp at h
  | cons x xs =>
    obtain ⟨t,r,e⟩ := runsT_head x xs
    rw [runT_len,e]; simp
def keysT (ts : List Tm) : List Int := ts.map fun m => (m.key : Int)
theorem keysT_len (ts : List Tm) : (keysT ts).length = ts.length := by simp [keysT]
def asm (ts : List Tm) : Nat → List Int → List Tm
  | i,[] => ts.drop i
  | i,p :: ps => (ts.drop i).take (p.toNat - i) ++ .pr (ts.getD p.toNat .nil) (ts.getD (p.toNat + 1) .nil) :: asm ts (p.toNat + 2) ps
def pairT (ts : List Tm) (l : Nat) : List Tm := asm ts 0 (pairsF (keysT ts) l)
theorem drop_two {ts : List Tm} {i p : Nat} (h1 : i ≤ p) (h2 : p + 1 < ts.length) : ts.drop i = (ts.drop i).take (p - i) ++ ts.getD p .nil :: ts.getD (p + 1) .nil :: ts.drop (p + 2) := by
  conv => lhs; rw [← List.take_append_drop (p - i) (ts.drop i)]
  rw [List.drop_drop,show i + (p - i) = p by omega,List.drop_eq_getElem_cons (by omega : p < ts.length),List.drop_eq_getElem_cons (by omega : p + 1 < ts.length)]
  rw [List.getD_eq_getElem?_getD,List.getElem?_eq_getElem (by omega),List.getD_eq_getElem?_getD,List.getElem?_eq_getElem (by omega)]
  rfl
theorem asm_txt (ts : List Tm) : ∀ (ps : List Int) (i : Nat),Gap i ps → (∀ p ∈ ps,0 ≤ p ∧ p + 1 < ts.length) → txtOf (asm ts i ps) = txtOf (ts.drop i)
  | [],i,_,_ => rfl
  | p :: ps,i,hg,hm => by
    have hp := hm p List.mem_cons_self
    have h1 := hg.1
    rw [asm,txtOf_append,txtOf_cons,asm_txt ts ps (p.toNat + 2) (by have := hg.2; rwa [show ((p.toNat + 2 : Nat) : Int) = p + 2 by omega]) fun q hq => hm q (List.mem_cons_of_mem _ hq)]
    conv => rhs; rw [drop_two (ts := ts) (i := i) (p := p.toNat) (by omega) (by omega)]
    rw [txtOf_append,txtOf_cons,txtOf_cons]
    simp [Tm.txt]
theorem asm_len (ts : List Tm) : ∀ (ps : List Int) (i : Nat),Gap i ps → (∀ p ∈ ps,0 ≤ p ∧ p + 1 < ts.length) → (asm ts i ps).length + ps.length = ts.length - i
  | [],i,_,_ => by simp [asm]
  | p :: ps,i,hg,hm => by
    have hp := hm p List.mem_cons_self
    have h1 := hg.1
    have ih := asm_len ts ps (p.toNat + 2) (by have := hg.2; rwa [show ((p.toNat + 2 : Nat) : Int) = p + 2 by omega]) fun q hq => hm q (List.mem_cons_of_mem _ hq)
    rw [asm,List.length_append,List.length_take,List.length_drop,List.length_cons,List.length_cons]
    omega
theorem pairs_ok (ts : List Tm) (l : Nat) : Gap ((0 : Nat) : Int) (pairsF (keysT ts) l) ∧ ∀ p ∈ pairsF (keysT ts) l,0 ≤ p ∧ p + 1 < ts.length :=
  ⟨pairs_gap _ _,fun p hp => by have := pairs_fit hp; rw [keysT_len] at this; exact ⟨this.1,this.2.1⟩⟩
theorem pairT_txt (ts : List Tm) (l : Nat) : txtOf (pairT ts l) = txtOf ts := by
  obtain ⟨h1,h2⟩ := pairs_ok ts l
  have := asm_txt ts _ 0 h1 h2
  simpa [pairT] using this
theorem pairT_len (ts : List Tm) (l : Nat) : (pairT ts l).length + (pairsF (keysT ts) l).length = ts.length := by
  obtain ⟨h1,h2⟩ := pairs_ok ts l
  have := asm_len ts _ 0 h1 h2
  simpa [pairT] using this
theorem pairT_same {ts : List Tm} {l : Nat} (h : (pairT ts l).length = ts.length) : pairT ts l = ts := by
  have h1 := pairT_len ts l
  have h2 : pairsF (keysT ts) l = [] := List.eq_nil_of_length_eq_zero (by omega)
  unfold pairT
  rw [h2]; rfl
theorem pairT_pos {ts : List Tm} {l : Nat} (h : 0 < ts.length) : 0 < (pairT ts l).length := by
  refine Nat.pos_of_ne_zero fun h0 => ?_
  have h1 := pairT_txt ts l
  have h2 := pairT_len ts l
  obtain ⟨h3,h4⟩ := pairs_ok ts l
  unfold pairT at h0
  have hnil := List.eq_nil_of_length_eq_zero h0
  cases hps : pairsF (keysT ts) l with
  | nil => rw [hps,asm] at hnil; simp at hnil; subst hnil; simp at h
  | cons p ps => rw [hps,asm] at hnil; simp at hnil
theorem pairsF_first {a b : Int} {r : List Int} {l : Int} (h : fitsF a b l = true) : 0 < (pairsF (a :: b :: r) l).length := by
  have he : evenF l = true := by
    unfold fitsF at h
    exact (Bool.and_eq_true_iff.1 h).1
  unfold pairsF
  rw [if_pos he]
  split
  · rename_i ht
    have hab : a = b := by
      unfold fitsF at h
      rw [he,if_pos ht] at h
      simpa using h
    subst hab
    obtain ⟨t,q,hq,ht2⟩ : ∃ t q,runs (a :: a :: r) = (a,t) :: q ∧ 2 ≤ t := by
      have h1 := runs_head (a :: r)
      have h2 := runs_pos (a :: r)
      have e : runs (a :: a :: r) = match runs (a :: r) with
        | [] => [(a,1)]
        | (y,t) :: r => if a = y then (y,t + 1) :: r else (a,1) :: (y,t) :: r := rfl
      rw [e]
      cases hr : runs (a :: r) with
      | nil => rw [hr] at h1; simp at h1
      | cons g q =>
        obtain ⟨y,t⟩ := g
        rw [hr] at h1 h2
        have hy : y = a := by simpa using h1
        subst hy
        have := h2 (y,t) List.mem_cons_self
        simp only at this
        exact ⟨t + 1,q,by simp,by omega⟩
    unfold stretches
    rw [hq,strs,if_pos (by omega)]
    simp only [ties,List.cons_append,List.nil_append,List.flatMap_cons,List.length_append,tieOf,List.length_map,List.length_range]
    omega
  · have hm : (0 : Int) ∈ pick (fun i => fitsF ((a :: b :: r).getD i 0) ((a :: b :: r).getD (i + 1) 0) l) ((a :: b :: r).length - 1) := by
      simp only [List.length_cons,Nat.add_sub_cancel]
      generalize r.length = n
      induction n with
      | zero => simp [pick,h]
      | succ n ih => rw [pick]; exact List.mem_append_left _ ih
    exact List.length_pos_of_mem hm
def stepT (l : Nat) (ts : List Tm) : List Tm := if l % 2 = 1 then runT ts else pairT ts l
def seqT (t : List Nat) : Nat → List Tm
  | 0 => t.map .lt
  | l + 1 => stepT (l + 1) (seqT t l)
theorem stepT_txt (l : Nat) (ts : List Tm) : txtOf (stepT l ts) = txtOf ts := by
  unfold stepT
  split
  · exact runT_txt ts
  · exact pairT_txt ts l
theorem stepT_len (l : Nat) (ts : List Tm) : (stepT l ts).length ≤ ts.length := by
  unfold stepT
  split
  · rw [runT_len]; exact (runsT_le ts).1
  · have := pairT_len ts l; omega
theorem stepT_same {l : Nat} {ts : List Tm} (h : ¬ (stepT l ts).length < ts.length) : stepT l ts = ts := by
  have h1 := stepT_len l ts
  unfold stepT at h h1 ⊢
  split
  · rename_i hl; rw [if_pos hl] at h h1; exact runT_same (by omega)
  · rename_i hl; rw [if_neg hl] at h h1; exact pairT_same (by omega)
theorem stepT_pos {l : Nat} {ts : List Tm} (h : 0 < ts.length) : 0 < (stepT l ts).length := by
  unfold stepT
  split
  · exact runT_pos h
  · exact pairT_pos h
theorem soonT {ts : List Tm} (h : 2 ≤ ts.length) (l : Nat) (hl : 1 ≤ l) : ∃ L,l ≤ L ∧ L ≤ l + 246 ∧ (stepT L ts).length < ts.length := by
  match ts,h with
  | a :: b :: r,_ =>
    by_cases hab : a = b
    · subst hab
      by_cases ho : l % 2 = 1
      · exact ⟨l,by omega,by omega,by rw [stepT,if_pos ho]; exact runT_shrinks⟩
      · exact ⟨l + 1,by omega,by omega,by rw [stepT,if_pos (by omega)]; exact runT_shrinks⟩
    · have ha := a.key_lt
      have hb := b.key_lt
      have hne := after_found (low := ((l - 1 : Nat) : Int)) (x := a.key) (y := b.key) (by omega) (Nat.lt_of_lt_of_le ha (by decide)) (Nat.lt_of_lt_of_le hb (by decide))
      have hok := after_ok (l - 1) a.key b.key
      have hle := afterF_le ((l - 1 : Nat) : Int) a.key b.key (by omega)
      generalize afterF ((l - 1 : Nat) : Int) a.key b.key = L at *
      obtain ⟨f1,f2,f3⟩ : ((l - 1 : Nat) : Int) < L ∧ L ≤ ((l - 1 : Nat) : Int) + 246 ∧ fitsF a.key b.key L = true := by
        have := hok.some (by omega)
        exact ⟨this.1,this.2.1,this.2.2.1⟩
      have hev : evenF L = true := by
        unfold fitsF at f3
        exact (Bool.and_eq_true_iff.1 f3).1
      have hev2 : 2 ≤ L ∧ L % 2 = 0 := by unfold evenF at hev; simpa using hev
      have hc : ((L.toNat : Nat) : Int) = L := by omega
      refine ⟨L.toNat,by omega,by omega,?_⟩
      rw [stepT,if_neg (by omega)]
      have h1 := pairT_len (a :: b :: r) L.toNat
      have h2 := pairsF_first (r := keysT r) f3
      rw [← hc] at h2
      have e : keysT (a :: b :: r) = (a.key : Int) :: (b.key : Int) :: keysT r := rfl
      rw [e] at h1
      omega
theorem seqT_txt (t : List Nat) : ∀ l,txtOf (seqT t l) = t
  | 0 => txtOf_lets t
  | l + 1 => by rw [seqT,stepT_txt,seqT_txt t l]
theorem seqT_pos {t : List Nat} (h : 0 < t.length) : ∀ l,0 < (seqT t l).length
  | 0 => by simpa [seqT] using h
  | l + 1 => stepT_pos (seqT_pos h l)
def Sig (t : List Nat) (m : Tm) : Prop := ∃ L,seqT t L = [m] ∧ ∀ l,l < L → 1 < (seqT t l).length
theorem Sig.det {t : List Nat} {m m' : Tm} (h : Sig t m) (h' : Sig t m') : m = m' := by
  obtain ⟨L,e,hl⟩ := h
  obtain ⟨L',e',hl'⟩ := h'
  rcases Nat.lt_trichotomy L L' with hc | hc | hc
  · have := hl' L hc; rw [e] at this; simp at this
  · subst hc; rw [e] at e'; simpa using e'
  · have := hl L' hc; rw [e'] at this; simp at this
theorem Sig.txt {t : List Nat} {m : Tm} (h : Sig t m) : m.txt = t := by
  obtain ⟨L,e,_⟩ := h
  have := seqT_txt t L
  rw [e] at this
  simpa [txtOf] using this
end Go.Proofs.YtkkhpdkfploodaaGreatDoor
/- The parse of a text in a store. Plain Lean: no program in sight. -/
namespace Go.Proofs.YtkkhpdkfploodaaGreatDoor
open Go.EG
set_option linter.unusedSimpArgs false
set_option linter.unusedVariables false
def Seq (S : Sto) (ids : List Int) : Prop := ∀ x ∈ ids,1 ≤ x ∧ x ≤ S.E.length
def tms (S : Sto) (ids : List Int) : List Tm := ids.map (tm S.E)
def kys (S : Sto) (ids : List Int) : List Int := ids.map fun x => ((tm S.E x).key : Int)
theorem tms_len (S : Sto) (ids : List Int) : (tms S ids).length = ids.length := by simp [tms]
theorem kys_len (S : Sto) (ids : List Int) : (kys S ids).length = ids.length := by simp [kys]
theorem keys_tms (S : Sto) (ids : List Int) : keysT (tms S ids) = kys S ids := by simp [keysT,tms,kys]
theorem Seq.grow {S S' : Sto} {ids : List Int} (h : Seq S ids) (g : Grow S S') : Seq S' ids := fun x hx => by have := h x hx; have := g.len; omega
theorem tms_grow {S S' : Sto} {ids : List Int} (h : Seq S ids) (g : Grow S S') : tms S' ids = tms S ids :=
  List.map_congr_left fun x hx => g.tm (h x hx).2
theorem kys_grow {S S' : Sto} {ids : List Int} (h : Seq S ids) (g : Grow S S') : kys S' ids = kys S ids :=
  List.map_congr_left fun x hx => by rw [g.tm (h x hx).2]
theorem Seq.snoc {S : Sto} {ids : List Int} {x : Int} (h : Seq S ids) (hx : 1 ≤ x ∧ x ≤ S.E.length) : Seq S (ids ++ [x]) := fun y hy => by
  rw [List.mem_append,List.mem_singleton] at hy
  rcases hy with hy | rfl
  · exact h y hy
  · exact hx
theorem Seq.append {S : Sto} {a b : List Int} (h : Seq S a) (k : Seq S b) : Seq S (a ++ b) := fun y hy => by
  rw [List.mem_append] at hy
  rcases hy with hy | hy
  · exact h y hy
  · exact k y hy
theorem Seq.drop {S : Sto} {a : List Int} (h : Seq S a) (n : Nat) : Seq S (a.drop n) := fun y hy => h y (List.mem_of_mem_drop hy)
theorem Seq.take {S : Sto} {a : List Int} (h : Seq S a) (n : Nat) : Seq S (a.take n) := fun y hy => h y (List.mem_of_mem_take hy)
theorem Seq.get {S : Sto} {ids : List Int} (h : Seq S ids) {i : Nat} (hi : i < ids.length) : 1 ≤ ids.getD i 0 ∧ ids.getD i 0 ≤ S.E.length := by
  rw [List.getD_eq_getElem?_getD,List.getElem?_eq_getElem hi]
  exact h _ (List.getElem_mem hi)
theorem tms_append (S : Sto) (a b : List Int) : tms S (a ++ b) = tms S a ++ tms S b := by simp [tms]
theorem kys_append (S : Sto) (a b : List Int) : kys S (a ++ b) = kys S a ++ kys S b := by simp [kys]
theorem tms_get (S : Sto) {ids : List Int} {i : Nat} (hi : i < ids.length) : (tms S ids).getD i .nil = tm S.E (ids.getD i 0) := by
  simp [tms,List.getD_eq_getElem?_getD,List.getElem?_eq_getElem hi]
theorem kys_get (S : Sto) {ids : List Int} {i : Nat} (hi : i < ids.length) : (kys S ids).getD i 0 = ((tm S.E (ids.getD i 0)).key : Int) := by
  simp [kys,List.getD_eq_getElem?_getD,List.getElem?_eq_getElem hi]
theorem runs_mem {xs : List Int} {y t : Int} {r : List (Int × Int)} (h : runs xs = (y,t) :: r) : y ∈ xs := by
  have h1 := runs_head xs
  rw [h] at h1
  cases xs with
  | nil => simp at h1
  | cons x xs => simp only [List.head?_cons,Option.map_some,Option.some.injEq] at h1; rw [h1]; exact List.mem_cons_self
theorem runs_tms {S : Sto} (hw : WF S) : ∀ {ids : List Int},Seq S ids → runsT (tms S ids) = (runs ids).map fun g => (tm S.E g.1,g.2.toNat)
  | [],_ => rfl
  | x :: xs,h => by
    have ih := runs_tms hw (ids := xs) fun y hy => h y (List.mem_cons_of_mem _ hy)
    have hx := h x List.mem_cons_self
    have e : tms S (x :: xs) = tm S.E x :: tms S xs := rfl
    rw [e]
    simp only [runsT,runs]
    rw [ih]
    cases hr : runs xs with
    | nil => rfl
    | cons g r =>
      obtain ⟨y,t⟩ := g
      have hy := h y (List.mem_cons_of_mem _ (runs_mem hr))
      have ht := runs_pos xs (y,t) (by rw [hr]; exact List.mem_cons_self)
      simp only at ht
      simp only [List.map_cons]
      by_cases hxy : x = y
      · subst hxy
        rw [if_pos rfl,if_pos rfl]
        simp only [List.map_cons]
        rw [show (t + 1).toNat = t.toNat + 1 by omega]
      · rw [if_neg hxy,if_neg (fun he => hxy ((hw.inj_iff hx.1 hx.2 hy.1 hy.2).1 he))]
        rfl
structure Made (S S' : Sto) (x : Int) (m : Tm) : Prop where
  wf : WF S'
  grow : Grow S S'
  pos : 1 ≤ x
  le : x ≤ S'.E.length
  tm : tm S'.E x = m
  len : S'.E.length ≤ S.E.length + 1
  new : S'.E.length = S.E.length ∨ x = S'.E.length
theorem putMade {S : Sto} {r : Rul} (h : WF S) (hr : Fit S r) (hroom : S.E.length < S.most) : ∃ S' x,stPut S r = (S',x,0) ∧ Made S S' x (mkT S.E r) := by
  obtain ⟨S',x,e,h1,h2,h3,h4,h5,h6⟩ := putR h hr hroom
  refine ⟨S',x,e,h1,h2,h3,h4,h5,h6,?_⟩
  unfold stPut at e
  split at e
  · rw [if_neg (by omega)] at e
    simp only [Prod.mk.injEq] at e
    obtain ⟨rfl,rfl,_⟩ := e
    right
    simp [addS]
  · simp only [Prod.mk.injEq] at e
    obtain ⟨rfl,_⟩ := e
    exact .inl rfl
theorem letOk {S : Sto} (h : WF S) {l : Nat} (hl : l < 256) (hroom : S.E.length < S.most) : ∃ S' x,stPut S (letR l) = (S',x,0) ∧ Made S S' x (.lt l) := by
  obtain ⟨S',x,e,hm⟩ := putMade h (fit_let S hl) hroom
  have he : mkT S.E (letR l) = .lt l := by simp [mkT,letR]
  rw [he] at hm
  exact ⟨S',x,e,hm⟩
theorem powOk {S : Sto} (h : WF S) {i k : Int} (h1 : 1 ≤ i) (h2 : i ≤ S.E.length) (hk : 2 ≤ k) (hl : (tm S.E i).len * k.toNat ≤ LM) (hroom : S.E.length < S.most) : ∃ S' x,stPower S i k = (S',x,0) ∧ Made S S' x (.pw (tm S.E i) k.toNat) := by
  obtain ⟨S',x,e,hm⟩ := putMade h (fit_pow h1 h2 hk hl) hroom
  have he : mkT S.E (powR i k) = .pw (tm S.E i) k.toNat := by simp [mkT,powR]
  rw [he] at hm
  refine ⟨S',x,?_,hm⟩
  unfold stPower
  rw [if_neg (by simp [known]; omega),if_neg (by omega),if_neg (by omega),if_neg (by omega)]
  exact e
theorem pairOk {S : Sto} (h : WF S) {i j : Int} (h1 : 1 ≤ i) (h2 : i ≤ S.E.length) (h3 : 1 ≤ j) (h4 : j ≤ S.E.length) (hl : (tm S.E i).len + (tm S.E j).len ≤ LM) (hroom : S.E.length < S.most) : ∃ S' x,stPair S i j = (S',x,0) ∧ Made S S' x (.pr (tm S.E i) (tm S.E j)) := by
  obtain ⟨S',x,e,hm⟩ := putMade h (fit_pair h1 h2 h3 h4 hl) hroom
  have he : mkT S.E (pairR i j) = .pr (tm S.E i) (tm S.E j) := by simp [mkT,pairR]
  rw [he] at hm
  refine ⟨S',x,?_,hm⟩
  unfold stPair
  rw [if_neg (by simp [known]; omega),if_neg (by omega),if_neg (by omega),if_neg (by omega)]
  exact e
def News (S S' : Sto) (ids : List Int) : Prop := ∀ x : Int,S.E.length < x → x ≤ S'.E.length → x ∈ ids
theorem News.refl (S : Sto) (ids : List Int) : News S S ids := fun x h1 h2 => by omega
theorem News.made {S S1 S2 : Sto} {ids : List Int} {x : Int} {m : Tm} (h : News S S1 ids) (k : Made S1 S2 x m) : News S S2 (ids ++ [x]) := fun y h1 h2 => by
  rw [List.mem_append,List.mem_singleton]
  rcases k.new with k | k
  · exact .inl (h y h1 (by omega))
  · by_cases hy : y = x
    · exact .inr hy
    · exact .inl (h y h1 (by have := k; have := Made.len ‹Made S1 S2 x m›; omega))
theorem News.more {S S1 : Sto} {ids : List Int} (h : News S S1 ids) (l : List Int) : News S S1 (ids ++ l) := fun y h1 h2 => List.mem_append_left _ (h y h1 h2)
theorem len_two {ts : List Tm} {i : Nat} (h : i + 1 < ts.length) : (ts.getD i .nil).len + (ts.getD (i + 1) .nil).len ≤ (txtOf ts).length := by
  have e := drop_two (ts := ts) (i := 0) (p := i) (Nat.zero_le _) h
  rw [List.drop_zero] at e
  conv => rhs; rw [e]
  rw [txtOf_append,txtOf_cons,txtOf_cons]
  simp only [List.length_append,Tm.len]
  omega
theorem len_run {ts : List Tm} {g : Tm × Nat} (h : g ∈ runsT ts) : g.1.len * g.2 ≤ (txtOf ts).length := by
  rw [← runsT_txt ts]
  obtain ⟨a,b,e⟩ := List.append_of_mem h
  rw [e,List.flatMap_append,List.flatMap_cons]
  simp only [List.length_append,rep_length,Tm.len]
  rw [Nat.mul_comm]
  omega
theorem set_mid {X Y : List Int} {i : Nat} {v : Int} (hX : X.length = i) (hi : i < Y.length) : (X ++ Y.drop i).set i v = (X ++ [v]) ++ Y.drop (i + 1) := by
  rw [List.set_append_right i v (by omega),hX,Nat.sub_self,List.drop_eq_getElem_cons hi,List.set_cons_zero,List.append_assoc]
  rfl
theorem get_mid {X Y : List Int} {i j : Nat} (hX : X.length = i) (hij : i ≤ j) (hj : j < Y.length) : (X ++ Y.drop i).getD j 0 = Y.getD j 0 := by
  rw [List.getD_eq_getElem?_getD,List.getElem?_append_right (by omega),hX,List.getElem?_drop,show i + (j - i) = j by omega,← List.getD_eq_getElem?_getD]
theorem len_mid {X Y : List Int} {i : Nat} (hX : X.length = i) (hi : i ≤ Y.length) : (X ++ Y.drop i).length = Y.length := by
  rw [List.length_append,List.length_drop]; omega
def atR (xs : List Int) (i : Nat) : Nat := (expand ((runs xs).take i)).length
theorem atR_zero (xs : List Int) : atR xs 0 = 0 := by simp [atR,expand]
theorem atR_next {xs : List Int} {i : Nat} (h : i < (runs xs).length) : atR xs (i + 1) = atR xs i + ((runs xs).getD i (0,0)).2.toNat ∧ atR xs (i + 1) ≤ xs.length ∧ 1 ≤ ((runs xs).getD i (0,0)).2 ∧ xs.getD (atR xs i) 0 = ((runs xs).getD i (0,0)).1 := by
  have h1 := expand_take h
  have h2 := runs_get h
  have h3 := expand_take_le (runs xs) (i + 1)
  rw [expand_runs] at h3
  refine ⟨by unfold atR; rw [h1,List.length_append,List.length_replicate],h3,h2,?_⟩
  have h4 : xs = expand ((runs xs).take i) ++ (List.replicate ((runs xs).getD i (0,0)).2.toNat ((runs xs).getD i (0,0)).1 ++ expand ((runs xs).drop (i + 1))) := by
    conv => lhs; rw [← expand_runs xs,← List.take_append_drop (i + 1) (runs xs)]
    have : ∀ a b,expand (a ++ b) = expand a ++ expand b := fun a b => by simp [expand]
    rw [this,h1,List.append_assoc]
  unfold atR
  conv => lhs; arg 1; rw [h4]
  rw [List.getD_eq_getElem?_getD,List.getElem?_append_right (Nat.le_refl _),Nat.sub_self]
  obtain ⟨m,hm⟩ : ∃ m,((runs xs).getD i (0,0)).2.toNat = m + 1 := ⟨((runs xs).getD i (0,0)).2.toNat - 1,by omega⟩
  rw [hm,List.replicate_succ]
  rfl
theorem atR_ge {xs : List Int} : ∀ {i : Nat},i ≤ (runs xs).length → i ≤ atR xs i
  | 0,_ => Nat.zero_le _
  | i + 1,h => by
    have ih := atR_ge (xs := xs) (i := i) (by omega)
    have := atR_next (xs := xs) (i := i) (by omega)
    omega
end Go.Proofs.YtkkhpdkfploodaaGreatDoor
/- Pairs from the left; parts of a sequence. Plain Lean: no program in sight. -/
namespace Go.Proofs.YtkkhpdkfploodaaGreatDoor
open Go.EG
set_option linter.unusedSimpArgs false
set_option linter.unusedVariables false
theorem ties_strs_cons {o t : Int} {x : Int} {q : List (Int × Int)} (ht : 1 ≤ t) : ties (strs o ((x,t) :: q)) = tieOf (o,t) ++ ties (strs (o + t) q) := by
  rw [strs,ties_append]
  congr 1
  split
  · simp [ties]
  · have : t = 1 := by omega
    subst this
    simp [ties,tieOf]
theorem tieOf_shift (c o t : Int) : tieOf (c + o,t) = (tieOf (o,t)).map fun z => c + z := by
  simp only [tieOf,List.map_map]
  refine List.map_congr_left fun q _ => ?_
  simp only [Function.comp_apply]; omega
theorem ties_shift (c : Int) : ∀ (q : List (Int × Int)) (o : Int),(∀ g ∈ q,1 ≤ g.2) → ties (strs (c + o) q) = (ties (strs o q)).map fun z => c + z
  | [],o,_ => rfl
  | (x,t) :: q,o,h => by
    have ht : 1 ≤ t := h (x,t) List.mem_cons_self
    rw [ties_strs_cons ht,ties_strs_cons ht,List.map_append,tieOf_shift,show c + o + t = c + (o + t) by omega,ties_shift c q (o + t) fun g hg => h g (List.mem_cons_of_mem _ hg)]
theorem tieOf_two {t : Int} (ht : 0 ≤ t) : tieOf (0,t + 2) = 0 :: (tieOf (0,t)).map fun z => 2 + z := by
  simp only [tieOf,List.map_map]
  rw [show ((t + 2) / 2).toNat = (t / 2).toNat + 1 by omega,List.range_succ_eq_map,List.map_cons,List.map_map]
  congr 1
  refine List.map_congr_left fun q _ => ?_
  simp only [Function.comp_apply]; omega
theorem runs_cons_ne {x y : Int} {r : List Int} (h : x ≠ y) : runs (x :: y :: r) = (x,1) :: runs (y :: r) := by
  have h1 := runs_head (y :: r)
  have e : runs (x :: y :: r) = match runs (y :: r) with
    | [] => [(x,1)]
    | (z,t) :: q => if x = z then (z,t + 1) :: q else (x,1) :: (z,t) :: q := rfl
  rw [e]
  cases hr : runs (y :: r) with
  | nil => rfl
  | cons g q =>
    obtain ⟨z,t⟩ := g
    rw [hr] at h1
    have : z = y := by simpa using h1
    subst this
    simp only
    rw [if_neg h]
theorem runs_cons_eq (x : Int) (r : List Int) : ∃ t q,0 ≤ t ∧ (∀ g ∈ q,1 ≤ g.2) ∧ runs (x :: x :: r) = (x,t + 2) :: q ∧ (t = 0 ∧ runs r = q ∨ 1 ≤ t ∧ runs r = (x,t) :: q) := by
  have hp := runs_pos r
  have e1 : runs (x :: r) = match runs r with
    | [] => [(x,1)]
    | (z,t) :: q => if x = z then (z,t + 1) :: q else (x,1) :: (z,t) :: q := rfl
  have e2 : runs (x :: x :: r) = match runs (x :: r) with
    | [] => [(x,1)]
    | (z,t) :: q => if x = z then (z,t + 1) :: q else (x,1) :: (z,t) :: q := rfl
  cases hr : runs r with
  | nil => rw [hr] at e1; rw [e1] at e2; exact ⟨0,[],Int.le_refl _,by simp,by rw [e2]; simp,.inl ⟨rfl,rfl⟩⟩
  | cons g q =>
    obtain ⟨z,t⟩ := g
    rw [hr] at e1 hp
    have ht : 1 ≤ t := hp (z,t) List.mem_cons_self
    simp only at e1
    by_cases hxz : x = z
    · subst hxz
      rw [if_pos rfl] at e1
      rw [e1] at e2
      exact ⟨t,q,by omega,fun g hg => hp g (List.mem_cons_of_mem _ hg),by rw [e2]; simp; omega,.inr ⟨ht,rfl⟩⟩
    · rw [if_neg hxz] at e1
      rw [e1] at e2
      exact ⟨0,(z,t) :: q,Int.le_refl _,hp,by rw [e2]; simp,.inl ⟨rfl,rfl⟩⟩
theorem pairs_nil (l : Int) : pairsF [] l = [] := List.eq_nil_of_length_eq_zero (Nat.le_zero.1 (pairsF_length [] l))
theorem pairs_one (x l : Int) : pairsF [x] l = [] := by
  cases h : pairsF [x] l with
  | nil => rfl
  | cons z q =>
    have := pairs_fit (xs := [x]) (l := l) (z := z) (by rw [h]; exact List.mem_cons_self)
    simp only [List.length_cons,List.length_nil] at this
    omega
theorem pairs_none {xs : List Int} {l : Int} (h : evenF l = false) : pairsF xs l = [] := by simp [pairsF,h]
theorem pairs_skip {x y : Int} {r : List Int} {l : Int} (h : fitsF x y l = false) : pairsF (x :: y :: r) l = (pairsF (y :: r) l).map fun z => 1 + z := by
  cases he : evenF l with
  | false => rw [pairs_none he,pairs_none he]; rfl
  | true =>
    by_cases hn : numF l = 122
    · have hxy : x ≠ y := by intro e; unfold fitsF at h; rw [he,if_pos hn] at h; simp [e] at h
      unfold pairsF
      rw [if_pos he,if_pos hn,if_pos he,if_pos hn]
      unfold stretches
      rw [runs_cons_ne hxy,ties_strs_cons (by omega)]
      have := ties_shift 1 (runs (y :: r)) 0 (runs_pos _)
      rw [show (1 : Int) + 0 = 0 + 1 by omega] at this
      rw [this]
      simp [tieOf]
    · have ht : tieF l = false := by unfold tieF; simp [hn]
      have := seams (a := [x]) (b := y :: r) ht
      rw [List.singleton_append] at this
      rw [this,pairs_one]
      unfold seamF
      rw [if_neg (by simp [h])]
      simp
theorem pairs_take {x y : Int} {r : List Int} {l : Int} (h : fitsF x y l = true) : pairsF (x :: y :: r) l = 0 :: (pairsF r l).map fun z => 2 + z := by
  have he : evenF l = true := by unfold fitsF at h; exact (Bool.and_eq_true_iff.1 h).1
  by_cases hn : numF l = 122
  · have hxy : x = y := by unfold fitsF at h; rw [he,if_pos hn] at h; simpa using h
    subst hxy
    unfold pairsF
    rw [if_pos he,if_pos hn,if_pos he,if_pos hn]
    unfold stretches
    obtain ⟨t,q,h0,hq,h1,h2⟩ := runs_cons_eq x r
    rw [h1,ties_strs_cons (by omega),tieOf_two h0]
    rcases h2 with ⟨rfl,h2⟩ | ⟨h3,h2⟩
    · rw [h2]
      have := ties_shift 2 q 0 hq
      rw [show (0 : Int) + (0 + 2) = 2 + 0 by omega,this]
      simp [tieOf]
    · rw [h2,ties_strs_cons h3,List.map_append]
      have := ties_shift 2 q t hq
      rw [show (0 : Int) + (t + 2) = 2 + t by omega,this,show (0 : Int) + t = t by omega]
      rfl
  · have ht : tieF l = false := by unfold tieF; simp [hn]
    have := seams (a := [x]) (b := y :: r) ht
    rw [List.singleton_append] at this
    rw [this,pairs_one]
    unfold seamF
    rw [if_pos (by simp [h])]
    cases r with
    | nil => rw [pairs_one,pairs_nil]; rfl
    | cons z r =>
      rw [pairs_skip (fits_once ht h)]
      simp only [List.nil_append,List.length_cons,List.length_nil,List.singleton_append,List.map_map]
      congr 1
      refine List.map_congr_left fun q _ => ?_
      simp only [Function.comp_apply]; omega
theorem asm_cons {x : Tm} {ts : List Tm} : ∀ {ps : List Int},(∀ p ∈ ps,0 ≤ p) → asm (x :: ts) 0 (ps.map fun z => 1 + z) = x :: asm (x :: ts) 1 (ps.map fun z => 1 + z)
  | [],_ => rfl
  | p :: ps,h => by
    have hp := h p List.mem_cons_self
    simp only [List.map_cons,asm,List.drop_zero,List.drop_succ_cons]
    rw [show (1 + p).toNat - 0 = p.toNat + 1 by omega,show (1 + p).toNat - 1 = p.toNat by omega,List.take_succ_cons,List.cons_append]
theorem asm_shift (c : Nat) (xs : List Tm) (hc : xs.length = c) (ts : List Tm) : ∀ (ps : List Int) (i : Nat),(∀ p ∈ ps,0 ≤ p) → asm (xs ++ ts) (c + i) (ps.map fun z => (c : Int) + z) = asm ts i ps
  | [],i,_ => by simp [asm,List.drop_append,hc]
  | p :: ps,i,h => by
    have hp := h p List.mem_cons_self
    have e1 : ((c : Int) + p).toNat = c + p.toNat := by omega
    have e2 : ∀ j,(xs ++ ts).getD (c + j) .nil = ts.getD j .nil := fun j => by
      rw [List.getD_eq_getElem?_getD,List.getElem?_append_right (by omega),List.getD_eq_getElem?_getD]
      congr 2; omega
    have e3 : (xs ++ ts).drop (c + i) = ts.drop i := by rw [← List.drop_drop,← hc,List.drop_left]
    simp only [List.map_cons,asm]
    rw [e1,e3,show c + p.toNat - (c + i) = p.toNat - i by omega,e2,show c + p.toNat + 1 = c + (p.toNat + 1) by omega,e2,show c + p.toNat + 2 = c + (p.toNat + 2) by omega,asm_shift c xs hc ts ps (p.toNat + 2) fun q hq => h q (List.mem_cons_of_mem _ hq)]
theorem pairs_nonneg (xs : List Int) (l : Int) : ∀ p ∈ pairsF xs l,0 ≤ p := fun p hp => (pairs_fit hp).1
theorem pairT_nil (l : Nat) : pairT [] l = [] := by
  rw [pairT,keysT,List.map_nil,pairs_nil]; rfl
theorem pairT_one (x : Tm) (l : Nat) : pairT [x] l = [x] := by
  rw [pairT,keysT,List.map_cons,List.map_nil,pairs_one]; rfl
theorem pairT_take {x y : Tm} {r : List Tm} {l : Nat} (h : fitsF x.key y.key l = true) : pairT (x :: y :: r) l = .pr x y :: pairT r l := by
  have e : keysT (x :: y :: r) = (x.key : Int) :: (y.key : Int) :: keysT r := rfl
  rw [pairT,e,pairs_take h,asm]
  have := asm_shift 2 [x,y] rfl r (pairsF (keysT r) l) 0 (pairs_nonneg _ _)
  simp only [Nat.add_zero,List.cons_append,List.nil_append] at this
  simp only [Int.toNat_zero,Nat.sub_zero,List.take_zero,List.nil_append,Nat.zero_add,List.getD_cons_zero,List.getD_cons_succ]
  exact congrArg _ this
theorem pairT_skip {x y : Tm} {r : List Tm} {l : Nat} (h : fitsF x.key y.key l = false) : pairT (x :: y :: r) l = x :: pairT (y :: r) l := by
  have e : keysT (x :: y :: r) = (x.key : Int) :: (y.key : Int) :: keysT r := rfl
  have e2 : keysT (y :: r) = (y.key : Int) :: keysT r := rfl
  rw [pairT,e,pairs_skip h,← e2,asm_cons (pairs_nonneg _ _)]
  have := asm_shift 1 [x] rfl (y :: r) (pairsF (keysT (y :: r)) l) 0 (pairs_nonneg _ _)
  rw [pairT]
  congr 1
theorem runsT_split : ∀ {ts : List Tm} {p q : List (Tm × Nat)},runsT ts = p ++ q → ∃ a b,ts = a ++ b ∧ runsT a = p ∧ runsT b = q
  | ts,[],q,h => ⟨[],ts,rfl,rfl,h⟩
  | [],_ :: _,_,h => by simp [runsT] at h
  | x :: xs,(y,t) :: p,q,h => by
    have e : runsT (x :: xs) = match runsT xs with
      | [] => [(x,1)]
      | (z,t) :: q => if x = z then (z,t + 1) :: q else (x,1) :: (z,t) :: q := rfl
    cases hr : runsT xs with
    | nil =>
      rw [hr] at e
      rw [e] at h
      simp only [List.cons_append,List.cons.injEq] at h
      obtain ⟨h1,h2⟩ := h
      have h3 := List.append_eq_nil_iff.1 h2.symm
      rw [h3.1,h3.2]
      have hxs : xs = [] := by
        cases xs with
        | nil => rfl
        | cons z zs => obtain ⟨t,r,e⟩ := runsT_head z zs; rw [e] at hr; cases hr
      subst hxs
      exact ⟨[x],[],by simp,by rw [← h1]; rfl,rfl⟩
    | cons g r =>
      obtain ⟨z,t'⟩ := g
      rw [hr] at e
      simp only at e
      by_cases hxz : x = z
      · subst hxz
        rw [if_pos rfl] at e
        rw [e,List.cons_append,List.cons.injEq] at h
        obtain ⟨a,b,h1,h2,h3⟩ := runsT_split (ts := xs) (p := (x,t') :: p) (q := q) (by rw [hr,h.2]; rfl)
        refine ⟨x :: a,b,by rw [h1]; rfl,?_,h3⟩
        have e2 : runsT (x :: a) = match runsT a with
          | [] => [(x,1)]
          | (z,t) :: q => if x = z then (z,t + 1) :: q else (x,1) :: (z,t) :: q := rfl
        rw [e2,h2]
        simp only [if_true]
        rw [← h.1]
      · rw [if_neg hxz] at e
        rw [e,List.cons_append,List.cons.injEq] at h
        obtain ⟨a,b,h1,h2,h3⟩ := runsT_split (ts := xs) (p := p) (q := q) (by rw [hr]; exact h.2)
        refine ⟨x :: a,b,by rw [h1]; rfl,?_,h3⟩
        have e2 : runsT (x :: a) = match runsT a with
          | [] => [(x,1)]
          | (z,t) :: q => if x = z then (z,t + 1) :: q else (x,1) :: (z,t) :: q := rfl
        rw [e2,h2,← h.1]
        cases p with
        | nil => rfl
        | cons g p =>
          simp only [List.cons_append,List.cons.injEq] at h
          rw [← h.2.1]
          simp only
          rw [if_neg hxz]
theorem pairT_split (l : Nat) : ∀ (n : Nat) {ts u v : List Tm},ts.length ≤ n → pairT ts l = u ++ v → ∃ a b,ts = a ++ b ∧ pairT a l = u ∧ pairT b l = v
  | n,ts,[],v,_,h => ⟨[],ts,rfl,pairT_nil l,h⟩
  | _,[],_ :: _,_,_,h => by rw [pairT_nil] at h; cases h
  | n,[x],c :: u,v,_,h => by
    rw [pairT_one,List.cons_append,List.cons.injEq] at h
    have h3 := List.append_eq_nil_iff.1 h.2.symm
    rw [h3.1,h3.2,← h.1]
    exact ⟨[x],[],rfl,pairT_one x l,pairT_nil l⟩
  | 0,_ :: _ :: _,_ :: _,_,hn,_ => by simp at hn
  | n + 1,x :: y :: r,c :: u,v,hn,h => by
    simp only [List.length_cons] at hn
    cases hf : fitsF x.key y.key l with
    | true =>
      rw [pairT_take hf,List.cons_append,List.cons.injEq] at h
      obtain ⟨a,b,h1,h2,h3⟩ := pairT_split l n (ts := r) (by omega) h.2
      exact ⟨x :: y :: a,b,by rw [h1]; rfl,by rw [pairT_take hf,h2,h.1],h3⟩
    | false =>
      rw [pairT_skip hf,List.cons_append,List.cons.injEq] at h
      obtain ⟨a,b,h1,h2,h3⟩ := pairT_split l n (ts := y :: r) (by simp only [List.length_cons]; omega) h.2
      cases a with
      | nil =>
        rw [pairT_nil] at h2
        refine ⟨[x],b,by rw [h1]; rfl,by rw [pairT_one,h.1,h2],h3⟩
      | cons z a =>
        rw [List.cons_append,List.cons.injEq] at h1
        rw [← h1.1] at h2
        exact ⟨x :: y :: a,b,by rw [h1.2]; rfl,by rw [pairT_skip hf,h2,h.1],h3⟩
theorem stepT_split {l : Nat} {ts u v : List Tm} (h : stepT l ts = u ++ v) : ∃ a b,ts = a ++ b ∧ stepT l a = u ∧ stepT l b = v := by
  by_cases hl : l % 2 = 1
  · rw [stepT,if_pos hl] at h
    obtain ⟨p,q,h1,h2,h3⟩ := List.map_eq_append_iff.1 h
    obtain ⟨a,b,k1,k2,k3⟩ := runsT_split h1
    exact ⟨a,b,k1,by rw [stepT,if_pos hl,runT,k2,h2],by rw [stepT,if_pos hl,runT,k3,h3]⟩
  · rw [stepT,if_neg hl] at h
    obtain ⟨a,b,k1,k2,k3⟩ := pairT_split l _ (Nat.le_refl _) h
    exact ⟨a,b,k1,by rw [stepT,if_neg hl,k2],by rw [stepT,if_neg hl,k3]⟩
theorem seqT_split {t : List Nat} : ∀ {k : Nat} {u v : List Tm},seqT t k = u ++ v → seqT (txtOf u) k = u ∧ seqT (txtOf v) k = v
  | 0,u,v,h => by
    rw [seqT] at h
    obtain ⟨p,q,h1,h2,h3⟩ := List.map_eq_append_iff.1 h
    rw [← h2,← h3]
    exact ⟨by rw [txtOf_lets]; rfl,by rw [txtOf_lets]; rfl⟩
  | k + 1,u,v,h => by
    rw [seqT] at h
    obtain ⟨a,b,h1,h2,h3⟩ := stepT_split h
    obtain ⟨i1,i2⟩ := seqT_split h1
    have e1 : txtOf a = txtOf u := by rw [← h2,stepT_txt]
    have e2 : txtOf b = txtOf v := by rw [← h3,stepT_txt]
    rw [seqT,seqT,← e1,← e2,i1,i2]
    exact ⟨h2,h3⟩
theorem seqT_part {t : List Nat} {k : Nat} {u v w : List Tm} (h : seqT t k = u ++ v ++ w) : seqT (txtOf v) k = v := by
  have h1 := (seqT_split h).1
  exact (seqT_split h1).2
theorem seqT_below {t : List Nat} : ∀ {k : Nat} {u v : List Tm},seqT t k = u ++ v → ∀ j,j ≤ k → seqT t j = seqT (txtOf u) j ++ seqT (txtOf v) j
  | k,u,v,h,j,hj => by
    by_cases he : j = k
    · subst he
      obtain ⟨i1,i2⟩ := seqT_split h
      rw [i1,i2,h]
    · obtain ⟨k',rfl⟩ : ∃ k',k = k' + 1 := ⟨k - 1,by omega⟩
      rw [seqT] at h
      obtain ⟨a,b,h1,h2,h3⟩ := stepT_split h
      have e1 : txtOf a = txtOf u := by rw [← h2,stepT_txt]
      have e2 : txtOf b = txtOf v := by rw [← h3,stepT_txt]
      rw [← e1,← e2]
      exact seqT_below h1 j (by omega)
theorem txtOf_one (m : Tm) : txtOf [m] = m.txt := by simp [txtOf]
theorem seqT_mem {t : List Nat} {k : Nat} {m : Tm} (h : m ∈ seqT t k) : seqT m.txt k = [m] := by
  obtain ⟨u,w,e⟩ := List.append_of_mem h
  have := seqT_part (u := u) (v := [m]) (w := w) (by rw [e]; simp)
  rwa [txtOf_one] at this
theorem stepT_one (l : Nat) (m : Tm) : stepT l [m] = [m] := by
  unfold stepT
  split
  · rfl
  · exact pairT_one m l
theorem seqT_stay {t : List Nat} {k : Nat} {m : Tm} (h : seqT t k = [m]) : ∀ j,k ≤ j → seqT t j = [m]
  | 0, hj => by have : k = 0 := by omega
                rw [← this]; exact h
  | j + 1,hj => by
    by_cases he : k = j + 1
    · rw [← he]; exact h
    · rw [seqT,seqT_stay h j (by omega),stepT_one]
theorem sig_of_one {t : List Nat} (hp : 0 < t.length) : ∀ {k : Nat} {m : Tm},seqT t k = [m] → Sig t m
  | 0,m,h => ⟨0,h,fun l hl => absurd hl (by omega)⟩
  | k + 1,m,h => by
    by_cases h1 : (seqT t k).length = 1
    · obtain ⟨x,hx⟩ := List.length_eq_one_iff.1 h1
      have := seqT_stay hx (k + 1) (by omega)
      rw [this] at h
      have hxm : x = m := by simpa using h
      subst hxm
      exact sig_of_one hp hx
    · refine ⟨k + 1,h,fun l hl => ?_⟩
      have hl' := seqT_pos hp l
      refine Nat.lt_of_le_of_ne hl' fun he => ?_
      obtain ⟨x,hx⟩ := List.length_eq_one_iff.1 he.symm
      have := seqT_stay hx k (by omega)
      rw [this] at h1
      simp at h1
end Go.Proofs.YtkkhpdkfploodaaGreatDoor
/- What a signature reaches. Plain Lean: no program in sight. -/
namespace Go.Proofs.YtkkhpdkfploodaaGreatDoor
open Go.EG
set_option linter.unusedSimpArgs false
set_option linter.unusedVariables false
inductive Sub : Tm → Tm → Prop
  | refl (m : Tm) : Sub m m
  | left {m a b : Tm} : Sub m a → Sub m (.pr a b)
  | right {m a b : Tm} : Sub m b → Sub m (.pr a b)
  | pow {m a : Tm} {k : Nat} : Sub m a → Sub m (.pw a k)
theorem Sub.trans {a b c : Tm} (h : Sub a b) (k : Sub b c) : Sub a c := by
  induction k with
  | refl => exact h
  | left _ ih => exact .left ih
  | right _ ih => exact .right ih
  | pow _ ih => exact .pow ih
theorem runsT_mem : ∀ {ts : List Tm} {m : Tm},m ∈ ts → ∃ g ∈ runsT ts,g.1 = m
  | x :: xs,m,h => by
    have ih := runsT_mem (ts := xs) (m := m)
    obtain ⟨t,r,e⟩ := runsT_head x xs
    rw [List.mem_cons] at h
    rcases h with rfl | h
    · exact ⟨(m,t),by rw [e]; exact List.mem_cons_self,rfl⟩
    · obtain ⟨g,hg,hm⟩ := ih h
      simp only [runsT]
      cases hr : runsT xs with
      | nil => rw [hr] at hg; simp at hg
      | cons p q =>
        obtain ⟨y,t'⟩ := p
        rw [hr] at hg
        simp only
        by_cases hxy : x = y
        · rw [if_pos hxy]
          rw [List.mem_cons] at hg
          rcases hg with rfl | hg
          · exact ⟨(y,t' + 1),List.mem_cons_self,hm⟩
          · exact ⟨g,List.mem_cons_of_mem _ hg,hm⟩
        · rw [if_neg hxy]
          exact ⟨g,List.mem_cons_of_mem _ hg,hm⟩
theorem runT_cover {ts : List Tm} {m : Tm} (h : m ∈ ts) : ∃ m' ∈ runT ts,Sub m m' := by
  obtain ⟨g,hg,rfl⟩ := runsT_mem h
  refine ⟨powT g,List.mem_map.2 ⟨g,hg,rfl⟩,?_⟩
  unfold powT
  split
  · exact .refl _
  · exact .pow (.refl _)
theorem asm_cover (ts : List Tm) : ∀ (ps : List Int) (i : Nat),Gap i ps → (∀ p ∈ ps,0 ≤ p ∧ p + 1 < ts.length) → ∀ j,i ≤ j → j < ts.length → ∃ m' ∈ asm ts i ps,Sub (ts.getD j .nil) m'
  | [],i,_,_,j,h1,h2 => by
    refine ⟨ts.getD j .nil,?_,.refl _⟩
    rw [asm,List.getD_eq_getElem?_getD,List.getElem?_eq_getElem h2]
    refine List.mem_drop_iff_getElem.2 ⟨j - i,by omega,?_⟩
    simp [show i + (j - i) = j by omega]
  | p :: ps,i,hg,hm,j,h1,h2 => by
    have hp := hm p List.mem_cons_self
    have hg1 := hg.1
    rw [asm]
    by_cases hj : j < p.toNat
    · refine ⟨ts.getD j .nil,List.mem_append_left _ ?_,.refl _⟩
      rw [List.getD_eq_getElem?_getD,List.getElem?_eq_getElem h2]
      refine List.mem_take_iff_getElem.2 ⟨j - i,by simp; omega,?_⟩
      simp [show i + (j - i) = j by omega]
    · by_cases hj2 : j < p.toNat + 2
      · refine ⟨_,List.mem_append_right _ List.mem_cons_self,?_⟩
        rcases (show j = p.toNat ∨ j = p.toNat + 1 by omega) with rfl | rfl
        · exact .left (.refl _)
        · exact .right (.refl _)
      · obtain ⟨m',h3,h4⟩ := asm_cover ts ps (p.toNat + 2) (by have := hg.2; rwa [show ((p.toNat + 2 : Nat) : Int) = p + 2 by omega]) (fun q hq => hm q (List.mem_cons_of_mem _ hq)) j (by omega) h2
        exact ⟨m',List.mem_append_right _ (List.mem_cons_of_mem _ h3),h4⟩
theorem stepT_cover {l : Nat} {ts : List Tm} {m : Tm} (h : m ∈ ts) : ∃ m' ∈ stepT l ts,Sub m m' := by
  unfold stepT
  split
  · exact runT_cover h
  · obtain ⟨h1,h2⟩ := pairs_ok ts l
    obtain ⟨j,hj,rfl⟩ := List.getElem_of_mem h
    have := asm_cover ts _ 0 h1 h2 j (Nat.zero_le _) hj
    rwa [List.getD_eq_getElem?_getD,List.getElem?_eq_getElem hj] at this
theorem Sub.num {S : Sto} (hw : WF S) {m m' : Tm} (h : Sub m m') : ∀ {y z : Int},1 ≤ y → y ≤ S.E.length → 1 ≤ z → z ≤ S.E.length → tm S.E y = m → tm S.E z = m' → y ≤ z := by
  induction h with
  | refl =>
    intro y z h1 h2 h3 h4 e1 e2
    have := (hw.inj_iff h1 h2 h3 h4).1 (e1.trans e2.symm)
    omega
  | @left a b _ ih =>
    intro y z h1 h2 h3 h4 e1 e2
    obtain ⟨hr,_,ht,_⟩ := hw.at_ h3 h4
    rw [e2] at ht
    unfold mkT at ht
    rcases hr with ⟨k1,_⟩ | ⟨k1,_,_,k4,k5,k6,k7⟩ | ⟨k1,_⟩
    · rw [if_pos k1] at ht; cases ht
    · rw [if_neg (by omega),if_pos k1] at ht
      injection ht with ha hb
      have := ih h1 h2 k4 (by omega) e1 ha.symm
      omega
    · rw [if_neg (by omega),if_neg (by omega)] at ht; cases ht
  | @right a b _ ih =>
    intro y z h1 h2 h3 h4 e1 e2
    obtain ⟨hr,_,ht,_⟩ := hw.at_ h3 h4
    rw [e2] at ht
    unfold mkT at ht
    rcases hr with ⟨k1,_⟩ | ⟨k1,_,_,k4,k5,k6,k7⟩ | ⟨k1,_⟩
    · rw [if_pos k1] at ht; cases ht
    · rw [if_neg (by omega),if_pos k1] at ht
      injection ht with ha hb
      have := ih h1 h2 k6 (by omega) e1 hb.symm
      omega
    · rw [if_neg (by omega),if_neg (by omega)] at ht; cases ht
  | @pow a k _ ih =>
    intro y z h1 h2 h3 h4 e1 e2
    obtain ⟨hr,_,ht,_⟩ := hw.at_ h3 h4
    rw [e2] at ht
    unfold mkT at ht
    rcases hr with ⟨k1,_⟩ | ⟨k1,_,_,k4,k5,k6,k7⟩ | ⟨k1,_,_,_,k5,k6⟩
    · rw [if_pos k1] at ht; cases ht
    · rw [if_neg (by omega),if_pos k1] at ht; cases ht
    · rw [if_neg (by omega),if_neg (by omega)] at ht
      injection ht with ha hb
      have := ih h1 h2 k5 (by omega) e1 ha.symm
      omega
theorem Sub.reach {S : Sto} (hw : WF S) {id : Int} {L : List Int} (hL : Rch S id L) (hid : id ≤ S.E.length) {m m' : Tm} (h : Sub m m') : ∀ {y z : Int},1 ≤ y → y ≤ S.E.length → z ∈ L → tm S.E y = m → tm S.E z = m' → y ∈ L := by
  induction h with
  | refl =>
    intro y z h1 h2 h3 e1 e2
    have hz := hL.pos z h3
    have := (hw.inj_iff h1 h2 hz.1 (by omega)).1 (e1.trans e2.symm)
    rw [this]; exact h3
  | @left a b _ ih =>
    intro y z h1 h2 h3 e1 e2
    have hz := hL.pos z h3
    obtain ⟨hr,_,ht,_⟩ := hw.at_ hz.1 (by omega)
    have hc := hL.cls z h3
    rw [e2] at ht
    unfold mkT at ht
    rcases hr with ⟨k1,_⟩ | ⟨k1,_,_,k4,k5,k6,k7⟩ | ⟨k1,_⟩
    · rw [if_pos k1] at ht; cases ht
    · rw [if_neg (by omega),if_pos k1] at ht
      injection ht with ha hb
      exact ih h1 h2 (hc _ (by unfold refsL; rw [if_pos k1]; simp)) e1 ha.symm
    · rw [if_neg (by omega),if_neg (by omega)] at ht; cases ht
  | @right a b _ ih =>
    intro y z h1 h2 h3 e1 e2
    have hz := hL.pos z h3
    obtain ⟨hr,_,ht,_⟩ := hw.at_ hz.1 (by omega)
    have hc := hL.cls z h3
    rw [e2] at ht
    unfold mkT at ht
    rcases hr with ⟨k1,_⟩ | ⟨k1,_,_,k4,k5,k6,k7⟩ | ⟨k1,_⟩
    · rw [if_pos k1] at ht; cases ht
    · rw [if_neg (by omega),if_pos k1] at ht
      injection ht with ha hb
      exact ih h1 h2 (hc _ (by unfold refsL; rw [if_pos k1]; simp)) e1 hb.symm
    · rw [if_neg (by omega),if_neg (by omega)] at ht; cases ht
  | @pow a k _ ih =>
    intro y z h1 h2 h3 e1 e2
    have hz := hL.pos z h3
    obtain ⟨hr,_,ht,_⟩ := hw.at_ hz.1 (by omega)
    have hc := hL.cls z h3
    rw [e2] at ht
    unfold mkT at ht
    rcases hr with ⟨k1,_⟩ | ⟨k1,_,_,k4,k5,k6,k7⟩ | ⟨k1,_,_,_,k5,k6⟩
    · rw [if_pos k1] at ht; cases ht
    · rw [if_neg (by omega),if_pos k1] at ht; cases ht
    · rw [if_neg (by omega),if_neg (by omega)] at ht
      injection ht with ha hb
      exact ih h1 h2 (hc _ (by unfold refsL; rw [if_neg (by omega),if_pos k1]; simp)) e1 ha.symm
def Out (S0 S : Sto) (t : List Nat) : Prop := ∀ y : Int,S0.E.length < y → y ≤ S.E.length → ∃ k,tm S.E y ∈ seqT t k
theorem Out.refl (S : Sto) (t : List Nat) : Out S S t := fun y h1 h2 => by omega
theorem Out.next {S0 S1 S2 : Sto} {ids : List Int} {t : List Nat} {k : Nat} (h : Out S0 S1 t) (hg : Grow S1 S2) (hn : News S1 S2 ids) (ht : tms S2 ids = seqT t k) : Out S0 S2 t := fun y h1 h2 => by
  by_cases hy : y ≤ S1.E.length
  · obtain ⟨j,hj⟩ := h y h1 hy
    exact ⟨j,by rw [hg.tm hy]; exact hj⟩
  · have := hn y (by omega) h2
    exact ⟨k,by rw [← ht]; exact List.mem_map.2 ⟨y,this,rfl⟩⟩
theorem seq_sub {t : List Nat} : ∀ {k j : Nat} {m : Tm},j ≤ k → m ∈ seqT t j → ∃ m' ∈ seqT t k,Sub m m'
  | 0,j,m,hj,h => by
    have : j = 0 := by omega
    subst this
    exact ⟨m,h,.refl _⟩
  | k + 1,j,m,hj,h => by
    by_cases he : j = k + 1
    · subst he; exact ⟨m,h,.refl _⟩
    · obtain ⟨m1,h1,h2⟩ := seq_sub (k := k) (by omega) h
      obtain ⟨m2,h3,h4⟩ := stepT_cover (l := k + 1) h1
      exact ⟨m2,h3,h2.trans h4⟩
theorem sig_sub {t : List Nat} {m m' : Tm} (h : Sig t m) {k : Nat} (hm : m' ∈ seqT t k) : Sub m' m := by
  obtain ⟨L,hL,_⟩ := h
  by_cases hk : k ≤ L
  · obtain ⟨m2,h1,h2⟩ := seq_sub hk hm
    rw [hL,List.mem_singleton] at h1
    rwa [h1] at h2
  · rw [seqT_stay hL k (by omega),List.mem_singleton] at hm
    rw [hm]
    exact .refl _
theorem Out.all {S0 S : Sto} {t : List Nat} (h : Out S0 S t) (hw : WF S) {x : Int} {L : List Int} (h0 : 1 ≤ x) (hx : x ≤ S.E.length) (hs : Sig t (tm S.E x)) (hL : Rch S x L) {y : Int} (h1 : S0.E.length < y) (h2 : y ≤ S.E.length) : y ∈ L := by
  obtain ⟨k,hk⟩ := h y h1 h2
  exact (sig_sub hs hk).reach hw hL hx (by omega) h2 (hL.top (by omega)) rfl rfl
theorem Out.same {S0 S : Sto} {t : List Nat} (h : Out S0 S t) (hw0 : WF S0) (hw : WF S) (hg : Grow S0 S) {x : Int} (h0 : 1 ≤ x) (hx : x ≤ S.E.length) (hs : Sig t (tm S.E x)) {x' : Int} (k0 : 1 ≤ x') (kx : x' ≤ S0.E.length) (ks : Sig t (tm S0.E x')) : x = x' ∧ S.E.length = S0.E.length := by
  have hl := hg.len
  have he : tm S.E x = tm S.E x' := by rw [hg.tm kx]; exact hs.det ks
  have hxx : x = x' := (hw.inj_iff h0 hx k0 (by omega)).1 he
  refine ⟨hxx,?_⟩
  refine Decidable.byContradiction fun hne => ?_
  obtain ⟨k,hk⟩ := h (S.E.length : Int) (by omega) (Int.le_refl _)
  have := (sig_sub hs hk).num hw (y := (S.E.length : Int)) (z := x) (by omega) (Int.le_refl _) h0 hx rfl rfl
  omega
end Go.Proofs.YtkkhpdkfploodaaGreatDoor
/- At which level a symbol is made. Plain Lean: no program in sight. -/
namespace Go.Proofs.YtkkhpdkfploodaaGreatDoor
open Go.EG
set_option linter.unusedSimpArgs false
set_option linter.unusedVariables false
theorem stepT_nil (l : Nat) : stepT l [] = [] := by
  unfold stepT
  split
  · rfl
  · exact pairT_nil l
theorem seqT_nil : ∀ k,seqT [] k = []
  | 0 => rfl
  | k + 1 => by rw [seqT,seqT_nil k,stepT_nil]
theorem seqT_one_pos {t : List Nat} {k : Nat} {m : Tm} {r : List Tm} (h : seqT t k = m :: r) : 0 < t.length := by
  refine Nat.pos_of_ne_zero fun h0 => ?_
  have := List.eq_nil_of_length_eq_zero h0
  subst this
  rw [seqT_nil] at h
  cases h
theorem runsT_exp : ∀ ts : List Tm,((runsT ts).flatMap fun g => List.replicate g.2 g.1) = ts
  | [] => rfl
  | x :: xs => by
    have ih := runsT_exp xs
    simp only [runsT]
    cases hr : runsT xs with
    | nil => rw [hr] at ih; rw [← ih]; rfl
    | cons g r =>
      obtain ⟨y,t⟩ := g
      rw [hr] at ih
      simp only
      by_cases hxy : x = y
      · subst hxy
        rw [if_pos rfl,← ih]
        simp [List.replicate_succ]
      · rw [if_neg hxy,← ih]
        simp
theorem runT_single {ts : List Tm} {m : Tm} (h : runT ts = [m]) (h2 : 2 ≤ ts.length) : ∃ a,ts = List.replicate ts.length a ∧ m = .pw a ts.length := by
  obtain ⟨g,hg,hm⟩ : ∃ g,runsT ts = [g] ∧ powT g = m := by
    unfold runT at h
    obtain ⟨g,r,h1,h2,h3⟩ := List.map_eq_cons_iff.1 h
    have := List.map_eq_nil_iff.1 h3
    exact ⟨g,by rw [h1,this],h2⟩
  obtain ⟨a,n⟩ := g
  have he := runsT_exp ts
  rw [hg] at he
  simp only [List.flatMap_cons,List.flatMap_nil,List.append_nil] at he
  have hn : n = ts.length := by rw [← he,List.length_replicate]
  subst hn
  refine ⟨a,he.symm,?_⟩
  rw [← hm,powT,if_neg (by simp only; omega)]
theorem runsT_rep (a : Tm) : ∀ n,runsT (List.replicate (n + 1) a) = [(a,n + 1)]
  | 0 => rfl
  | n + 1 => by
    have ih := runsT_rep a n
    rw [List.replicate_succ]
    have e : runsT (a :: List.replicate (n + 1) a) = match runsT (List.replicate (n + 1) a) with
      | [] => [(a,1)]
      | (z,t) :: q => if a = z then (z,t + 1) :: q else (a,1) :: (z,t) :: q := rfl
    rw [e,ih]
    simp
theorem runT_rep_len (a : Tm) {n : Nat} (h : 1 ≤ n) : (runT (List.replicate n a)).length = 1 := by
  obtain ⟨n,rfl⟩ : ∃ k,n = k + 1 := ⟨n - 1,by omega⟩
  rw [runT_len,runsT_rep]; rfl
theorem pairT_single {ts : List Tm} {l : Nat} {m : Tm} (h : pairT ts l = [m]) (h2 : 2 ≤ ts.length) : ∃ x y,ts = [x,y] ∧ fitsF x.key y.key l = true ∧ m = .pr x y := by
  match ts,h2 with
  | x :: y :: r,_ =>
    cases hf : fitsF x.key y.key l with
    | true =>
      rw [pairT_take hf,List.cons.injEq] at h
      have hr : r = [] := by
        cases r with
        | nil => rfl
        | cons z r => have := pairT_pos (ts := z :: r) (l := l) (by simp); rw [h.2] at this; simp at this
      subst hr
      exact ⟨x,y,rfl,hf,h.1.symm⟩
    | false =>
      rw [pairT_skip hf,List.cons.injEq] at h
      have := pairT_pos (ts := y :: r) (l := l) (by simp)
      rw [h.2] at this
      simp at this
theorem seqT_reps {e : Tm} : ∀ {n : Nat} {t : List Nat} {k : Nat},seqT t k = List.replicate n e → ∀ j,j ≤ k → seqT t j = (List.replicate n (seqT e.txt j)).flatten
  | 0,t,k,h,j,hj => by
    have := seqT_txt t k
    rw [h] at this
    have ht : t = [] := this.symm
    subst ht
    rw [seqT_nil]; rfl
  | n + 1,t,k,h,j,hj => by
    rw [List.replicate_succ] at h
    have h1 := seqT_below (u := [e]) (v := List.replicate n e) h j hj
    have h2 := (seqT_split (u := [e]) (v := List.replicate n e) h).2
    rw [h1,txtOf_one,seqT_reps h2 j hj,List.replicate_succ,List.flatten_cons]
theorem flatten_reps (a : Tm) (p : Nat) : ∀ n,(List.replicate n (List.replicate p a)).flatten = List.replicate (n * p) a
  | 0 => by simp
  | n + 1 => by rw [List.replicate_succ,List.flatten_cons,flatten_reps a p n,List.replicate_append_replicate]; congr 1; rw [Nat.succ_mul]; omega
theorem flatten_ones (a : Tm) (n : Nat) : (List.replicate n [a]).flatten = List.replicate n a := by
  have := flatten_reps a 1 n
  rwa [Nat.mul_one] at this
theorem reps_level {e : Tm} {n : Nat} (hn : 2 ≤ n) {t : List Nat} {k : Nat} (h : seqT t k = List.replicate n e) {Le : Nat} (h1 : seqT e.txt Le = [e]) (h2 : ∀ l,l < Le → 1 < (seqT e.txt l).length) : k = Le ∧ Le % 2 = 0 := by
  have hk : seqT e.txt k = [e] := seqT_mem (t := t) (by rw [h]; exact List.mem_replicate.2 ⟨by omega,rfl⟩)
  have hle : Le ≤ k := by
    refine Decidable.byContradiction fun hc => ?_
    have := h2 k (by omega)
    rw [hk] at this
    simp at this
  have hev : Le % 2 = 0 := by
    refine Decidable.byContradiction fun hc => ?_
    obtain ⟨j,rfl⟩ : ∃ j,Le = j + 1 := ⟨Le - 1,by omega⟩
    have h3 := h2 j (by omega)
    rw [seqT,stepT,if_pos (by omega)] at h1
    obtain ⟨a,ha,_⟩ := runT_single h1 h3
    have e1 := seqT_reps h j (by omega)
    have e2 := seqT_reps h (j + 1) hle
    rw [ha,flatten_reps] at e1
    have e3 : (seqT t (j + 1)).length = 1 := by
      rw [seqT,stepT,if_pos (by omega),e1]
      refine runT_rep_len a ?_
      have := Nat.mul_le_mul hn h3
      omega
    rw [e2,seqT,stepT,if_pos (by omega),h1,flatten_ones,List.length_replicate] at e3
    omega
  refine ⟨?_,hev⟩
  refine Decidable.byContradiction fun hc => ?_
  have e1 := seqT_reps h Le (by omega)
  have e2 := seqT_reps h (Le + 1) (by omega)
  rw [h1,flatten_ones] at e1
  rw [seqT_stay h1 (Le + 1) (by omega),flatten_ones] at e2
  have e3 : (seqT t (Le + 1)).length = 1 := by
    rw [seqT,stepT,if_pos (by omega),e1]
    exact runT_rep_len e (by omega)
  rw [e2,List.length_replicate] at e3
  omega
theorem fits_odd {x y l : Int} (h : l % 2 = 1) : fitsF x y l = false := by
  unfold fitsF evenF
  simp [h]
theorem sig_level (m : Tm) : ∀ {b : List Nat} {L : Nat},seqT b L = [m] → (∀ l,l < L → 1 < (seqT b l).length) → m.level = L := by
  induction m with
  | nil =>
    intro b L h1 h2
    have := seqT_txt b L
    rw [h1] at this
    have hb : b = [] := this.symm
    subst hb
    rw [seqT_nil] at h1
    cases h1
  | lt x =>
    intro b L h1 h2
    have hb := seqT_txt b L
    rw [h1] at hb
    have hb : b = [x] := hb.symm
    subst hb
    cases L with
    | zero => rfl
    | succ L => have := h2 0 (by omega); simp [seqT] at this
  | pr x y ihx ihy =>
    intro b L h1 h2
    cases L with
    | zero =>
      rw [seqT] at h1
      obtain ⟨c,r,k1,k2,k3⟩ := List.map_eq_cons_iff.1 h1
      cases k2
    | succ L =>
      have h3 := h2 L (by omega)
      have hL := h1
      rw [seqT] at hL
      have hev : (L + 1) % 2 = 0 := by
        refine Decidable.byContradiction fun hc => ?_
        rw [stepT,if_pos (by omega)] at hL
        obtain ⟨a,_,hm⟩ := runT_single hL h3
        cases hm
      rw [stepT,if_neg (by omega)] at hL
      obtain ⟨x',y',hs,hf,hm⟩ := pairT_single hL h3
      injection hm with e1 e2
      subst e1 e2
      have hbl := seqT_below (u := [x]) (v := [y]) hs
      rw [txtOf_one,txtOf_one] at hbl
      obtain ⟨sx,sy⟩ := seqT_split (u := [x]) (v := [y]) hs
      rw [txtOf_one] at sx sy
      obtain ⟨Lx,x1,x2⟩ := sig_of_one (seqT_one_pos sx) sx
      obtain ⟨Ly,y1,y2⟩ := sig_of_one (seqT_one_pos sy) sy
      have lx := ihx x1 x2
      have ly := ihy y1 y2
      have hLx : Lx ≤ L := by
        refine Decidable.byContradiction fun hc => ?_
        have := x2 L (by omega)
        rw [sx] at this
        simp at this
      have hLy : Ly ≤ L := by
        refine Decidable.byContradiction fun hc => ?_
        have := y2 L (by omega)
        rw [sy] at this
        simp at this
      have hxy : x ≠ y := by
        intro he
        subst he
        have := reps_level (e := x) (n := 2) (Nat.le_refl _) hs x1 x2
        omega
      have hbet : ∀ j,Lx ≤ j → Ly ≤ j → j ≤ L → seqT b j = [x,y] := fun j j1 j2 j3 => by
        rw [hbl j j3,seqT_stay x1 j j1,seqT_stay y1 j j2]; rfl
      have hno : ∀ l : Int,max (Lx : Int) Ly < l → l ≤ L → fitsF x.key y.key l = false := fun l l1 l2 => by
        obtain ⟨j,rfl⟩ : ∃ j : Nat,l = ((j + 1 : Nat) : Int) := ⟨(l - 1).toNat,by omega⟩
        by_cases ho : (j + 1) % 2 = 1
        · exact fits_odd (by omega)
        · have k1 := hbet j (by omega) (by omega) (by omega)
          have k2 := hbet (j + 1) (by omega) (by omega) (by omega)
          rw [seqT,k1,stepT,if_neg ho] at k2
          cases hff : fitsF x.key y.key ((j + 1 : Nat) : Int) with
          | false => rfl
          | true => rw [pairT_take hff,pairT_nil] at k2; simp at k2
      rw [Tm.level,lx,ly,if_pos ⟨hxy,by omega,by omega⟩]
      have hmx : max (Lx : Int) (Ly : Int) = ((max Lx Ly : Nat) : Int) := by omega
      have hne := after_found (low := max (Lx : Int) Ly) (x := x.key) (y := y.key) (by omega) (Nat.lt_of_lt_of_le x.key_lt (by decide)) (Nat.lt_of_lt_of_le y.key_lt (by decide))
      have hok := (after_ok (max Lx Ly) x.key y.key)
      rw [← hmx] at hok
      obtain ⟨a1,a2,a3,a4⟩ := hok.some hne
      generalize afterF (max (Lx : Int) Ly) x.key y.key = A at *
      rcases Int.lt_trichotomy A ((L + 1 : Nat) : Int) with hc | hc | hc
      · have := hno A a1 (by omega)
        rw [a3] at this
        cases this
      · exact hc
      · have := a4 ((L + 1 : Nat) : Int) (by omega) hc
        rw [hf] at this
        cases this
  | pw a n iha =>
    intro b L h1 h2
    cases L with
    | zero =>
      rw [seqT] at h1
      obtain ⟨c,r,k1,k2,k3⟩ := List.map_eq_cons_iff.1 h1
      cases k2
    | succ L =>
      have h3 := h2 L (by omega)
      have hL := h1
      rw [seqT] at hL
      have hod : (L + 1) % 2 = 1 := by
        refine Decidable.byContradiction fun hc => ?_
        rw [stepT,if_neg hc] at hL
        obtain ⟨x',y',_,_,hm⟩ := pairT_single hL h3
        cases hm
      rw [stepT,if_pos hod] at hL
      obtain ⟨a',hs,hm⟩ := runT_single hL h3
      injection hm with e1 e2
      subst e1
      have sa : seqT a.txt L = [a] := seqT_mem (t := b) (k := L) (by rw [hs]; exact List.mem_replicate.2 ⟨by omega,rfl⟩)
      obtain ⟨La,a1,a2⟩ := sig_of_one (seqT_one_pos sa) sa
      have la := iha a1 a2
      obtain ⟨q1,q2⟩ := reps_level (by omega) hs a1 a2
      rw [Tm.level,la,if_pos ⟨by omega,by omega⟩]
      omega
def expT (n : Int) : Tm → List Tm
  | .nil => [.nil]
  | .lt x => [.lt x]
  | .pr a b => if (Tm.pr a b).level ≤ n then [.pr a b] else expT n a ++ expT n b
  | .pw a k => if (Tm.pw a k).level ≤ n then [.pw a k] else (List.replicate k (expT n a)).flatten
theorem expT_sig {n : Nat} (m : Tm) : ∀ {b : List Nat} {L : Nat},seqT b L = [m] → (∀ l,l < L → 1 < (seqT b l).length) → expT n m = seqT b n := by
  induction m with
  | nil =>
    intro b L h1 h2
    have := seqT_txt b L
    rw [h1] at this
    have hb : b = [] := this.symm
    subst hb
    rw [seqT_nil] at h1
    cases h1
  | lt x =>
    intro b L h1 h2
    have hl := sig_level _ h1 h2
    have : L = 0 := by simp only [Tm.level] at hl; omega
    subst this
    rw [expT,seqT_stay h1 n (by omega)]
  | pr x y ihx ihy =>
    intro b L h1 h2
    have hl := sig_level _ h1 h2
    rw [expT]
    by_cases hn : (Tm.pr x y).level ≤ n
    · rw [if_pos hn,seqT_stay h1 n (by omega)]
    · rw [if_neg hn]
      cases L with
      | zero => omega
      | succ L =>
        have h3 := h2 L (by omega)
        have hL := h1
        rw [seqT] at hL
        by_cases hod : (L + 1) % 2 = 1
        · rw [stepT,if_pos hod] at hL
          obtain ⟨a,_,hm⟩ := runT_single hL h3
          cases hm
        · rw [stepT,if_neg hod] at hL
          obtain ⟨x',y',hs,hf,hm⟩ := pairT_single hL h3
          injection hm with e1 e2
          subst e1 e2
          have hbl := seqT_below (u := [x]) (v := [y]) hs n (by omega)
          rw [txtOf_one,txtOf_one] at hbl
          obtain ⟨sx,sy⟩ := seqT_split (u := [x]) (v := [y]) hs
          rw [txtOf_one] at sx sy
          obtain ⟨Lx,x1,x2⟩ := sig_of_one (seqT_one_pos sx) sx
          obtain ⟨Ly,y1,y2⟩ := sig_of_one (seqT_one_pos sy) sy
          rw [hbl,ihx x1 x2,ihy y1 y2]
  | pw a k iha =>
    intro b L h1 h2
    have hl := sig_level _ h1 h2
    rw [expT]
    by_cases hn : (Tm.pw a k).level ≤ n
    · rw [if_pos hn,seqT_stay h1 n (by omega)]
    · rw [if_neg hn]
      cases L with
      | zero => omega
      | succ L =>
        have h3 := h2 L (by omega)
        have hL := h1
        rw [seqT] at hL
        by_cases hod : (L + 1) % 2 = 1
        · rw [stepT,if_pos hod] at hL
          obtain ⟨a',hs,hm⟩ := runT_single hL h3
          injection hm with e1 e2
          subst e1
          have sa : seqT a.txt L = [a] := seqT_mem (t := b) (k := L) (by rw [hs]; exact List.mem_replicate.2 ⟨by omega,rfl⟩)
          obtain ⟨La,a1,a2⟩ := sig_of_one (seqT_one_pos sa) sa
          rw [seqT_reps hs n (by omega),iha a1 a2,e2]
        · rw [stepT,if_neg hod] at hL
          obtain ⟨x',y',_,_,hm⟩ := pairT_single hL h3
          cases hm
end Go.Proofs.YtkkhpdkfploodaaGreatDoor
/- A symbol's sequence at a level,as the program finds it. Plain Lean: no program in sight. -/
namespace Go.Proofs.YtkkhpdkfploodaaGreatDoor
open Go.EG
set_option linter.unusedSimpArgs false
set_option linter.unusedVariables false
def oneT (n : Int) : Tm → Tm
  | .nil => .nil
  | .lt x => .lt x
  | .pr a b => if (Tm.pr a b).level ≤ n then .pr a b else if oneT n a = oneT n b then oneT n a else .nil
  | .pw a k => if (Tm.pw a k).level ≤ n then .pw a k else oneT n a
def Lvd (m : Tm) : Prop := 0 ≤ m.level
theorem Lvd.pr {a b : Tm} (h : Lvd (.pr a b)) : Lvd a ∧ Lvd b := by
  unfold Lvd at h ⊢
  simp only [Tm.level] at h
  split at h
  · rename_i hc; exact hc.2
  · omega
theorem Lvd.pw {a : Tm} {k : Nat} (h : Lvd (.pw a k)) : Lvd a := by
  unfold Lvd at h ⊢
  simp only [Tm.level] at h
  split at h
  · rename_i hc; exact hc.1
  · omega
theorem oneT_low {n : Int} {m : Tm} (h : m.level ≤ n) : oneT n m = m := by
  cases m with
  | nil => rfl
  | lt x => rfl
  | pr a b => rw [oneT,if_pos h]
  | pw a k => rw [oneT,if_pos h]
theorem expT_low {n : Int} {m : Tm} (h : m.level ≤ n) : expT n m = [m] := by
  cases m with
  | nil => rfl
  | lt x => rfl
  | pr a b => rw [expT,if_pos h]
  | pw a k => rw [expT,if_pos h]
theorem len_pr1 (a b : Tm) : (Tm.pr a b).len = a.len + b.len := by unfold Tm.len; rw [Tm.txt,List.length_append]
theorem len_pw1 (a : Tm) (k : Nat) : (Tm.pw a k).len = k * a.len := by unfold Tm.len; rw [Tm.txt,rep_length]
def Pos : Tm → Prop
  | .nil => False
  | .lt _ => True
  | .pr a b => Pos a ∧ Pos b
  | .pw a k => 1 ≤ k ∧ Pos a
theorem Pos.len : ∀ {m : Tm},Pos m → 1 ≤ m.len
  | .nil,h => h.elim
  | .lt x,_ => Nat.le_refl _
  | .pr a b,h => by rw [len_pr1]; have := h.1.len; omega
  | .pw a k,h => by rw [len_pw1]; exact Nat.mul_pos h.1 h.2.len
theorem Pos.ne {m : Tm} (h : Pos m) : m ≠ .nil := fun e => by subst e; exact h
theorem one_copies {n : Int} : ∀ {m : Tm},Pos m → oneT n m ≠ .nil → ∃ c,1 ≤ c ∧ expT n m = List.replicate c (oneT n m) ∧ m.len = c * (oneT n m).len
  | .nil,h,_ => h.elim
  | .lt x,h,_ => ⟨1,Nat.le_refl _,rfl,by rw [Nat.one_mul]; rfl⟩
  | .pr a b,h,hne => by
    by_cases hl : (Tm.pr a b).level ≤ n
    · rw [oneT_low hl,expT_low hl]; exact ⟨1,Nat.le_refl _,rfl,by rw [Nat.one_mul]⟩
    · rw [oneT,if_neg hl] at hne ⊢
      by_cases he : oneT n a = oneT n b
      · rw [if_pos he] at hne ⊢
        obtain ⟨c1,h1,h2,h3⟩ := one_copies h.1 hne
        obtain ⟨c2,k1,k2,k3⟩ := one_copies h.2 (by rw [← he]; exact hne)
        rw [← he] at k2 k3
        exact ⟨c1 + c2,by omega,by rw [expT,if_neg hl,h2,k2,List.replicate_append_replicate],by rw [len_pr1,Nat.add_mul,← h3,← k3]⟩
      · rw [if_neg he] at hne; exact absurd rfl hne
  | .pw a k,h,hne => by
    by_cases hl : (Tm.pw a k).level ≤ n
    · rw [oneT_low hl,expT_low hl]; exact ⟨1,Nat.le_refl _,rfl,by rw [Nat.one_mul]⟩
    · rw [oneT,if_neg hl] at hne ⊢
      obtain ⟨c1,h1,h2,h3⟩ := one_copies h.2 hne
      exact ⟨k * c1,Nat.mul_pos h.1 h1,by rw [expT,if_neg hl,h2,flatten_reps],by rw [len_pw1,h3,Nat.mul_assoc]⟩
theorem txt_reps (k : Nat) (ts : List Tm) : txtOf (List.replicate k ts).flatten = rep k (txtOf ts) := by
  induction k with
  | zero => rfl
  | succ k ih => rw [List.replicate_succ,List.flatten_cons,txtOf_append,ih,rep_succ]
theorem expT_txt (n : Int) : ∀ m : Tm,txtOf (expT n m) = m.txt
  | .nil => rfl
  | .lt x => rfl
  | .pr a b => by
    rw [expT]
    split
    · exact txtOf_one _
    · rw [txtOf_append,expT_txt n a,expT_txt n b,Tm.txt]
  | .pw a k => by
    rw [expT]
    split
    · exact txtOf_one _
    · rw [txt_reps,expT_txt n a,Tm.txt]
def pushT : List (Tm × Nat) → Tm → Nat → List (Tm × Nat)
  | [],e,c => [(e,c)]
  | [(x,t)],e,c => if x = e then [(x,t + c)] else [(x,t),(e,c)]
  | g :: h :: r,e,c => g :: pushT (h :: r) e c
theorem runsT_push (e : Tm) (c : Nat) : ∀ (ts : List Tm),runsT (ts ++ List.replicate (c + 1) e) = pushT (runsT ts) e (c + 1)
  | [] => by rw [List.nil_append,runsT_rep]; rfl
  | x :: xs => by
    have ih := runsT_push e c xs
    have e1 : runsT (x :: (xs ++ List.replicate (c + 1) e)) = match runsT (xs ++ List.replicate (c + 1) e) with
      | [] => [(x,1)]
      | (z,t) :: q => if x = z then (z,t + 1) :: q else (x,1) :: (z,t) :: q := rfl
    have e2 : runsT (x :: xs) = match runsT xs with
      | [] => [(x,1)]
      | (z,t) :: q => if x = z then (z,t + 1) :: q else (x,1) :: (z,t) :: q := rfl
    rw [List.cons_append,e1,e2,ih]
    cases hr : runsT xs with
    | nil =>
      simp only [pushT]
      by_cases hxe : x = e
      · subst hxe
        simp only [if_true]
        rw [Nat.add_comm 1 (c + 1)]
      · rw [if_neg hxe,if_neg hxe]
    | cons g q =>
      obtain ⟨z,t⟩ := g
      cases q with
      | nil =>
        simp only [pushT]
        by_cases hze : z = e
        · subst hze
          simp only [if_true]
          by_cases hxz : x = z
          · subst hxz
            simp only [if_true,pushT]
            congr 2; omega
          · simp only [if_neg hxz,pushT,if_true]
        · simp only [if_neg hze]
          by_cases hxz : x = z
          · subst hxz
            simp only [if_true,pushT,if_neg hze]
          · simp only [if_neg hxz,pushT,if_neg hze]
      | cons h q =>
        simp only [pushT]
        by_cases hxz : x = z
        · subst hxz
          simp only [if_true,pushT]
        · simp only [if_neg hxz,pushT]
theorem pushT_len : ∀ (l : List (Tm × Nat)) (e : Tm) (c : Nat),l.length ≤ (pushT l e c).length
  | [],e,c => by simp [pushT]
  | [(x,t)],e,c => by rw [pushT]; split <;> simp
  | g :: h :: r,e,c => by
    have := pushT_len (h :: r) e c
    rw [pushT]; simp only [List.length_cons] at this ⊢; omega
theorem runsT_mono (xs ys : List Tm) : (runsT xs).length ≤ (runsT (xs ++ ys)).length := by
  induction ys generalizing xs with
  | nil => rw [List.append_nil]; exact Nat.le_refl _
  | cons y ys ih =>
    have h1 := runsT_push y 0 xs
    have h2 := pushT_len (runsT xs) y (0 + 1)
    rw [← h1] at h2
    have h3 := ih (xs ++ List.replicate (0 + 1) y)
    rw [List.append_assoc] at h3
    exact Nat.le_trans h2 h3
def Tm.sz : Tm → Nat
  | .nil => 1
  | .lt _ => 1
  | .pr a b => 1 + a.sz + b.sz
  | .pw a k => 1 + k * a.sz
theorem Tm.sz_pos (m : Tm) : 1 ≤ m.sz := by cases m <;> simp only [Tm.sz] <;> omega
def leftT (n : Int) (todo : List (Tm × Nat)) : List Tm := todo.reverse.flatMap fun g => (List.replicate g.2 (expT n g.1)).flatten
def leftS (todo : List (Tm × Nat)) : Nat := (todo.map fun g => g.2 * g.1.sz).sum
theorem leftT_snoc (n : Int) (todo : List (Tm × Nat)) (g : Tm × Nat) : leftT n (todo ++ [g]) = (List.replicate g.2 (expT n g.1)).flatten ++ leftT n todo := by simp [leftT]
theorem leftS_snoc (todo : List (Tm × Nat)) (g : Tm × Nat) : leftS (todo ++ [g]) = leftS todo + g.2 * g.1.sz := by simp [leftS]
theorem reps_append (k : Nat) (ts : List Tm) : (List.replicate (k + 1) ts).flatten = ts ++ (List.replicate k ts).flatten := by rw [List.replicate_succ,List.flatten_cons]
theorem reps_reps (k j : Nat) (ts : List Tm) : (List.replicate k (List.replicate j ts).flatten).flatten = (List.replicate (k * j) ts).flatten := by
  induction k with
  | zero => simp
  | succ k ih => rw [List.replicate_succ,List.flatten_cons,ih,Nat.succ_mul,Nat.add_comm,← List.replicate_append_replicate,List.flatten_append]
end Go.Proofs.YtkkhpdkfploodaaGreatDoor
/- A parser's rows: the program. -/
namespace Go.Proofs.YtkkhpdkfploodaaGreatDoor
open Go.EG
attribute [local irreducible] CallK QCall Go.Calls
set_option linter.unusedSimpArgs false
set_option linter.unusedVariables false
set_option maxRecDepth 20000
set_option maxHeartbeats 4000000
def fP (bp bt bs : Nat) (S : Sto) (f1 f2 : List Nat) : List Ent := [packE 78 f1 (fT bt bs S.E),packE 77 f2 (fS bs S),.box 3000 bp [pS bs,pS bt] ty_signature_Parser]
theorem packT_grow {k k' bt bs : Nat} {fp : List Nat} {S S' : Sto} (g : Grow S S') {L L' : List Ent} (h : Thin L L') : Thin (packE k fp (fT bt bs S.E) :: L) (packE k' fp (fT bt bs S'.E) :: L') := by
  obtain ⟨E',rfl⟩ := g
  exact packT_mono h
theorem keyRes_ok {S : Sto} {x : Int} (h : 1 ≤ x ∧ x ≤ S.E.length) : keyRes S x = .tuple #[.int .u64 (tm S.E x).key,.nilIface] := if_pos h
theorem CallK_growT {P : Program} {w0 : World} {fp0 : List Nat} {L Lr : List Ent} {f : FuncId} {args : List Value} {k : SV → List Ent → Prop} {bt bs : Nat} {f1 : List Nat} {S S' : Sto} (hp : pickE 78 L = some (packE 78 f1 (fT bt bs S.E),Lr)) (g : Grow S S') (h : CallK P w0 fp0 f args (packE 78 f1 (fT bt bs S'.E) :: Lr) k) : CallK P w0 fp0 f args L k :=
  CallK_ref ((Ref.perm (pickE_perm hp)).trans (packT_grow g (Thin.refl Lr)).ref) h
def adoQ (bp bt bs br : Nat) (S : Sto) (ids : List Int) (x : Int) (v : Value) (L1 : List Ent) : Prop :=
  ∃ a a' c c' f1 f2,v = .nilIface ∧ L1 = fP bp bt bs S f1 f2 ++ [.box 861 br [.slice a (ids ++ [x]).length c,.slice a' (ids ++ [x]).length c'] ty_signature_sequence,.own 851 a (ids ++ [x]).length c ty_api_ID 1 (ints .i64 (ids ++ [x])),.own 852 a' (ids ++ [x]).length c' ty_uint64 1 (ints .u64 (kys S (ids ++ [x])))]
theorem calls_addO (bp bt bs br : Nat) (S : Sto) (hw : WF S) (ids : List Int) (hl : ids.length ≤ 65536) (x : Int) (hx : 1 ≤ x ∧ x ≤ S.E.length) (a a' : Option Addr) (c c' : Nat) (f1 f2 fp : List Nat) (w : World)
    (hR : R w fp (fP bp bt bs S f1 f2 ++ [.box 861 br [.slice a ids.length c,.slice a' ids.length c'] ty_signature_sequence,.own 851 a ids.length c ty_api_ID 1 (ints .i64 ids),.own 852 a' ids.length c' ty_uint64 1 (ints .u64 (kys S ids))]) w) (hG : TabF w fp) :
    Calls Tryz.prog fn_P_signature_Parser_add #[pS bp,.pointer (some ⟨br,0,none⟩),.int .i64 x] w fun e w' => ∃ v L1,e = .returned v ∧ R w fp L1 w' ∧ adoQ bp bt bs br S ids x v L1 := by
  refine part_call [.ptr 3000 bp 0,.ptr 861 br 0,.v (.int .i64 x)] ok_P_signature_Parser_add (by simp) hR ?_
  have c1 := calls_Key bt bs S hw x
  rw [keyRes_ok hx] at c1
  have hk : kys S (ids ++ [x]) = kys S ids ++ [((tm S.E x).key : Int)] := kys_append S ids [x]
  have hn : (ids ++ [x]).length = ids.length + 1 := by simp
  (repeat' ((conv => whnf); first | (refine CallK_pack2 (key1 := 78) (key2 := 77) rfl rfl (fun w hR h0 => c1 _ _ _ _ _ h0 (hG.cast2 hR)) ?_; rintro _ _ ⟨rfl,fp1',fp2',rfl⟩; refine ⟨.v _,rfl,?_⟩) | refine ⟨.sl 851 _ _ _,⟨rfl,rfl,rfl,rfl⟩,?_⟩ | refine ⟨.sl 852 _ _ _,⟨rfl,rfl,rfl,rfl⟩,?_⟩ | refine ⟨_,⟨rfl,trivial⟩,?_⟩ | (refine bcase_prop (fun h => ?_) (fun h => ?_) <;> try (exfalso; omega)) | (refine bcase_nprop (fun h => ?_) (fun h => ?_) <;> try (exfalso; omega)) | (refine bcase_intro (fun h => ?_) (fun h => ?_) <;> (try simp only [Bool.not_eq_true',Bool.not_eq_false',decide_eq_true_eq,decide_eq_false_iff_not,Bool.not_eq_true,Bool.not_eq_false,Decidable.not_not] at h)) | refine And.intro (by first | omega | exact rfl | assumption | exact ⟨rfl,rfl,rfl,rfl,rfl⟩ | exact ⟨rfl,rfl,rfl,rfl⟩ | exact ⟨rfl,by omega⟩ | exact oneAll_of rfl | exact ⟨rfl,oneAll_of rfl⟩ | exact Ref.refl _ | exact Thin.ref (.skip (Thin.refl _)) | exact Thin.ref (.skip (.skip (Thin.refl _))) | exact ⟨rfl,Nat.le_of_ble_eq_true rfl⟩ | ((try unfold maxLen); (try simp only [List.length_nil,List.length_cons,List.length_append]); omega) | (refine ⟨rfl,?_⟩; (try simp only [List.length_nil,List.length_cons,List.length_append]); omega)) ?_ | intro _)); (all_goals (conv => whnf))
  rename_i b27 a1 d1 b37 a2 d2
  refine ⟨⟨_,Thin.ref (.skip (.skip (.keep rfl (fun _ h => h) (.keep rfl (fun _ h => h) (.keep rfl (fun _ h => h) (.box ?_ (.own (k' := 851) hn.symm ?_ (.own (k' := 852) hn.symm ?_ (.nil _))))))))),a1,a2,d1,d2,fp1',fp2',rfl,rfl⟩⟩
  · rw [hn]
  · exact ints_snoc
  · rw [hk]
    exact ints_snoc
def advQ (bp bt bs br : Nat) (S : Sto) (a a' : Option Addr) (n c c' m : Nat) (ids keys : List Int) (x : Int) (v : Value) (L1 : List Ent) : Prop :=
  ∃ f1 f2,v = .nilIface ∧ L1 = fP bp bt bs S f1 f2 ++ [.box 861 br [.slice a (m + 1) c,.slice a' (m + 1) c'] ty_signature_sequence,.own 851 a n c ty_api_ID 1 (ints .i64 (ids.set m x)),.own 852 a' n c' ty_uint64 1 (ints .u64 (keys.set m ((tm S.E x).key : Int)))]
theorem calls_addV (bp bt bs br : Nat) (S : Sto) (hw : WF S) (ids keys : List Int) (n : Nat) (hn : ids.length = n) (hk : keys.length = n) (hl : n ≤ 65536) (m : Nat) (hm : m < n) (x : Int) (hx : 1 ≤ x ∧ x ≤ S.E.length) (a a' : Option Addr) (c c' : Nat) (f1 f2 fp : List Nat) (w : World)
    (hR : R w fp (fP bp bt bs S f1 f2 ++ [.box 861 br [.slice a m c,.slice a' m c'] ty_signature_sequence,.own 851 a n c ty_api_ID 1 (ints .i64 ids),.own 852 a' n c' ty_uint64 1 (ints .u64 keys)]) w) (hG : TabF w fp) :
    Calls Tryz.prog fn_P_signature_Parser_add #[pS bp,.pointer (some ⟨br,0,none⟩),.int .i64 x] w fun e w' => ∃ v L1,e = .returned v ∧ R w fp L1 w' ∧ advQ bp bt bs br S a a' n c c' m ids keys x v L1 := by
  refine part_call [.ptr 3000 bp 0,.ptr 861 br 0,.v (.int .i64 x)] ok_P_signature_Parser_add (by simp) hR ?_
  have c1 := calls_Key bt bs S hw x
  rw [keyRes_ok hx] at c1
  (repeat' ((conv => whnf); first | (refine CallK_pack2 (key1 := 78) (key2 := 77) rfl rfl (fun w hR h0 => c1 _ _ _ _ _ h0 (hG.cast2 hR)) ?_; rintro _ _ ⟨rfl,fp1',fp2',rfl⟩; refine ⟨.v _,rfl,?_⟩) | refine ⟨.vie 851 a m c,⟨rfl,trivial⟩,?_⟩ | refine ⟨.vie 852 a' m c',⟨rfl,trivial⟩,?_⟩ | refine ⟨_,⟨rfl,trivial⟩,?_⟩ | (refine bcase_prop (fun h => ?_) (fun h => ?_) <;> try (exfalso; omega)) | (refine bcase_nprop (fun h => ?_) (fun h => ?_) <;> try (exfalso; omega)) | (refine bcase_intro (fun h => ?_) (fun h => ?_) <;> (try simp only [Bool.not_eq_true',Bool.not_eq_false',decide_eq_true_eq,decide_eq_false_iff_not,Bool.not_eq_true,Bool.not_eq_false,Decidable.not_not] at h)) | refine And.intro (by first | omega | exact rfl | assumption | exact ⟨rfl,rfl,rfl,rfl,rfl⟩ | exact ⟨rfl,rfl,rfl,rfl⟩ | exact ⟨rfl,by omega⟩ | exact oneAll_of rfl | exact ⟨rfl,oneAll_of rfl⟩ | exact Ref.refl _ | exact Thin.ref (.skip (Thin.refl _)) | exact Thin.ref (.skip (.skip (Thin.refl _))) | exact ⟨rfl,rfl,rfl,rfl,by omega,by omega⟩ | exact ⟨rfl,Nat.le_of_ble_eq_true rfl⟩ | ((try unfold maxLen); (try simp only [List.length_nil,List.length_cons,List.length_append]); omega) | (refine ⟨rfl,?_⟩; (try simp only [List.length_nil,List.length_cons,List.length_append]); omega)) ?_ | intro _)); (all_goals (conv => whnf))
  rename_i b27 b37
  refine ⟨⟨_,Thin.ref (.skip (.skip (.keep rfl (fun _ h => h) (.keep rfl (fun _ h => h) (.keep rfl (fun _ h => h) (.keep rfl (fun _ h => h) (.own (k' := 851) rfl ?_ (.own (k' := 852) rfl ?_ (.nil _))))))))),fp1',fp2',rfl,rfl⟩⟩
  · rw [Nat.mul_one,splice_ints (by omega)]
  · rw [Nat.mul_one,splice_ints (by omega)]
structure Row (S0 S : Sto) (ids : List Int) (ts : List Tm) : Prop where
  wf : WF S
  grow : Grow S0 S
  seq : Seq S ids
  tms : tms S ids = ts
  news : News S0 S ids
abbrev sqV (a a' : Option Addr) (n c c' : Nat) : Value := .agg #[.slice a n c,.slice a' n c']
def rowQ (bp bt bs : Nat) (S0 : Sto) (B : Nat) (ts : List Tm) (v : Value) (L1 : List Ent) : Prop :=
  ∃ S ids a a' c c' f1 f2,Row S0 S ids ts ∧ S.E.length + ids.length ≤ B ∧ v = .tuple #[sqV a a' ids.length c c',.nilIface] ∧ L1 = fP bp bt bs S f1 f2 ++ [.own 851 a ids.length c ty_api_ID 1 (ints .i64 ids),.own 852 a' ids.length c' ty_uint64 1 (ints .u64 (kys S ids))]
theorem bytC_at {t : List Nat} {i : Nat} (h : i < t.length) : (bytesV t)[i]? = some (.int .u8 (t.getD i 0 : Nat)) := by
  simp [bytesV,List.getD_eq_getElem?_getD,List.getElem?_eq_getElem h]
theorem take_nextD {α : Type} {d : α} {t : List α} {i : Nat} (h : i < t.length) : t.take (i + 1) = t.take i ++ [t.getD i d] := by
  rw [List.take_add_one,List.getElem?_eq_getElem h,List.getD_eq_getElem?_getD,List.getElem?_eq_getElem h]; rfl
structure LtG where
  i : Nat
  S : Sto
  ids : List Int
  a : Option Addr
  a' : Option Addr
  c : Nat
  c' : Nat
  f1 : List Nat
  f2 : List Nat
  b6 : Nat
abbrev ltL (bp bt bs b4 : Nat) (S : Sto) (ids : List Int) (a a' : Option Addr) (c c' : Nat) (f1 f2 : List Nat) (b6 : Nat) : List Ent := fP bp bt bs S f1 f2 ++ [.box 861 b6 [.slice a ids.length c,.slice a' ids.length c'] ty_signature_sequence,.own 851 a ids.length c ty_api_ID 1 (ints .i64 ids),.own 852 a' ids.length c' ty_uint64 1 (ints .u64 (kys S ids)),.box 4 b4 [.slice none 0 0,.slice none 0 0] ty_signature_sequence]
abbrev ltH (bp bt bs b4 : Nat) (x : LtG) : List Ent := ltL bp bt bs b4 x.S x.ids x.a x.a' x.c x.c' x.f1 x.f2 x.b6
structure LtI (S0 : Sto) (t : List Nat) (x : LtG) : Prop where
  le : x.i ≤ t.length
  row : Row S0 x.S x.ids ((t.take x.i).map .lt)
  len : x.ids.length = x.i
  most : x.S.E.length ≤ S0.E.length + x.i
theorem calls_letters (bp bt bs : Nat) (S0 : Sto) (hw : WF S0) (t : List Nat) (hb : ∀ x ∈ t,x < 256) (hl : t.length ≤ 65536) (hroom : S0.E.length + t.length ≤ S0.most) (at_ : Option Addr) (ct : Nat) (f1 f2 fp : List Nat) (w : World)
    (hR : R w fp (fP bp bt bs S0 f1 f2) w) (hG : TabF w fp) (hin : In w fp at_ (bytesV t)) :
    Calls Tryz.prog fn_P_signature_Parser_letters #[pS bp,.slice at_ t.length ct] w fun e w' => ∃ v L1,e = .returned v ∧ R w fp L1 w' ∧ rowQ bp bt bs S0 (S0.E.length + 2 * t.length) (t.map .lt) v L1 := by
  refine part_call [.ptr 3000 bp 0,.v (.slice at_ t.length ct)] ok_P_signature_Parser_letters (by simp) hR ?_
  have hI0 : ∀ a a' c c' b6,LtI S0 t ⟨0,S0,[],a,a',c,c',f1,f2,b6⟩ := fun a a' c c' b6 => ⟨Nat.zero_le _,⟨hw,Grow.refl _,fun x hx => by simp at hx,rfl,News.refl _ _⟩,rfl,Nat.le_refl _⟩
  (repeat' ((conv => whnf); first | (refine bcase_prop (fun h => ?_) (fun h => ?_) <;> try (exfalso; omega)) | (refine bcase_nprop (fun h => ?_) (fun h => ?_) <;> try (exfalso; omega)) | (refine bcase_intro (fun h => ?_) (fun h => ?_) <;> (try simp only [Bool.not_eq_true',Bool.not_eq_false',decide_eq_true_eq,decide_eq_false_iff_not,Bool.not_eq_true,Bool.not_eq_false,Decidable.not_not] at h)) | refine And.intro (by first | omega | exact rfl | assumption | exact ⟨rfl,rfl,rfl,rfl,rfl⟩ | exact ⟨rfl,rfl,rfl,rfl⟩ | exact ⟨rfl,by omega⟩ | exact oneAll_of rfl | exact ⟨rfl,oneAll_of rfl⟩ | exact Ref.refl _ | exact Thin.ref (.skip (Thin.refl _)) | exact Thin.ref (.skip (.skip (Thin.refl _))) | exact ⟨rfl,Nat.le_of_ble_eq_true rfl⟩ | ((try unfold maxLen); (try simp only [List.length_nil,List.length_cons,List.length_append]); omega) | (refine ⟨rfl,?_⟩; (try simp only [List.length_nil,List.length_cons,List.length_append]); omega)) ?_ | intro _)); (all_goals (conv => whnf))
  rename_i b4
  refine VC_cut LtG (fun x => [(0,.ptr 3000 bp 0),(1,.v (.slice at_ t.length ct)),(4,.ptr 4 b4 0),(6,.ptr 861 x.b6 0)]) (ltH bp bt bs b4) (fun x => LtI S0 t x ∧ x.i = 0) ?_ ?_
  · (repeat' ((conv => whnf); first | refine stop_and ?_ ?_ | (refine bcase_prop (fun h => ?_) (fun h => ?_) <;> try (exfalso; omega)) | (refine bcase_nprop (fun h => ?_) (fun h => ?_) <;> try (exfalso; omega)) | (refine bcase_intro (fun h => ?_) (fun h => ?_) <;> (try simp only [Bool.not_eq_true',Bool.not_eq_false',decide_eq_true_eq,decide_eq_false_iff_not,Bool.not_eq_true,Bool.not_eq_false,Decidable.not_not] at h)) | refine And.intro (by first | omega | exact rfl | assumption | exact ⟨rfl,rfl,rfl,rfl,rfl⟩ | exact ⟨rfl,rfl,rfl,rfl⟩ | exact ⟨rfl,by omega⟩ | exact oneAll_of rfl | exact ⟨rfl,oneAll_of rfl⟩ | exact Ref.refl _ | exact Thin.ref (.skip (Thin.refl _)) | exact Thin.ref (.skip (.skip (Thin.refl _))) | exact ⟨by omega,by omega,by omega,by unfold maxLen; omega⟩ | exact fun _ => Ref.refl _ | exact fun _ => Thin.ref (by (repeat (first | exact Thin.nil _ | exact Thin.refl _ | refine Thin.keep rfl (fun _ h => h) ?_ | refine Thin.skip ?_))) | exact Thin.ref (by (repeat (first | exact Thin.nil _ | exact Thin.refl _ | refine Thin.keep rfl (fun _ h => h) ?_ | refine Thin.skip ?_))) | exact ⟨rfl,Nat.le_of_ble_eq_true rfl⟩ | ((try unfold maxLen); (try simp only [List.length_nil,List.length_cons,List.length_append]); omega) | (refine ⟨rfl,?_⟩; (try simp only [List.length_nil,List.length_cons,List.length_append]); omega)) ?_ | intro _)); (all_goals (conv => whnf))
    all_goals
      rename_i p q r
      first
      | (refine cut_next ⟨0,S0,[],some ⟨p,0,none⟩,some ⟨q,0,none⟩,t.length,t.length,f1,f2,r⟩ ⟨hI0 _ _ _ _ _,rfl⟩ ?_ (Ref.takes [78,77,3000,6,14,17,4] rfl ?_); ((repeat ((conv => whnf); refine And.intro (by first | exact rfl | exact vint_eq (by omega) | exact vint_eq (by (dsimp only; omega)) | exact vsl_eq (by omega) | exact vsl_eq (by first | (dsimp only; omega) | (simp; done) | (simp; omega))) ?_)); exact trivial); (refine .keep rfl (fun _ h => h) ?_; refine .keep rfl (fun _ h => h) ?_; refine .keep rfl (fun _ h => h) ?_; refine .keep rfl (fun _ h => h) ?_; refine .keep rfl (fun _ h => h) ?_; refine .keep rfl (fun _ h => h) ?_; refine .keep rfl (fun _ h => h) ?_; exact .nil _))
      | (refine cut_next ⟨0,S0,[],some ⟨p,0,none⟩,some ⟨r,0,none⟩,t.length,t.length,f1,f2,q⟩ ⟨hI0 _ _ _ _ _,rfl⟩ ?_ (Ref.takes [78,77,3000,6,14,17,4] rfl ?_); ((repeat ((conv => whnf); refine And.intro (by first | exact rfl | exact vint_eq (by omega) | exact vint_eq (by (dsimp only; omega)) | exact vsl_eq (by omega) | exact vsl_eq (by first | (dsimp only; omega) | (simp; done) | (simp; omega))) ?_)); exact trivial); (refine .keep rfl (fun _ h => h) ?_; refine .keep rfl (fun _ h => h) ?_; refine .keep rfl (fun _ h => h) ?_; refine .keep rfl (fun _ h => h) ?_; refine .keep rfl (fun _ h => h) ?_; refine .keep rfl (fun _ h => h) ?_; refine .keep rfl (fun _ h => h) ?_; exact .nil _))
      | (refine cut_next ⟨0,S0,[],some ⟨q,0,none⟩,some ⟨p,0,none⟩,t.length,t.length,f1,f2,r⟩ ⟨hI0 _ _ _ _ _,rfl⟩ ?_ (Ref.takes [78,77,3000,6,14,17,4] rfl ?_); ((repeat ((conv => whnf); refine And.intro (by first | exact rfl | exact vint_eq (by omega) | exact vint_eq (by (dsimp only; omega)) | exact vsl_eq (by omega) | exact vsl_eq (by first | (dsimp only; omega) | (simp; done) | (simp; omega))) ?_)); exact trivial); (refine .keep rfl (fun _ h => h) ?_; refine .keep rfl (fun _ h => h) ?_; refine .keep rfl (fun _ h => h) ?_; refine .keep rfl (fun _ h => h) ?_; refine .keep rfl (fun _ h => h) ?_; refine .keep rfl (fun _ h => h) ?_; refine .keep rfl (fun _ h => h) ?_; exact .nil _))
      | (refine cut_next ⟨0,S0,[],some ⟨q,0,none⟩,some ⟨r,0,none⟩,t.length,t.length,f1,f2,p⟩ ⟨hI0 _ _ _ _ _,rfl⟩ ?_ (Ref.takes [78,77,3000,6,14,17,4] rfl ?_); ((repeat ((conv => whnf); refine And.intro (by first | exact rfl | exact vint_eq (by omega) | exact vint_eq (by (dsimp only; omega)) | exact vsl_eq (by omega) | exact vsl_eq (by first | (dsimp only; omega) | (simp; done) | (simp; omega))) ?_)); exact trivial); (refine .keep rfl (fun _ h => h) ?_; refine .keep rfl (fun _ h => h) ?_; refine .keep rfl (fun _ h => h) ?_; refine .keep rfl (fun _ h => h) ?_; refine .keep rfl (fun _ h => h) ?_; refine .keep rfl (fun _ h => h) ?_; refine .keep rfl (fun _ h => h) ?_; exact .nil _))
      | (refine cut_next ⟨0,S0,[],some ⟨r,0,none⟩,some ⟨p,0,none⟩,t.length,t.length,f1,f2,q⟩ ⟨hI0 _ _ _ _ _,rfl⟩ ?_ (Ref.takes [78,77,3000,6,14,17,4] rfl ?_); ((repeat ((conv => whnf); refine And.intro (by first | exact rfl | exact vint_eq (by omega) | exact vint_eq (by (dsimp only; omega)) | exact vsl_eq (by omega) | exact vsl_eq (by first | (dsimp only; omega) | (simp; done) | (simp; omega))) ?_)); exact trivial); (refine .keep rfl (fun _ h => h) ?_; refine .keep rfl (fun _ h => h) ?_; refine .keep rfl (fun _ h => h) ?_; refine .keep rfl (fun _ h => h) ?_; refine .keep rfl (fun _ h => h) ?_; refine .keep rfl (fun _ h => h) ?_; refine .keep rfl (fun _ h => h) ?_; exact .nil _))
      | (refine cut_next ⟨0,S0,[],some ⟨r,0,none⟩,some ⟨q,0,none⟩,t.length,t.length,f1,f2,p⟩ ⟨hI0 _ _ _ _ _,rfl⟩ ?_ (Ref.takes [78,77,3000,6,14,17,4] rfl ?_); ((repeat ((conv => whnf); refine And.intro (by first | exact rfl | exact vint_eq (by omega) | exact vint_eq (by (dsimp only; omega)) | exact vsl_eq (by omega) | exact vsl_eq (by first | (dsimp only; omega) | (simp; done) | (simp; omega))) ?_)); exact trivial); (refine .keep rfl (fun _ h => h) ?_; refine .keep rfl (fun _ h => h) ?_; refine .keep rfl (fun _ h => h) ?_; refine .keep rfl (fun _ h => h) ?_; refine .keep rfl (fun _ h => h) ?_; refine .keep rfl (fun _ h => h) ?_; refine .keep rfl (fun _ h => h) ?_; exact .nil _))
  · rintro ⟨i,S,ids,a,a',c,c',f1,f2,b6⟩ ⟨hI,hi0⟩
    dsimp only at hi0 ⊢
    subst hi0
    (repeat' ((conv => whnf); first | (refine bcase_prop (fun h => ?_) (fun h => ?_) <;> try (exfalso; omega)) | (refine bcase_nprop (fun h => ?_) (fun h => ?_) <;> try (exfalso; omega)) | (refine bcase_intro (fun h => ?_) (fun h => ?_) <;> (try simp only [Bool.not_eq_true',Bool.not_eq_false',decide_eq_true_eq,decide_eq_false_iff_not,Bool.not_eq_true,Bool.not_eq_false,Decidable.not_not] at h)) | refine And.intro (by first | omega | exact rfl | assumption | exact ⟨rfl,rfl,rfl,rfl,rfl⟩ | exact ⟨rfl,rfl,rfl,rfl⟩ | exact ⟨rfl,by omega⟩ | exact oneAll_of rfl | exact ⟨rfl,oneAll_of rfl⟩ | exact Ref.refl _ | exact Thin.ref (.skip (Thin.refl _)) | exact Thin.ref (.skip (.skip (Thin.refl _))) | exact ⟨rfl,Nat.le_of_ble_eq_true rfl⟩ | ((try unfold maxLen); (try simp only [List.length_nil,List.length_cons,List.length_append]); omega) | (refine ⟨rfl,?_⟩; (try simp only [List.length_nil,List.length_cons,List.length_append]); omega)) ?_ | intro _)); (all_goals (conv => whnf))
    refine VC_loop LtG (fun x => [(0,.ptr 3000 bp 0),(4,.ptr 4 b4 0),(6,.ptr 861 x.b6 0),(19,.v (.slice at_ t.length ct)),(20,.v (.int .i64 t.length)),(21,.v (.int .i64 x.i))]) (ltH bp bt bs b4) (LtI S0 t) (fun x => t.length - x.i) ⟨0,S,ids,a,a',c,c',f1,f2,b6⟩ hI (by (repeat ((conv => whnf); refine And.intro (by first | exact rfl | exact vint_eq (by omega) | exact vint_eq (by (dsimp only; omega)) | exact vsl_eq (by omega) | exact vsl_eq (by first | (dsimp only; omega) | (simp; done) | (simp; omega))) ?_)); exact trivial) (Thin.ref (Thin.refl _)) ?_
    rintro ⟨i,S,ids,a,a',c,c',f1,f2,b6⟩ ⟨h1,h2,h3,h4⟩
    dsimp only [ltH] at h1 h2 h3 h4 ⊢
    by_cases hlt : i < t.length
    · have hne : at_ ≠ none := hin.ne' (k := i) (by simp [bytesV]; omega)
      have rd := fun {L : List Ent} => hin.rd (L := L) (bytC_at hlt)
      have hx : t.getD i 0 < 256 := hb _ (by rw [List.getD_eq_getElem?_getD,List.getElem?_eq_getElem hlt]; exact List.getElem_mem hlt)
      have htk := take_nextD (d := 0) hlt
      have hm := h2.grow.most
      obtain ⟨S',x,e,hM⟩ := letOk h2.wf hx (by omega)
      have c1 := calls_Letter bs S (t.getD i 0) hx h2.wf.small
      rw [e] at c1
      have hg := hM.grow
      have hs := h2.wf.small
      generalize t.getD i 0 = l at *
      have hky : ints .u64 (kys S ids) = ints .u64 (kys S' ids) := by rw [kys_grow h2.seq hg]
      have hln : (ids ++ [x]).length = i + 1 := by simp [h3]
      (repeat' ((conv => whnf); first | (refine CallK_pack (key := 77) rfl (fun w hR h0 => c1 _ _ _ h0) ?_; rintro _ _ ⟨rfl,fp',rfl⟩; refine ⟨.v _,rfl,?_⟩) | rw [Int.toNat_natCast] | rw [Nat.mul_one] | refine ⟨_,rd,?_⟩ | refine ⟨_,⟨rfl,trivial⟩,?_⟩  | (refine bcase_prop (fun h => ?_) (fun h => ?_) <;> try (exfalso; omega)) | (refine bcase_nprop (fun h => ?_) (fun h => ?_) <;> try (exfalso; omega)) | (refine bcase_intro (fun h => ?_) (fun h => ?_) <;> (try simp only [Bool.not_eq_true',Bool.not_eq_false',decide_eq_true_eq,decide_eq_false_iff_not,Bool.not_eq_true,Bool.not_eq_false,Decidable.not_not] at h)) | refine And.intro (by first | omega | exact rfl | assumption | exact ⟨rfl,rfl,rfl,rfl,rfl⟩ | exact ⟨rfl,rfl,rfl,rfl⟩ | exact ⟨rfl,by omega⟩ | exact oneAll_of rfl | exact ⟨rfl,oneAll_of rfl⟩ | exact Ref.refl _ | exact Thin.ref (.skip (Thin.refl _)) | exact Thin.ref (.skip (.skip (Thin.refl _))) | exact hne | exact ⟨rfl,Nat.le_of_ble_eq_true rfl⟩ | ((try unfold maxLen); (try simp only [List.length_nil,List.length_cons,List.length_append]); omega) | (refine ⟨rfl,?_⟩; (try simp only [List.length_nil,List.length_cons,List.length_append]); omega)) ?_ | intro _)); (all_goals (conv => whnf))
      refine CallK_ref (L' := ltL bp bt bs b4 S' ids a a' c c' f1 fp' b6) (Ref.takes [78,77,3000,861,851,852,4] rfl (packT_grow hg (.keep rfl (fun _ h => h) (.keep rfl (fun _ h => h) (.keep rfl (fun _ h => h) (.keep rfl (fun _ h => h) (.own rfl hky (Thin.refl _)))))))) ?_
      refine CallK_sub [78,77,3000,861,851,852] rfl (fun w hR h0 => calls_addO bp bt bs b6 S' hM.wf ids (by omega) x ⟨hM.pos,hM.le⟩ a a' c c' _ _ _ w h0 (hG.castL hR)) ?_
      rintro _ _ ⟨a1,a2,d1,d2,g1,g2,rfl,rfl⟩
      refine ⟨.v _,rfl,?_⟩
      (repeat' ((conv => whnf); first | refine ⟨_,⟨rfl,trivial⟩,?_⟩  | (refine bcase_prop (fun h => ?_) (fun h => ?_) <;> try (exfalso; omega)) | (refine bcase_nprop (fun h => ?_) (fun h => ?_) <;> try (exfalso; omega)) | (refine bcase_intro (fun h => ?_) (fun h => ?_) <;> (try simp only [Bool.not_eq_true',Bool.not_eq_false',decide_eq_true_eq,decide_eq_false_iff_not,Bool.not_eq_true,Bool.not_eq_false,Decidable.not_not] at h)) | refine And.intro (by first | omega | exact rfl | assumption | exact ⟨rfl,rfl,rfl,rfl,rfl⟩ | exact ⟨rfl,rfl,rfl,rfl⟩ | exact ⟨rfl,by omega⟩ | exact oneAll_of rfl | exact ⟨rfl,oneAll_of rfl⟩ | exact Ref.refl _ | exact Thin.ref (.skip (Thin.refl _)) | exact Thin.ref (.skip (.skip (Thin.refl _))) | exact ⟨rfl,Nat.le_of_ble_eq_true rfl⟩ | ((try unfold maxLen); (try simp only [List.length_nil,List.length_cons,List.length_append]); omega) | (refine ⟨rfl,?_⟩; (try simp only [List.length_nil,List.length_cons,List.length_append]); omega)) ?_ | intro _)); (all_goals (conv => whnf))
      refine loop_next ⟨i + 1,S',ids ++ [x],a1,a2,d1,d2,g1,g2,b6⟩ ⟨hlt,⟨hM.wf,h2.grow.trans hg,(h2.seq.grow hg).snoc ⟨hM.pos,hM.le⟩,?_,h2.news.made hM⟩,hln,?_⟩ ?_ (by (repeat ((conv => whnf); refine And.intro (by first | exact rfl | exact vint_eq (by omega) | exact vint_eq (by (dsimp only; omega)) | exact vsl_eq (by omega) | exact vsl_eq (by first | (dsimp only; omega) | (simp; done) | (simp; omega))) ?_)); exact trivial) (Thin.ref (Thin.refl _))
      · rw [tms_append,tms_grow h2.seq hg,h2.tms,htk,List.map_append]
        simp [tms,hM.tm]
      · have := hM.len
        dsimp only; omega
      · dsimp only; omega
    · have hil : i = t.length := by omega
      subst hil
      (repeat' ((conv => whnf); first | refine ⟨_,⟨rfl,trivial⟩,?_⟩ | (refine bcase_prop (fun h => ?_) (fun h => ?_) <;> try (exfalso; omega)) | (refine bcase_nprop (fun h => ?_) (fun h => ?_) <;> try (exfalso; omega)) | (refine bcase_intro (fun h => ?_) (fun h => ?_) <;> (try simp only [Bool.not_eq_true',Bool.not_eq_false',decide_eq_true_eq,decide_eq_false_iff_not,Bool.not_eq_true,Bool.not_eq_false,Decidable.not_not] at h)) | refine And.intro (by first | omega | exact rfl | assumption | exact ⟨rfl,rfl,rfl,rfl,rfl⟩ | exact ⟨rfl,rfl,rfl,rfl⟩ | exact ⟨rfl,by omega⟩ | exact oneAll_of rfl | exact ⟨rfl,oneAll_of rfl⟩ | exact Ref.refl _ | exact Thin.ref (.skip (Thin.refl _)) | exact Thin.ref (.skip (.skip (Thin.refl _))) | exact ⟨rfl,Nat.le_of_ble_eq_true rfl⟩ | ((try unfold maxLen); (try simp only [List.length_nil,List.length_cons,List.length_append]); omega) | (refine ⟨rfl,?_⟩; (try simp only [List.length_nil,List.length_cons,List.length_append]); omega)) ?_ | intro _)); (all_goals (conv => whnf))
      rw [List.take_length] at h2
      refine ⟨⟨_,Ref.takes [78,77,3000,851,852] rfl (Thin.refl _),S,ids,a,a',c,c',f1,f2,h2,by omega,rfl,rfl⟩⟩
theorem calls_Runs (w : World) (a : Option Addr) (c : Nat) (xs : List Int) (hx : In w [] a (ints .i64 xs)) (hl : xs.length ≤ 1000) :
    Calls Tryz.prog fn_levels_Runs #[.slice a xs.length c] w (RetS ty_api_Group 2 (runs xs).length (prs .i64 (runs xs)) w) :=
  slice_call [.v (.slice a xs.length c)] w ok_levels_Runs (by simp) (vc_Runs w a c xs hx hl)
theorem calls_Pairs (w : World) (a : Option Addr) (c : Nat) (xs : List Int) (l : Int) (hx : In w [] a (ints .u64 xs)) (hl : xs.length ≤ 1000) (hu : U64s xs) (hl1 : l ≤ 9223372036854775807) :
    Calls Tryz.prog fn_levels_Pairs #[.slice a xs.length c,.int .i64 l] w (RetS ty_int 1 (pairsF xs l).length (ints .i64 (pairsF xs l)) w) :=
  slice_call [.v (.slice a xs.length c),.v (.int .i64 l)] w ok_levels_Pairs (by simp) (vc_Pairs w a c xs l hx hl hu hl1)
structure RnG where
  i : Nat
  S : Sto
  out : List Int
  f1 : List Nat
  f2 : List Nat
structure RnI (S : Sto) (ids : List Int) (B : Nat) (x : RnG) : Prop where
  le : x.i ≤ (runs ids).length
  row : Row S x.S x.out (((runsT (tms S ids)).take x.i).map powT)
  len : x.out.length = x.i
  most : x.S.E.length + x.i + (ids.length - atR ids x.i) ≤ B
abbrev rnL (bp bt bs b3 b4 b6 : Nat) (S0 : Sto) (ids : List Int) (a a' : Option Addr) (c c' : Nat) (ar : Option Addr) (cr : Nat) (i : Nat) (S : Sto) (out : List Int) (f1 f2 : List Nat) : List Ent := fP bp bt bs S f1 f2 ++ [.box 861 b6 [.slice a i c,.slice a' i c'] ty_signature_sequence,.own 851 a ids.length c ty_api_ID 1 (ints .i64 (out ++ ids.drop i)),.own 852 a' ids.length c' ty_uint64 1 (ints .u64 (kys S out ++ (kys S0 ids).drop i)),.box 3 b3 [.slice a ids.length c,.slice a' ids.length c'] ty_signature_sequence,.box 4 b4 [.slice none 0 0,.slice none 0 0] ty_signature_sequence,.own 900 ar (runs ids).length cr ty_api_Group 2 (prs .i64 (runs ids))]
theorem calls_runs (bp bt bs : Nat) (S : Sto) (hw : WF S) (ids : List Int) (hs : Seq S ids) (hpos : 0 < ids.length) (hl : ids.length ≤ 1000) (htx : (txtOf (tms S ids)).length ≤ 65536) (B : Nat) (hB : S.E.length + ids.length ≤ B) (hBm : B ≤ S.most) (a a' : Option Addr) (c c' : Nat) (f1 f2 fp : List Nat) (w : World)
    (hR : R w fp (fP bp bt bs S f1 f2 ++ [.own 851 a ids.length c ty_api_ID 1 (ints .i64 ids),.own 852 a' ids.length c' ty_uint64 1 (ints .u64 (kys S ids))]) w) (hG : TabF w fp) :
    Calls Tryz.prog fn_P_signature_Parser_runs #[pS bp,sqV a a' ids.length c c'] w fun e w' => ∃ v L1,e = .returned v ∧ R w fp L1 w' ∧ rowQ bp bt bs S B (runT (tms S ids)) v L1 := by
  have hc1 := own_capL (key := 851) hR rfl
  have hc2 := own_capL (key := 852) hR rfl
  refine part_call [.ptr 3000 bp 0,.v (sqV a a' ids.length c c')] ok_P_signature_Parser_runs (by simp) hR ?_
  have cR := fun w h => calls_Runs w a c ids h hl
  have hof := offA_zero a c 1
  have hof' := offA_zero a' c' 1
  have hne := own_ne (key := 851) hR rfl hpos
  have hne' := own_ne (key := 852) hR rfl hpos
  (repeat' ((conv => whnf); first | refine stop_and ?_ ?_ | refine ⟨.sl 851 _ _ _,⟨rfl,rfl,rfl,rfl⟩,?_⟩ | refine ⟨.sl 852 _ _ _,⟨rfl,rfl,rfl,rfl⟩,?_⟩ | refine ⟨_,⟨rfl,trivial⟩,?_⟩ | refine CallK_slice 900 (fun w' hR => cR w' (In.ownR (key := 851) hR rfl)) ?_ | (refine bcase_prop (fun h => ?_) (fun h => ?_) <;> try (exfalso; omega)) | (refine bcase_nprop (fun h => ?_) (fun h => ?_) <;> try (exfalso; omega)) | (refine bcase_intro (fun h => ?_) (fun h => ?_) <;> (try simp only [Bool.not_eq_true',Bool.not_eq_false',decide_eq_true_eq,decide_eq_false_iff_not,Bool.not_eq_true,Bool.not_eq_false,Decidable.not_not] at h)) | refine And.intro (by first | omega | exact rfl | assumption | exact ⟨rfl,rfl,rfl,rfl,rfl⟩ | exact ⟨rfl,rfl,rfl,rfl⟩ | exact ⟨rfl,by omega⟩ | exact oneAll_of rfl | exact ⟨rfl,oneAll_of rfl⟩ | exact Ref.refl _ | exact Thin.ref (.skip (Thin.refl _)) | exact Thin.ref (.skip (.skip (Thin.refl _))) | exact fun _ => Ref.refl _ | exact fun _ => Thin.ref (by (repeat (first | exact Thin.nil _ | exact Thin.refl _ | refine Thin.keep rfl (fun _ h => h) ?_ | refine Thin.skip ?_))) | exact Thin.ref (by (repeat (first | exact Thin.nil _ | exact Thin.refl _ | refine Thin.keep rfl (fun _ h => h) ?_ | refine Thin.skip ?_))) | exact ⟨rfl,Nat.le_of_ble_eq_true rfl⟩ | ((try unfold maxLen); (try simp only [List.length_nil,List.length_cons,List.length_append]); omega) | (refine ⟨rfl,?_⟩; (try simp only [List.length_nil,List.length_cons,List.length_append]); omega)) ?_ | intro _)); (all_goals (conv => whnf))
  rename_i b3 b4 b6 ar cr
  refine VC_loop RnG (fun x => [(0,.ptr 3000 bp 0),(3,.ptr 3 b3 0),(4,.ptr 4 b4 0),(6,.ptr 861 b6 0),(7,.v (.int .i64 (atR ids x.i))),(22,.sl 900 ar (runs ids).length cr),(23,.v (.int .i64 (runs ids).length)),(24,.v (.int .i64 x.i))])
    (fun x => rnL bp bt bs b3 b4 b6 S ids a a' c c' ar cr x.i x.S x.out x.f1 x.f2) (RnI S ids B) (fun x => (runs ids).length - x.i) ⟨0,S,[],f1,f2⟩ ⟨Nat.zero_le _,⟨hw,Grow.refl _,fun x hx => by simp at hx,rfl,News.refl _ _⟩,rfl,by rw [atR_zero]; dsimp only; omega⟩ (by rw [atR_zero]; (repeat ((conv => whnf); refine And.intro (by first | exact rfl | exact vint_eq (by omega) | exact vint_eq (by (dsimp only; omega)) | exact vsl_eq (by omega) | exact vsl_eq (by first | (dsimp only; omega) | (simp; done) | (simp; omega))) ?_)); exact trivial) (Ref.takes [78,77,3000,6,851,852,3,4,900] rfl ?_) ?_
  · refine .keep rfl (fun _ h => h) (.keep rfl (fun _ h => h) (.keep rfl (fun _ h => h) (.box ?_ (Thin.refl _))))
    show [Value.slice (offA a c 0 1) _ _,Value.slice (offA a' c' 0 1) _ _] = _
    rw [hof,hof']; rfl
  rintro ⟨i,S1,out,g1,g2⟩ ⟨h1,h2,h3,h4⟩
  dsimp only at h1 h2 h3 h4 ⊢
  have hgm := h2.grow.most
  by_cases hlt : i < (runs ids).length
  · obtain ⟨q1,q2,q3,q4⟩ := atR_next hlt
    have q5 := atR_ge (xs := ids) (i := i) h1
    have hrt := runs_tms hw hs
    have htk : ((runsT (tms S ids)).take (i + 1)).map powT = ((runsT (tms S ids)).take i).map powT ++ [powT (tm S.E ((runs ids).getD i (0,0)).1,((runs ids).getD i (0,0)).2.toNat)] := by
      rw [hrt,← List.map_take,← List.map_take,take_nextD (d := (0,0)) hlt,List.map_append,List.map_append]; rfl
    have hmem : (tm S.E ((runs ids).getD i (0,0)).1,((runs ids).getD i (0,0)).2.toNat) ∈ runsT (tms S ids) := by
      rw [hrt]
      refine List.mem_map.2 ⟨(runs ids).getD i (0,0),?_,rfl⟩
      rw [List.getD_eq_getElem?_getD,List.getElem?_eq_getElem hlt]
      exact List.getElem_mem hlt
    have hlr := len_run hmem
    have e1 := intOf_prs1 (k := .i64) hlt
    have e2 := intOf_prs2 (k := .i64) hlt
    have hat : atR ids i < ids.length := by omega
    have hid := hs.get hat
    rw [q4] at hid
    have hkey := kys_get S hat
    rw [q4] at hkey
    have hKl : (kys S1 out).length = i := by rw [kys_len,h3]
    have r1 : (ints .u64 (kys S1 out ++ (kys S ids).drop i))[atR ids i]? = some (.int .u64 ((tm S.E ((runs ids).getD i (0,0)).1).key : Int)) := by
      rw [ints_getD (by rw [len_mid hKl (by rw [kys_len]; omega),kys_len]; exact hat),get_mid hKl q5 (by rw [kys_len]; exact hat),hkey]
    have s1 := fun (v : Int) => splice_ints (k := .i64) (xs := out ++ ids.drop i) (j := i) (z := v) (by rw [len_mid h3 (by omega)]; omega)
    have s2 := fun (v : Int) => splice_ints (k := .u64) (xs := kys S1 out ++ (kys S ids).drop i) (j := i) (z := v) (by rw [len_mid hKl (by rw [kys_len]; omega),kys_len]; omega)
    have hidS1 := (hs.grow h2.grow).get hat
    rw [q4] at hidS1
    have htm1 : tm S1.E ((runs ids).getD i (0,0)).1 = tm S.E ((runs ids).getD i (0,0)).1 := h2.grow.tm hid.2
    generalize hgg : (runs ids).getD i (0,0) = g at *
    by_cases hg1 : g.2 = 1
    · have hpw : powT (tm S.E g.1,g.2.toNat) = tm S.E g.1 := by rw [hg1]; rfl
      rw [hpw] at htk
      (repeat' ((conv => whnf); first | rw [Int.toNat_natCast] | rw [Nat.mul_one] | rw [e1] | rw [e2] | refine ldCell r1 ?_ | refine ⟨.sl 851 _ _ _,⟨rfl,rfl,rfl,rfl⟩,?_⟩ | refine ⟨.sl 852 _ _ _,⟨rfl,rfl,rfl,rfl⟩,?_⟩ | refine ⟨.vie 851 a i c,⟨rfl,trivial⟩,?_⟩ | refine ⟨.vie 852 a' i c',⟨rfl,trivial⟩,?_⟩ | refine ⟨_,⟨rfl,trivial⟩,?_⟩ | (refine bcase_prop (fun h => ?_) (fun h => ?_) <;> try (exfalso; omega)) | (refine bcase_nprop (fun h => ?_) (fun h => ?_) <;> try (exfalso; omega)) | (refine bcase_intro (fun h => ?_) (fun h => ?_) <;> (try simp only [Bool.not_eq_true',Bool.not_eq_false',decide_eq_true_eq,decide_eq_false_iff_not,Bool.not_eq_true,Bool.not_eq_false,Decidable.not_not] at h)) | refine And.intro (by first | omega | exact rfl | assumption | exact ⟨rfl,rfl,rfl,rfl,rfl⟩ | exact ⟨rfl,rfl,rfl,rfl⟩ | exact ⟨rfl,by omega⟩ | exact oneAll_of rfl | exact ⟨rfl,oneAll_of rfl⟩ | exact Ref.refl _ | exact Thin.ref (.skip (Thin.refl _)) | exact Thin.ref (.skip (.skip (Thin.refl _))) | exact hne | exact hne' | exact ⟨isK_prs1 (by omega),isK_prs2 (by omega),trivial⟩ | (simp only [Int.toNat_natCast]; exact ⟨isK_prs1 (by omega),isK_prs2 (by omega),trivial⟩) | exact ⟨rfl,rfl,rfl,rfl,by omega,by omega⟩ | exact ⟨rfl,Nat.le_of_ble_eq_true rfl⟩ | ((try unfold maxLen); (try simp only [List.length_nil,List.length_cons,List.length_append]); omega) | (refine ⟨rfl,?_⟩; (try simp only [List.length_nil,List.length_cons,List.length_append]); omega)) ?_ | intro _)); (all_goals (conv => whnf))
      all_goals first | (exfalso; omega) | skip
      have hky : kys S1 (out ++ [g.1]) = kys S1 out ++ [((tm S.E g.1).key : Int)] := by rw [kys_append]; simp [kys,htm1]
      refine loop_next ⟨i + 1,S1,out ++ [g.1],g1,g2⟩ ⟨hlt,⟨h2.wf,h2.grow,h2.seq.snoc hidS1,?_,h2.news.more _⟩,by simp [h3],?_⟩ ?_ ?_ (Thin.ref (.skip (.skip (.skip (.keep rfl (fun _ h => h) (.keep rfl (fun _ h => h) (.keep rfl (fun _ h => h) (.keep rfl (fun _ h => h) (.own rfl ?_ (.own rfl ?_ (Thin.refl _)))))))))))
      · rw [tms_append,h2.tms,htk]; simp [tms,htm1]
      · dsimp only; omega
      · dsimp only; omega
      · dsimp only
        rw [q1]
        (repeat ((conv => whnf); refine And.intro (by first | exact rfl | exact vint_eq (by omega) | exact vint_eq (by (dsimp only; omega)) | exact vsl_eq (by omega) | exact vsl_eq (by first | (dsimp only; omega) | (simp; done) | (simp; omega))) ?_)); exact trivial
      · rw [s1,set_mid h3 (by omega)]
      · rw [s2,set_mid hKl (by rw [kys_len]; omega),hky]
    · have hpw : powT (tm S.E g.1,g.2.toNat) = .pw (tm S.E g.1) g.2.toNat := if_neg (by dsimp only; omega)
      rw [hpw] at htk
      obtain ⟨S2,x,e,hM⟩ := powOk h2.wf hidS1.1 hidS1.2 (k := g.2) (by omega) (by rw [htm1]; dsimp only at hlr; have : LM = 1152921504606846976 := rfl; omega) (by omega)
      have c1 := calls_Power bs S1 h2.wf g.1 g.2 (by omega)
      rw [e] at c1
      have hg := hM.grow
      have c2 := calls_Key bt bs S2 hM.wf x
      rw [keyRes_ok ⟨hM.pos,hM.le⟩] at c2
      (repeat' ((conv => whnf); first | (refine CallK_pack (key := 77) rfl (fun w hR h0 => c1 _ _ _ h0) ?_; rintro _ _ ⟨rfl,fp',rfl⟩; refine ⟨.v _,rfl,?_⟩) | (refine CallK_growT rfl hg ?_; (refine CallK_pack2 (key1 := 78) (key2 := 77) rfl rfl (fun w hR h0 => c2 _ _ _ _ _ h0 (hG.cast2 hR)) ?_; rintro _ _ ⟨rfl,fp1',fp2',rfl⟩; refine ⟨.v _,rfl,?_⟩)) | rw [Int.toNat_natCast] | rw [Nat.mul_one] | rw [e1] | rw [e2] | refine ldCell r1 ?_ | refine ⟨.sl 851 _ _ _,⟨rfl,rfl,rfl,rfl⟩,?_⟩ | refine ⟨.sl 852 _ _ _,⟨rfl,rfl,rfl,rfl⟩,?_⟩ | refine ⟨.vie 851 a i c,⟨rfl,trivial⟩,?_⟩ | refine ⟨.vie 852 a' i c',⟨rfl,trivial⟩,?_⟩ | refine ⟨_,⟨rfl,trivial⟩,?_⟩ | refine stop_and ?_ ?_ | (refine bcase_prop (fun h => ?_) (fun h => ?_) <;> try (exfalso; omega)) | (refine bcase_nprop (fun h => ?_) (fun h => ?_) <;> try (exfalso; omega)) | (refine bcase_intro (fun h => ?_) (fun h => ?_) <;> (try simp only [Bool.not_eq_true',Bool.not_eq_false',decide_eq_true_eq,decide_eq_false_iff_not,Bool.not_eq_true,Bool.not_eq_false,Decidable.not_not] at h)) | refine And.intro (by first | omega | exact rfl | assumption | exact ⟨rfl,rfl,rfl,rfl,rfl⟩ | exact ⟨rfl,rfl,rfl,rfl⟩ | exact ⟨rfl,by omega⟩ | exact oneAll_of rfl | exact ⟨rfl,oneAll_of rfl⟩ | exact Ref.refl _ | exact Thin.ref (.skip (Thin.refl _)) | exact Thin.ref (.skip (.skip (Thin.refl _))) | exact hne | exact hne' | exact ⟨isK_prs1 (by omega),isK_prs2 (by omega),trivial⟩ | (simp only [Int.toNat_natCast]; exact ⟨isK_prs1 (by omega),isK_prs2 (by omega),trivial⟩) | exact ⟨rfl,rfl,rfl,rfl,by omega,by omega⟩ | exact fun _ => Ref.refl _ | exact fun _ => Thin.ref (by (repeat (first | exact Thin.nil _ | exact Thin.refl _ | refine Thin.keep rfl (fun _ h => h) ?_ | refine Thin.skip ?_))) | exact Thin.ref (by (repeat (first | exact Thin.nil _ | exact Thin.refl _ | refine Thin.keep rfl (fun _ h => h) ?_ | refine Thin.skip ?_))) | exact ⟨rfl,Nat.le_of_ble_eq_true rfl⟩ | ((try unfold maxLen); (try simp only [List.length_nil,List.length_cons,List.length_append]); omega) | (refine ⟨rfl,?_⟩; (try simp only [List.length_nil,List.length_cons,List.length_append]); omega)) ?_ | intro _)); (all_goals (conv => whnf))
      all_goals first | (exfalso; omega) | skip
      have hky : kys S2 (out ++ [x]) = kys S1 out ++ [((tm S2.E x).key : Int)] := by rw [kys_append,kys_grow h2.seq hg]; simp [kys]
      have hM2 := hM.len
      refine loop_next ⟨i + 1,S2,out ++ [x],_,_⟩ ⟨hlt,⟨hM.wf,h2.grow.trans hg,(h2.seq.grow hg).snoc ⟨hM.pos,hM.le⟩,?_,h2.news.made hM⟩,by simp [h3],?_⟩ ?_ ?_ (Ref.takes [78,77,3000,861,851,852,3,4,900] rfl (.keep rfl (fun _ h => h) (.keep rfl (fun _ h => h) (.keep rfl (fun _ h => h) (.keep rfl (fun _ h => h) (.own rfl ?_ (.own rfl ?_ (Thin.refl _))))))))
      · rw [tms_append,tms_grow h2.seq hg,h2.tms,htk]; simp [tms,hM.tm,htm1]
      · dsimp only; omega
      · dsimp only; omega
      · dsimp only
        rw [q1]
        (repeat ((conv => whnf); refine And.intro (by first | exact rfl | exact vint_eq (by omega) | exact vint_eq (by (dsimp only; omega)) | exact vsl_eq (by omega) | exact vsl_eq (by first | (dsimp only; omega) | (simp; done) | (simp; omega))) ?_)); exact trivial
      · rw [s1,set_mid h3 (by omega)]
      · rw [s2,set_mid hKl (by rw [kys_len]; omega),hky]
  · have hin : i = (runs ids).length := by omega
    have hnl : (runs ids).length ≤ ids.length := runs_length ids
    (repeat' ((conv => whnf); first | refine ⟨_,⟨rfl,trivial⟩,?_⟩ | (refine bcase_prop (fun h => ?_) (fun h => ?_) <;> try (exfalso; omega)) | (refine bcase_nprop (fun h => ?_) (fun h => ?_) <;> try (exfalso; omega)) | (refine bcase_intro (fun h => ?_) (fun h => ?_) <;> (try simp only [Bool.not_eq_true',Bool.not_eq_false',decide_eq_true_eq,decide_eq_false_iff_not,Bool.not_eq_true,Bool.not_eq_false,Decidable.not_not] at h)) | refine And.intro (by first | omega | exact rfl | assumption | exact ⟨rfl,rfl,rfl,rfl,rfl⟩ | exact ⟨rfl,rfl,rfl,rfl⟩ | exact ⟨rfl,by omega⟩ | exact oneAll_of rfl | exact ⟨rfl,oneAll_of rfl⟩ | exact Ref.refl _ | exact Thin.ref (.skip (Thin.refl _)) | exact Thin.ref (.skip (.skip (Thin.refl _))) | exact ⟨rfl,Nat.le_of_ble_eq_true rfl⟩ | ((try unfold maxLen); (try simp only [List.length_nil,List.length_cons,List.length_append]); omega) | (refine ⟨rfl,?_⟩; (try simp only [List.length_nil,List.length_cons,List.length_append]); omega)) ?_ | intro _)); (all_goals (conv => whnf))
    all_goals first | (exfalso; omega) | skip
    have hrt := runs_tms hw hs
    have hall : ((runsT (tms S ids)).take i).map powT = runT (tms S ids) := by
      unfold runT
      rw [hin,List.take_of_length_le (by rw [hrt,List.length_map]; omega)]
    rw [hall] at h2
    refine ⟨⟨_,Ref.takes [78,77,3000,851,852] rfl (.keep rfl (fun _ h => h) (.keep rfl (fun _ h => h) (.keep rfl (fun _ h => h) (.cut (m := out.length) (by omega) ?_ (.cut (m := out.length) (by omega) ?_ (.nil _)))))),S1,out,a,a',c,c',g1,g2,h2,by omega,by rw [h3]; rfl,rfl⟩⟩
    · rw [Nat.mul_one,ints,← List.map_take,List.take_left]; rfl
    · rw [Nat.mul_one,ints,← List.map_take,show out.length = (kys S1 out).length from (kys_len _ _).symm,List.take_left]; rfl
end Go.Proofs.YtkkhpdkfploodaaGreatDoor
/- A pair level of the parser: the program. -/
namespace Go.Proofs.YtkkhpdkfploodaaGreatDoor
open Go.EG
attribute [local irreducible] CallK QCall Go.Calls
set_option linter.unusedSimpArgs false
set_option linter.unusedVariables false
set_option maxRecDepth 20000
set_option maxHeartbeats 4000000
theorem u64s_kys (S : Sto) (ids : List Int) : U64s (kys S ids) := fun i => by
  by_cases h : i < ids.length
  · rw [kys_get S h]
    have := (tm S.E (ids.getD i 0)).key_lt'
    omega
  · rw [List.getD_eq_getElem?_getD,List.getElem?_eq_none (by rw [kys_len]; omega)]
    simp
structure PrG where
  i : Nat
  at_ : Nat
  S : Sto
  out : List Int
  f1 : List Nat
  f2 : List Nat
structure PrI (S : Sto) (ids : List Int) (l B : Nat) (x : PrG) : Prop where
  le : x.i ≤ (pairsF (kys S ids) l).length
  wf : WF x.S
  grow : Grow S x.S
  seq : Seq x.S x.out
  news : News S x.S x.out
  gap : Gap (x.at_ : Nat) ((pairsF (kys S ids) l).drop x.i)
  tms : tms x.S x.out ++ asm (tms S ids) x.at_ ((pairsF (kys S ids) l).drop x.i) = pairT (tms S ids) l
  len : x.out.length ≤ x.at_ ∧ x.at_ ≤ ids.length
  most : x.S.E.length + x.out.length + (ids.length - x.at_) ≤ B
abbrev prL (bp bt bs b4 b6 b8 : Nat) (S0 : Sto) (ids : List Int) (a a' : Option Addr) (c c' : Nat) (ar : Option Addr) (cr : Nat) (ps : List Int) (S : Sto) (m : Nat) (out : List Int) (ko : List Int) (f1 f2 : List Nat) : List Ent := fP bp bt bs S f1 f2 ++ [.box 861 b8 [.slice a m c,.slice a' m c'] ty_signature_sequence,.own 851 a ids.length c ty_api_ID 1 (ints .i64 (out ++ ids.drop m)),.own 852 a' ids.length c' ty_uint64 1 (ints .u64 (ko ++ (kys S0 ids).drop m)),.box 4 b4 [.slice a ids.length c,.slice a' ids.length c'] ty_signature_sequence,.box 6 b6 [.slice none 0 0,.slice none 0 0] ty_signature_sequence,.own 900 ar ps.length cr ty_int 1 (ints .i64 ps)]
theorem calls_pairs (bp bt bs : Nat) (S : Sto) (hw : WF S) (ids : List Int) (hs : Seq S ids) (hpos : 0 < ids.length) (hl : ids.length ≤ 1000) (htx : (txtOf (tms S ids)).length ≤ 65536) (l : Nat) (hlv : l ≤ 9223372036854775807) (B : Nat) (hB : S.E.length + ids.length ≤ B) (hBm : B ≤ S.most) (a a' : Option Addr) (c c' : Nat) (f1 f2 fp : List Nat) (w : World)
    (hR : R w fp (fP bp bt bs S f1 f2 ++ [.own 851 a ids.length c ty_api_ID 1 (ints .i64 ids),.own 852 a' ids.length c' ty_uint64 1 (ints .u64 (kys S ids))]) w) (hG : TabF w fp) :
    Calls Tryz.prog fn_P_signature_Parser_pairs #[pS bp,sqV a a' ids.length c c',.int .i64 l] w fun e w' => ∃ v L1,e = .returned v ∧ R w fp L1 w' ∧ rowQ bp bt bs S B (pairT (tms S ids) l) v L1 := by
  have hc1 := own_capL (key := 851) hR rfl
  have hc2 := own_capL (key := 852) hR rfl
  refine part_call [.ptr 3000 bp 0,.v (sqV a a' ids.length c c'),.v (.int .i64 l)] ok_P_signature_Parser_pairs (by simp) hR ?_
  have hkl := kys_len S ids
  have cR := fun w h => calls_Pairs w a' c' (kys S ids) l h (by omega) (u64s_kys S ids) (by omega)
  rw [hkl] at cR
  have hof := offA_zero a c 1
  have hof' := offA_zero a' c' 1
  have hne := own_ne (key := 851) hR rfl hpos
  have hne' := own_ne (key := 852) hR rfl hpos
  have hpk := pairs_ok (tms S ids) l
  rw [keys_tms,tms_len] at hpk
  have hpl := pairsF_length (kys S ids) l
  have hps : pairT (tms S ids) l = asm (tms S ids) 0 (pairsF (kys S ids) l) := by rw [pairT,keys_tms]
  (repeat' ((conv => whnf); first | refine stop_and ?_ ?_ | refine ⟨.sl 851 _ _ _,⟨rfl,rfl,rfl,rfl⟩,?_⟩ | refine ⟨.sl 852 _ _ _,⟨rfl,rfl,rfl,rfl⟩,?_⟩ | refine ⟨_,⟨rfl,trivial⟩,?_⟩ | refine CallK_slice 900 (fun w' hR => cR w' (In.ownR (key := 852) hR rfl)) ?_ | (refine bcase_prop (fun h => ?_) (fun h => ?_) <;> try (exfalso; omega)) | (refine bcase_nprop (fun h => ?_) (fun h => ?_) <;> try (exfalso; omega)) | (refine bcase_intro (fun h => ?_) (fun h => ?_) <;> (try simp only [Bool.not_eq_true',Bool.not_eq_false',decide_eq_true_eq,decide_eq_false_iff_not,Bool.not_eq_true,Bool.not_eq_false,Decidable.not_not] at h)) | refine And.intro (by first | omega | exact rfl | assumption | exact ⟨rfl,rfl,rfl,rfl,rfl⟩ | exact ⟨rfl,rfl,rfl,rfl⟩ | exact ⟨rfl,by omega⟩ | exact oneAll_of rfl | exact ⟨rfl,oneAll_of rfl⟩ | exact Ref.refl _ | exact Thin.ref (.skip (Thin.refl _)) | exact Thin.ref (.skip (.skip (Thin.refl _))) | exact fun _ => Ref.refl _ | exact fun _ => Thin.ref (by (repeat (first | exact Thin.nil _ | exact Thin.refl _ | refine Thin.keep rfl (fun _ h => h) ?_ | refine Thin.skip ?_))) | exact Thin.ref (by (repeat (first | exact Thin.nil _ | exact Thin.refl _ | refine Thin.keep rfl (fun _ h => h) ?_ | refine Thin.skip ?_))) | exact ⟨rfl,Nat.le_of_ble_eq_true rfl⟩ | ((try unfold maxLen); (try simp only [List.length_nil,List.length_cons,List.length_append]); omega) | (refine ⟨rfl,?_⟩; (try simp only [List.length_nil,List.length_cons,List.length_append]); omega)) ?_ | intro _)); (all_goals (conv => whnf))
  rename_i b4 b6 b8 ar cr
  refine VC_loop PrG (fun x => [(0,.ptr 3000 bp 0),(4,.ptr 4 b4 0),(6,.ptr 6 b6 0),(8,.ptr 861 b8 0),(9,.v (.int .i64 x.at_)),(25,.sl 900 ar (pairsF (kys S ids) l).length cr),(26,.v (.int .i64 (pairsF (kys S ids) l).length)),(27,.v (.int .i64 x.i))])
    (fun x => prL bp bt bs b4 b6 b8 S ids a a' c c' ar cr (pairsF (kys S ids) l) x.S x.out.length x.out (kys x.S x.out) x.f1 x.f2) (PrI S ids l B) (fun x => (pairsF (kys S ids) l).length - x.i) ⟨0,0,S,[],f1,f2⟩ ⟨Nat.zero_le _,hw,Grow.refl _,fun x hx => by simp at hx,News.refl _ _,hpk.1,hps.symm,⟨Nat.le_refl _,Nat.zero_le _⟩,by dsimp only [List.length_nil]; omega⟩ (by (repeat ((conv => whnf); refine And.intro (by first | exact rfl | exact vint_eq (by omega) | exact vint_eq (by (dsimp only; omega)) | exact vsl_eq (by omega) | exact vsl_eq (by first | (dsimp only; omega) | (simp; done) | (simp; omega))) ?_)); exact trivial) (Ref.takes [78,77,3000,8,851,852,4,6,900] rfl ?_) ?_
  · refine .keep rfl (fun _ h => h) (.keep rfl (fun _ h => h) (.keep rfl (fun _ h => h) (.box ?_ (Thin.refl _))))
    show [Value.slice (offA a c 0 1) _ _,Value.slice (offA a' c' 0 1) _ _] = _
    rw [hof,hof']; rfl
  generalize hPP : pairsF (kys S ids) l = ps at *
  rintro ⟨i,at_,S1,out,g1,g2⟩ ⟨h1,h2,h3,h4,h5,h6,h7,⟨h8,h9⟩,h10⟩
  rw [hPP] at h1 h6 h7
  dsimp only at h1 h2 h3 h4 h5 h6 h7 h8 h9 h10 ⊢
  have hgm := h3.most
  have hm0 : out.length ≤ ids.length := by omega
  have hKl : (kys S1 out).length = out.length := kys_len S1 out
  by_cases hlt : i < ps.length
  · have hpi := hpk.2 (ps.getD i 0) (by rw [List.getD_eq_getElem?_getD,List.getElem?_eq_getElem hlt]; exact List.getElem_mem hlt)
    have hdr : ps.drop i = ps.getD i 0 :: ps.drop (i + 1) := by
      rw [List.drop_eq_getElem_cons hlt,List.getD_eq_getElem?_getD,List.getElem?_eq_getElem hlt]; rfl
    have r0 : (ints .i64 ps)[i]? = some (.int .i64 (ps.getD i 0)) := ints_getD hlt
    rw [hdr] at h6 h7
    obtain ⟨q,hq⟩ := Int.eq_ofNat_of_zero_le hpi.1
    rw [hq] at h6 h7 hpi r0
    have hqa : at_ ≤ q := by have := h6.1; omega
    have hq1 : q + 1 < ids.length := by omega
    have hgp := h6.2
    have x1 := hs.get (show q < ids.length by omega)
    have x2 := hs.get hq1
    have y1 := (hs.grow h3).get (show q < ids.length by omega)
    have y2 := (hs.grow h3).get hq1
    have t1 := tms_get S (show q < ids.length by omega)
    have t2 := tms_get S hq1
    have z1 := h3.tm x1.2
    have z2 := h3.tm x2.2
    have hl2 := len_two (ts := tms S ids) (i := q) (by rw [tms_len]; exact hq1)
    rw [t1,t2] at hl2
    have hsl : ((ids.drop at_).take (q - at_)).length = q - at_ := by simp; omega
    have hslk : (((kys S ids).drop at_).take (q - at_)).length = q - at_ := by simp [hkl]; omega
    have hsq : Seq S ((ids.drop at_).take (q - at_)) := (hs.drop _).take _
    have hkk : kys S1 ((ids.drop at_).take (q - at_)) = ((kys S ids).drop at_).take (q - at_) := by
      rw [kys_grow hsq h3]; simp [kys,List.map_drop,List.map_take]
    have htt : tms S1 ((ids.drop at_).take (q - at_)) = ((tms S ids).drop at_).take (q - at_) := by
      rw [tms_grow hsq h3]; simp [tms,List.map_drop,List.map_take]
    obtain ⟨out',hout⟩ : ∃ o,o = out ++ (ids.drop at_).take (q - at_) := ⟨_,rfl⟩
    have ho1 : out'.length = out.length + (q - at_) := by rw [hout,List.length_append,hsl]
    have hsq' : Seq S1 out' := by rw [hout]; exact h4.append (hsq.grow h3)
    obtain ⟨S2,x,e,hM⟩ := pairOk h2 y1.1 y1.2 y2.1 y2.2 (by rw [z1,z2]; have : LM = 1152921504606846976 := rfl; omega) (by omega)
    have c1 := calls_Pair bs S1 h2 (ids.getD q 0) (ids.getD (q + 1) 0)
    rw [e] at c1
    have hg := hM.grow
    have sA := splice_mid (k := .i64) (X := out) (Z := ids) (Y := (ids.drop at_).take (q - at_)) (m := out.length) rfl
    have sB := splice_mid (k := .u64) (X := kys S1 out) (Z := kys S ids) (Y := ((kys S ids).drop at_).take (q - at_)) (m := out.length) hKl
    rw [hsl,← hout,← ho1] at sA
    have hk' : kys S1 out' = kys S1 out ++ ((kys S ids).drop at_).take (q - at_) := by rw [hout,kys_append,hkk]
    rw [hslk,← hk',← ho1] at sB
    have pA := ints_part (k := .i64) (X := out) (Z := ids) (m := out.length) (l := at_) (q := q - at_) rfl h8
    have pB := ints_part (k := .u64) (X := kys S1 out) (Z := kys S ids) (m := out.length) (l := at_) (q := q - at_) hKl h8
    have lA : (ints .i64 (out ++ ids.drop out.length)).length = ids.length := by rw [ints_length,len_mid rfl hm0]
    have lB : (ints .u64 (kys S1 out ++ (kys S ids).drop out.length)).length = ids.length := by rw [ints_length,len_mid hKl (by omega),hkl]
    have rA := fun {L : List Ent} {T : Nat} (h : ownAt 851 L = some ⟨a,ids.length,c,T,1,ints .i64 (out ++ ids.drop out.length)⟩) => rdsSub (w0 := w) (fp0 := fp) 851 h (l := at_) (m := q - at_) (by rw [lA]; omega)
    have rB := fun {L : List Ent} {T : Nat} (h : ownAt 852 L = some ⟨a',ids.length,c',T,1,ints .u64 (kys S1 out ++ (kys S ids).drop out.length)⟩) => rdsSub (w0 := w) (fp0 := fp) 852 h (l := at_) (m := q - at_) (by rw [lB]; omega)
    rw [pA,Nat.mul_one] at rA
    rw [pB,Nat.mul_one] at rB
    have oA := oneAllI (k := .i64) ((ids.drop at_).take (q - at_))
    have oB := oneAllI (k := .u64) (((kys S ids).drop at_).take (q - at_))
    have k1 : (ints .i64 (out' ++ ids.drop out'.length))[q]? = some (.int .i64 (ids.getD q 0)) := by
      rw [ints_getD (by rw [len_mid rfl (by omega)]; omega),get_mid rfl (by omega) (by omega)]
    have k2 : (ints .i64 (out' ++ ids.drop out'.length))[q + 1]? = some (.int .i64 (ids.getD (q + 1) 0)) := by
      rw [ints_getD (by rw [len_mid rfl (by omega)]; omega),get_mid rfl (by omega) hq1]
    have eq1 : ((q : Int) + 1).toNat = q + 1 := by omega
    have hml : out.length + (q - at_) = out'.length := ho1.symm
    (repeat' ((conv => whnf); first | rw [Int.toNat_natCast] | rw [eq1] | rw [Nat.mul_one] | refine ldCell r0 ?_ | refine ldCell k1 ?_ | refine ldCell k2 ?_ | refine ⟨_,rA rfl,oA,?_⟩ | refine ⟨_,rB rfl,oB,?_⟩ | rw [sA] | rw [sB] | rw [hml] | (refine CallK_pack (key := 77) rfl (fun w hR h0 => c1 _ _ _ h0) ?_; rintro _ _ ⟨rfl,fp',rfl⟩; refine ⟨.v _,rfl,?_⟩) | refine ⟨.sl 851 _ _ _,⟨rfl,rfl,rfl,rfl⟩,?_⟩ | refine ⟨.sl 852 _ _ _,⟨rfl,rfl,rfl,rfl⟩,?_⟩ | refine ⟨.vie 851 a _ c,⟨rfl,trivial⟩,?_⟩ | refine ⟨.vie 852 a' _ c',⟨rfl,trivial⟩,?_⟩ | refine ⟨_,⟨rfl,trivial⟩,?_⟩ | refine stop_and ?_ ?_ | (refine bcase_prop (fun h => ?_) (fun h => ?_) <;> try (exfalso; omega)) | (refine bcase_nprop (fun h => ?_) (fun h => ?_) <;> try (exfalso; omega)) | (refine bcase_intro (fun h => ?_) (fun h => ?_) <;> (try simp only [Bool.not_eq_true',Bool.not_eq_false',decide_eq_true_eq,decide_eq_false_iff_not,Bool.not_eq_true,Bool.not_eq_false,Decidable.not_not] at h)) | refine And.intro (by first | omega | exact rfl | assumption | exact ⟨rfl,rfl,rfl,rfl,rfl⟩ | exact ⟨rfl,rfl,rfl,rfl⟩ | exact ⟨rfl,by omega⟩ | exact oneAll_of rfl | exact ⟨rfl,oneAll_of rfl⟩ | exact Ref.refl _ | exact Thin.ref (.skip (Thin.refl _)) | exact Thin.ref (.skip (.skip (Thin.refl _))) | exact hne | exact hne' | exact ⟨rfl,rfl,rfl,rfl,by omega,by omega⟩ | exact fun _ => Ref.refl _ | exact fun _ => Thin.ref (by (repeat (first | exact Thin.nil _ | exact Thin.refl _ | refine Thin.keep rfl (fun _ h => h) ?_ | refine Thin.skip ?_))) | exact Thin.ref (by (repeat (first | exact Thin.nil _ | exact Thin.refl _ | refine Thin.keep rfl (fun _ h => h) ?_ | refine Thin.skip ?_))) | exact ⟨rfl,Nat.le_of_ble_eq_true rfl⟩ | ((try unfold maxLen); (try simp only [List.length_nil,List.length_cons,List.length_append]); omega) | (refine ⟨rfl,?_⟩; (try simp only [List.length_nil,List.length_cons,List.length_append]); omega)) ?_ | intro _)); (all_goals (conv => whnf))
    have hXl : (out' ++ ids.drop out'.length).length = ids.length := len_mid rfl (by omega)
    have hYl : (kys S1 out' ++ (kys S ids).drop out'.length).length = ids.length := by rw [len_mid (kys_len _ _) (by omega),hkl]
    have hn' : (out' ++ [x]).length = out'.length + 1 := by simp
    have eX := set_mid (X := out') (Y := ids) (v := x) rfl (by omega)
    have eY := set_mid (X := kys S1 out') (Y := kys S ids) (i := out'.length) (v := ((tm S2.E x).key : Int)) (kys_len _ _) (by omega)
    have hkf : kys S2 (out' ++ [x]) = kys S1 out' ++ [((tm S2.E x).key : Int)] := by rw [kys_append,kys_grow hsq' hg]; simp [kys]
    refine CallK_growT rfl hg ?_
    refine CallK_sub [78,77,3000,861,851,852] rfl (fun w hR h0 => calls_addV bp bt bs b8 S2 hM.wf (out' ++ ids.drop out'.length) (kys S1 out' ++ (kys S ids).drop out'.length) ids.length hXl hYl (by omega) out'.length (by omega) x ⟨hM.pos,hM.le⟩ a a' c c' _ _ _ w h0 (hG.castL hR)) ?_
    rintro _ _ ⟨e1,e2,rfl,rfl⟩
    refine ⟨.v _,rfl,?_⟩
    (repeat' ((conv => whnf); first | refine ⟨_,⟨rfl,trivial⟩,?_⟩  | (refine bcase_prop (fun h => ?_) (fun h => ?_) <;> try (exfalso; omega)) | (refine bcase_nprop (fun h => ?_) (fun h => ?_) <;> try (exfalso; omega)) | (refine bcase_intro (fun h => ?_) (fun h => ?_) <;> (try simp only [Bool.not_eq_true',Bool.not_eq_false',decide_eq_true_eq,decide_eq_false_iff_not,Bool.not_eq_true,Bool.not_eq_false,Decidable.not_not] at h)) | refine And.intro (by first | omega | exact rfl | assumption | exact ⟨rfl,rfl,rfl,rfl,rfl⟩ | exact ⟨rfl,rfl,rfl,rfl⟩ | exact ⟨rfl,by omega⟩ | exact oneAll_of rfl | exact ⟨rfl,oneAll_of rfl⟩ | exact Ref.refl _ | exact Thin.ref (.skip (Thin.refl _)) | exact Thin.ref (.skip (.skip (Thin.refl _))) | exact ⟨rfl,Nat.le_of_ble_eq_true rfl⟩ | ((try unfold maxLen); (try simp only [List.length_nil,List.length_cons,List.length_append]); omega) | (refine ⟨rfl,?_⟩; (try simp only [List.length_nil,List.length_cons,List.length_append]); omega)) ?_ | intro _)); (all_goals (conv => whnf))
    refine loop_next ⟨i + 1,q + 2,S2,out' ++ [x],e1,e2⟩ ⟨by rw [hPP]; exact hlt,hM.wf,h3.trans hg,(hsq'.grow hg).snoc ⟨hM.pos,hM.le⟩,?_,?_,?_,?_,?_⟩ ?_ (by (repeat ((conv => whnf); refine And.intro (by first | exact rfl | exact vint_eq (by omega) | exact vint_eq (by (dsimp only; omega)) | exact vsl_eq (by omega) | exact vsl_eq (by first | (dsimp only; omega) | (simp; done) | (simp; omega))) ?_)); exact trivial) (Ref.takes [78,77,3000,861,851,852,4,6,900] rfl (.keep rfl (fun _ h => h) (.keep rfl (fun _ h => h) (.keep rfl (fun _ h => h) (.box ?_ (.own rfl ?_ (.own rfl ?_ (Thin.refl _))))))))
    · rw [hout]; exact (h5.more _).made hM
    · rw [hPP]
      have e : ((q + 2 : Nat) : Int) = (q : Int) + 2 := by omega
      dsimp only
      rw [e]; exact hgp
    · rw [hPP]
      dsimp only
      rw [← h7,tms_append,tms_grow hsq' hg,hout,tms_append,htt,asm,Int.toNat_natCast,t1,t2,← z1,← z2]
      simp [tms,hM.tm]
    · dsimp only
      omega
    · have := hM.len
      dsimp only
      omega
    · dsimp only; omega
    · rw [hn']
    · dsimp only
      rw [eX,hn']
    · dsimp only
      rw [eY,hkf,hn']
  · have hdr : ps.drop i = [] := List.drop_eq_nil_of_le (by omega)
    rw [hdr,asm] at h7
    have hsl : ((ids.drop at_).take (ids.length - at_)).length = ids.length - at_ := by simp
    have hslk : (((kys S ids).drop at_).take (ids.length - at_)).length = ids.length - at_ := by simp [hkl]
    have hfull : (ids.drop at_).take (ids.length - at_) = ids.drop at_ := List.take_of_length_le (by simp)
    have hsq : Seq S (ids.drop at_) := hs.drop _
    have hkk : kys S1 ((ids.drop at_).take (ids.length - at_)) = ((kys S ids).drop at_).take (ids.length - at_) := by
      rw [hfull,kys_grow hsq h3,List.take_of_length_le (by simp [hkl])]; simp [kys,List.map_drop]
    have htt : tms S1 ((ids.drop at_).take (ids.length - at_)) = (tms S ids).drop at_ := by
      rw [hfull,tms_grow hsq h3]; simp [tms,List.map_drop]
    obtain ⟨out',hout⟩ : ∃ o,o = out ++ (ids.drop at_).take (ids.length - at_) := ⟨_,rfl⟩
    have ho1 : out'.length = out.length + (ids.length - at_) := by rw [hout,List.length_append,hsl]
    have hsq' : Seq S1 out' := by rw [hout,hfull]; exact h4.append (hsq.grow h3)
    have sA := splice_mid (k := .i64) (X := out) (Z := ids) (Y := (ids.drop at_).take (ids.length - at_)) (m := out.length) rfl
    have sB := splice_mid (k := .u64) (X := kys S1 out) (Z := kys S ids) (Y := ((kys S ids).drop at_).take (ids.length - at_)) (m := out.length) hKl
    rw [hsl,← hout,← ho1] at sA
    have hk' : kys S1 out' = kys S1 out ++ ((kys S ids).drop at_).take (ids.length - at_) := by rw [hout,kys_append,hkk]
    rw [hslk,← hk',← ho1] at sB
    have pA := ints_part (k := .i64) (X := out) (Z := ids) (m := out.length) (l := at_) (q := ids.length - at_) rfl h8
    have pB := ints_part (k := .u64) (X := kys S1 out) (Z := kys S ids) (m := out.length) (l := at_) (q := ids.length - at_) hKl h8
    have lA : (ints .i64 (out ++ ids.drop out.length)).length = ids.length := by rw [ints_length,len_mid rfl hm0]
    have lB : (ints .u64 (kys S1 out ++ (kys S ids).drop out.length)).length = ids.length := by rw [ints_length,len_mid hKl (by omega),hkl]
    have rA := fun {L : List Ent} {T : Nat} (h : ownAt 851 L = some ⟨a,ids.length,c,T,1,ints .i64 (out ++ ids.drop out.length)⟩) => rdsSub (w0 := w) (fp0 := fp) 851 h (l := at_) (m := ids.length - at_) (by rw [lA]; omega)
    have rB := fun {L : List Ent} {T : Nat} (h : ownAt 852 L = some ⟨a',ids.length,c',T,1,ints .u64 (kys S1 out ++ (kys S ids).drop out.length)⟩) => rdsSub (w0 := w) (fp0 := fp) 852 h (l := at_) (m := ids.length - at_) (by rw [lB]; omega)
    rw [pA,Nat.mul_one] at rA
    rw [pB,Nat.mul_one] at rB
    have oA := oneAllI (k := .i64) ((ids.drop at_).take (ids.length - at_))
    have oB := oneAllI (k := .u64) (((kys S ids).drop at_).take (ids.length - at_))
    have hml : out.length + (ids.length - at_) = out'.length := ho1.symm
    (repeat' ((conv => whnf); first | rw [Int.toNat_natCast] | rw [Nat.mul_one] | refine ⟨_,rA rfl,oA,?_⟩ | refine ⟨_,rB rfl,oB,?_⟩ | rw [sA] | rw [sB] | rw [hml] | refine ⟨.sl 851 _ _ _,⟨rfl,rfl,rfl,rfl⟩,?_⟩ | refine ⟨.sl 852 _ _ _,⟨rfl,rfl,rfl,rfl⟩,?_⟩ | refine ⟨.vie 851 a _ c,⟨rfl,trivial⟩,?_⟩ | refine ⟨.vie 852 a' _ c',⟨rfl,trivial⟩,?_⟩ | refine ⟨_,⟨rfl,trivial⟩,?_⟩ | refine stop_and ?_ ?_ | (refine bcase_prop (fun h => ?_) (fun h => ?_) <;> try (exfalso; omega)) | (refine bcase_nprop (fun h => ?_) (fun h => ?_) <;> try (exfalso; omega)) | (refine bcase_intro (fun h => ?_) (fun h => ?_) <;> (try simp only [Bool.not_eq_true',Bool.not_eq_false',decide_eq_true_eq,decide_eq_false_iff_not,Bool.not_eq_true,Bool.not_eq_false,Decidable.not_not] at h)) | refine And.intro (by first | omega | exact rfl | assumption | exact ⟨rfl,rfl,rfl,rfl,rfl⟩ | exact ⟨rfl,rfl,rfl,rfl⟩ | exact ⟨rfl,by omega⟩ | exact oneAll_of rfl | exact ⟨rfl,oneAll_of rfl⟩ | exact Ref.refl _ | exact Thin.ref (.skip (Thin.refl _)) | exact Thin.ref (.skip (.skip (Thin.refl _))) | exact hne | exact hne' | exact ⟨rfl,rfl,rfl,rfl,by omega,by omega⟩ | exact fun _ => Ref.refl _ | exact fun _ => Thin.ref (by (repeat (first | exact Thin.nil _ | exact Thin.refl _ | refine Thin.keep rfl (fun _ h => h) ?_ | refine Thin.skip ?_))) | exact Thin.ref (by (repeat (first | exact Thin.nil _ | exact Thin.refl _ | refine Thin.keep rfl (fun _ h => h) ?_ | refine Thin.skip ?_))) | exact ⟨rfl,Nat.le_of_ble_eq_true rfl⟩ | ((try unfold maxLen); (try simp only [List.length_nil,List.length_cons,List.length_append]); omega) | (refine ⟨rfl,?_⟩; (try simp only [List.length_nil,List.length_cons,List.length_append]); omega)) ?_ | intro _)); (all_goals (conv => whnf))
    all_goals first | (exfalso; omega) | skip
    have hrow : Row S S1 out' (pairT (tms S ids) l) := ⟨h2,h3,hsq',by rw [hout,tms_append,htt]; exact h7,by rw [hout]; exact h5.more _⟩
    refine ⟨⟨_,Ref.takes [78,77,3000,851,852] rfl (.keep rfl (fun _ h => h) (.keep rfl (fun _ h => h) (.keep rfl (fun _ h => h) (.cut (m := out'.length) (by omega) ?_ (.cut (m := out'.length) (by omega) ?_ (.nil _)))))),S1,out',a,a',c,c',g1,g2,hrow,by omega,rfl,rfl⟩⟩
    · rw [Nat.mul_one,ints,← List.map_take,List.take_left]; rfl
    · rw [Nat.mul_one,ints,← List.map_take,show out'.length = (kys S1 out').length from (kys_len _ _).symm,List.take_left]; rfl
end Go.Proofs.YtkkhpdkfploodaaGreatDoor
/- The signature of a text: the program. -/
namespace Go.Proofs.YtkkhpdkfploodaaGreatDoor
open Go.EG
attribute [local irreducible] CallK QCall Go.Calls
set_option linter.unusedSimpArgs false
set_option linter.unusedVariables false
set_option maxRecDepth 20000
set_option maxHeartbeats 4000000
structure OfG where
  lev : Nat
  S : Sto
  ids : List Int
  a : Option Addr
  a' : Option Addr
  c : Nat
  c' : Nat
  f1 : List Nat
  f2 : List Nat
  to : Nat
structure OfI (S0 : Sto) (t : List Nat) (B : Nat) (x : OfG) : Prop where
  wf : WF x.S
  grow : Grow S0 x.S
  seq : Seq x.S x.ids
  tms : tms x.S x.ids = seqT t (x.lev - 1)
  pos : 1 ≤ x.lev ∧ x.lev ≤ x.to
  most : x.S.E.length + x.ids.length ≤ B
  past : ∀ j,j < x.lev - 1 → 1 < (seqT t j).length
  to_ : x.to + 300 * x.ids.length ≤ 300 * t.length + 300
  near : x.to ≤ x.lev + 246
  soon : 2 ≤ x.ids.length → (stepT x.to (seqT t (x.lev - 1))).length < (seqT t (x.lev - 1)).length
  out : Out S0 x.S t
theorem OfI.len {S0 : Sto} {t : List Nat} {B : Nat} {x : OfG} (h : OfI S0 t B x) : x.ids.length = (seqT t (x.lev - 1)).length := by rw [← h.tms,tms_len]
theorem OfI.next {S0 : Sto} {t : List Nat} {B : Nat} {x : OfG} (h : OfI S0 t B x) (h2 : 2 ≤ x.ids.length) {S2 : Sto} {ids2 : List Int} (hr : Row x.S S2 ids2 (stepT x.lev (seqT t (x.lev - 1)))) (hm : S2.E.length + ids2.length ≤ B) :
    ∃ to,∀ a a' c c' f1 f2,OfI S0 t B ⟨x.lev + 1,S2,ids2,a,a',c,c',f1,f2,to⟩ ∧ ids2.length * 1000 + (to - (x.lev + 1)) < x.ids.length * 1000 + (x.to - x.lev) := by
  have hl := h.len
  have hp := h.pos
  have hlv : x.lev = (x.lev - 1) + 1 := by omega
  have hseq : seqT t x.lev = stepT x.lev (seqT t (x.lev - 1)) := by
    conv => lhs; rw [hlv,seqT]
    rw [← hlv]
  have hl2 : ids2.length = (stepT x.lev (seqT t (x.lev - 1))).length := by rw [← hr.tms,tms_len]
  have hpast : ∀ j,j < x.lev + 1 - 1 → 1 < (seqT t j).length := fun j hj => by
    by_cases h' : j < x.lev - 1
    · exact h.past j h'
    · have : j = x.lev - 1 := by omega
      rw [this,← hl]; omega
  have hout : Out S0 S2 t := h.out.next hr.grow hr.news (k := x.lev) (by rw [hr.tms,hseq])
  have hle := stepT_len x.lev (seqT t (x.lev - 1))
  have ht := h.to_
  have hn := h.near
  by_cases hs : (stepT x.lev (seqT t (x.lev - 1))).length < (seqT t (x.lev - 1)).length
  · by_cases h3 : 2 ≤ ids2.length
    · obtain ⟨T,k1,k2,k3⟩ := soonT (ts := seqT t x.lev) (by rw [hseq,← hl2]; exact h3) (x.lev + 1) (by omega)
      refine ⟨T,fun a a' c c' f1 f2 => ⟨⟨hr.wf,h.grow.trans hr.grow,hr.seq,?_,⟨by dsimp only; omega,k1⟩,hm,hpast,?_,k2,fun _ => ?_,hout⟩,by omega⟩⟩
      · dsimp only; rw [Nat.add_sub_cancel,hseq]; exact hr.tms
      · dsimp only; omega
      · dsimp only; rw [Nat.add_sub_cancel]; exact k3
    · refine ⟨x.lev + 1,fun a a' c c' f1 f2 => ⟨⟨hr.wf,h.grow.trans hr.grow,hr.seq,?_,⟨by dsimp only; omega,Nat.le_refl _⟩,hm,hpast,?_,by dsimp only; omega,fun h' => absurd h' h3,hout⟩,by omega⟩⟩
      · dsimp only; rw [Nat.add_sub_cancel,hseq]; exact hr.tms
      · dsimp only; omega
  · have he := stepT_same hs
    have hto : x.lev < x.to := by
      refine Nat.lt_of_le_of_ne hp.2 fun e => ?_
      have := h.soon h2
      rw [← e] at this
      exact hs this
    refine ⟨x.to,fun a a' c c' f1 f2 => ⟨⟨hr.wf,h.grow.trans hr.grow,hr.seq,?_,⟨by dsimp only; omega,hto⟩,hm,hpast,?_,by dsimp only; omega,fun _ => ?_,hout⟩,by omega⟩⟩
    · dsimp only; rw [Nat.add_sub_cancel,hseq]; exact hr.tms
    · dsimp only; omega
    · dsimp only
      rw [Nat.add_sub_cancel,hseq,he]
      exact h.soon h2
def ofQ (bp bt bs : Nat) (S0 : Sto) (t : List Nat) (v : Value) (L1 : List Ent) : Prop :=
  ∃ (S : Sto) (x : Int) (f1 f2 : List Nat),WF S ∧ Grow S0 S ∧ (1 ≤ x ∧ x ≤ S.E.length) ∧ Sig t (tm S.E x) ∧ S.E.length + 1 ≤ S0.E.length + 2 * t.length ∧ Out S0 S t ∧ v = .tuple #[.int .i64 x,.nilIface] ∧ L1 = fP bp bt bs S f1 f2
abbrev ofL (bp bt bs b6 : Nat) (S : Sto) (ids : List Int) (a a' : Option Addr) (c c' : Nat) (f1 f2 : List Nat) : List Ent := fP bp bt bs S f1 f2 ++ [.box 6 b6 [.slice a ids.length c,.slice a' ids.length c'] ty_signature_sequence,.own 851 a ids.length c ty_api_ID 1 (ints .i64 ids),.own 852 a' ids.length c' ty_uint64 1 (ints .u64 (kys S ids))]
theorem calls_Of (bp bt bs : Nat) (S0 : Sto) (hw : WF S0) (t : List Nat) (hb : ∀ x ∈ t,x < 256) (hpos : 0 < t.length) (hl : t.length ≤ 1000) (hroom : S0.E.length + 2 * t.length ≤ S0.most) (at_ : Option Addr) (ct : Nat) (f1 f2 fp : List Nat) (w : World)
    (hR : R w fp (fP bp bt bs S0 f1 f2) w) (hG : TabF w fp) (hin : In w fp at_ (bytesV t)) :
    Calls Tryz.prog fn_P_signature_Parser_Of #[pS bp,.slice at_ t.length ct] w fun e w' => ∃ v L1,e = .returned v ∧ R w fp L1 w' ∧ ofQ bp bt bs S0 t v L1 := by
  refine part_call [.ptr 3000 bp 0,.v (.slice at_ t.length ct)] ok_P_signature_Parser_Of (by simp) hR ?_
  have c1 := fun f1 f2 fp w hR hG hin => calls_letters bp bt bs S0 hw t hb (by omega) (by omega) at_ ct f1 f2 fp w hR hG hin
  (repeat' ((conv => whnf); first | refine ⟨_,⟨rfl,trivial⟩,?_⟩ | (refine CallK_sub [78,77,3000] rfl (fun w hR h0 => c1 _ _ _ w h0 (hG.castL hR) (hin.castL hR)) ?_; rintro _ _ ⟨S,ids,a,a',c,c',g1,g2,hrow,hlen,rfl,rfl⟩; refine ⟨.v _,rfl,?_⟩) | (refine bcase_prop (fun h => ?_) (fun h => ?_) <;> try (exfalso; omega)) | (refine bcase_nprop (fun h => ?_) (fun h => ?_) <;> try (exfalso; omega)) | (refine bcase_intro (fun h => ?_) (fun h => ?_) <;> (try simp only [Bool.not_eq_true',Bool.not_eq_false',decide_eq_true_eq,decide_eq_false_iff_not,Bool.not_eq_true,Bool.not_eq_false,Decidable.not_not] at h)) | refine And.intro (by first | omega | exact rfl | assumption | exact ⟨rfl,rfl,rfl,rfl,rfl⟩ | exact ⟨rfl,rfl,rfl,rfl⟩ | exact ⟨rfl,by omega⟩ | exact oneAll_of rfl | exact ⟨rfl,oneAll_of rfl⟩ | exact Ref.refl _ | exact Thin.ref (.skip (Thin.refl _)) | exact Thin.ref (.skip (.skip (Thin.refl _))) | exact ⟨rfl,Nat.le_of_ble_eq_true rfl⟩ | ((try unfold maxLen); (try simp only [List.length_nil,List.length_cons,List.length_append]); omega) | (refine ⟨rfl,?_⟩; (try simp only [List.length_nil,List.length_cons,List.length_append]); omega)) ?_ | intro _)); (all_goals (conv => whnf))
  all_goals first | (exfalso; omega) | skip
  rename_i b6
  have hids : ids.length = t.length := by
    have := congrArg List.length hrow.tms
    simpa [tms] using this
  have hout0 : Out S0 S t := (Out.refl S0 t).next hrow.grow hrow.news (k := 0) hrow.tms
  have h0 : ∃ to,OfI S0 t (S0.E.length + 2 * t.length) ⟨1,S,ids,a,a',c,c',g1,g2,to⟩ := by
    by_cases h2 : 2 ≤ ids.length
    · obtain ⟨T,k1,k2,k3⟩ := soonT (ts := seqT t 0) (by rw [seqT,List.length_map]; omega) 1 (Nat.le_refl _)
      exact ⟨T,hrow.wf,hrow.grow,hrow.seq,hrow.tms,⟨Nat.le_refl _,k1⟩,hlen,fun j hj => absurd hj (by simp),by dsimp only; omega,k2,fun _ => k3,hout0⟩
    · exact ⟨1,hrow.wf,hrow.grow,hrow.seq,hrow.tms,⟨Nat.le_refl _,Nat.le_refl _⟩,hlen,fun j hj => absurd hj (by simp),by dsimp only; omega,by dsimp only; omega,fun h => absurd h h2,hout0⟩
  obtain ⟨to,h0⟩ := h0
  refine VC_loop OfG (fun x => [(0,.ptr 3000 bp 0),(6,.ptr 6 b6 0),(8,.v (.int .i64 x.lev))]) (fun x => ofL bp bt bs b6 x.S x.ids x.a x.a' x.c x.c' x.f1 x.f2) (OfI S0 t (S0.E.length + 2 * t.length)) (fun x => x.ids.length * 1000 + (x.to - x.lev)) ⟨1,S,ids,a,a',c,c',g1,g2,to⟩ h0 (by (repeat ((conv => whnf); refine And.intro (by first | exact rfl | exact vint_eq (by omega) | exact vint_eq (by (dsimp only; omega)) | exact vsl_eq (by omega) | exact vsl_eq (by first | (dsimp only; omega) | (simp; done) | (simp; omega))) ?_)); exact trivial) (Ref.takes [78,77,3000,6,851,852] rfl (Thin.refl _)) ?_
  clear h0 hrow hlen hids
  rintro ⟨lev,S,ids,a,a',c,c',g1,g2,to⟩ hI
  have hnx := fun (S2 : Sto) (ids2 : List Int) h => OfI.next (S2 := S2) (ids2 := ids2) hI h
  have htt := hI.tms
  have hll := hI.len
  have hps := seqT_pos hpos (lev - 1)
  have hsl := hI.pos
  have hto := hI.to_
  have hmm := hI.most
  have hgr := hI.grow.most
  have htx : (txtOf (tms S ids)).length ≤ 65536 := by rw [htt,seqT_txt]; omega
  dsimp only at hnx htt hll hps hsl hto hmm hgr ⊢
  by_cases h2 : 2 ≤ ids.length
  · by_cases hodd : lev % 2 = 1
    · have hst : stepT lev (seqT t (lev - 1)) = runT (tms S ids) := by rw [stepT,if_pos hodd,htt]
      rw [hst] at hnx
      (repeat' ((conv => whnf); first | refine ⟨_,⟨rfl,trivial⟩,?_⟩ | (refine CallK_sub [78,77,3000,851,852] rfl (fun w hR h0 => calls_runs bp bt bs S hI.wf ids hI.seq (by omega) (by omega) htx (S0.E.length + 2 * t.length) hmm (by omega) a a' c c' _ _ _ w h0 (hG.castL hR)) ?_; rintro _ _ ⟨S2,ids2,b1,b2,d1,d2,k1,k2,hrow,hlen,rfl,rfl⟩; refine ⟨.v _,rfl,?_⟩) | (refine bcase_prop (fun h => ?_) (fun h => ?_) <;> try (exfalso; omega)) | (refine bcase_nprop (fun h => ?_) (fun h => ?_) <;> try (exfalso; omega)) | (refine bcase_intro (fun h => ?_) (fun h => ?_) <;> (try simp only [Bool.not_eq_true',Bool.not_eq_false',decide_eq_true_eq,decide_eq_false_iff_not,Bool.not_eq_true,Bool.not_eq_false,Decidable.not_not] at h)) | refine And.intro (by first | omega | exact rfl | assumption | exact ⟨rfl,rfl,rfl,rfl,rfl⟩ | exact ⟨rfl,rfl,rfl,rfl⟩ | exact ⟨rfl,by omega⟩ | exact oneAll_of rfl | exact ⟨rfl,oneAll_of rfl⟩ | exact Ref.refl _ | exact Thin.ref (.skip (Thin.refl _)) | exact Thin.ref (.skip (.skip (Thin.refl _))) | exact ⟨rfl,Nat.le_of_ble_eq_true rfl⟩ | ((try unfold maxLen); (try simp only [List.length_nil,List.length_cons,List.length_append]); omega) | (refine ⟨rfl,?_⟩; (try simp only [List.length_nil,List.length_cons,List.length_append]); omega)) ?_ | intro _)); (all_goals (conv => whnf))
      all_goals first | (exfalso; omega) | skip
      obtain ⟨to2,hn⟩ := hnx S2 ids2 h2 hrow hlen
      exact loop_next ⟨lev + 1,S2,ids2,b1,b2,d1,d2,k1,k2,to2⟩ (hn _ _ _ _ _ _).1 (hn b1 b2 d1 d2 k1 k2).2 (by (repeat ((conv => whnf); refine And.intro (by first | exact rfl | exact vint_eq (by omega) | exact vint_eq (by (dsimp only; omega)) | exact vsl_eq (by omega) | exact vsl_eq (by first | (dsimp only; omega) | (simp; done) | (simp; omega))) ?_)); exact trivial) (Ref.takes [78,77,3000,6,851,852] rfl (Thin.refl _))
    · have hst : stepT lev (seqT t (lev - 1)) = pairT (tms S ids) lev := by rw [stepT,if_neg hodd,htt]
      rw [hst] at hnx
      (repeat' ((conv => whnf); first | refine ⟨_,⟨rfl,trivial⟩,?_⟩ | (refine CallK_sub [78,77,3000,851,852] rfl (fun w hR h0 => calls_pairs bp bt bs S hI.wf ids hI.seq (by omega) (by omega) htx lev (by omega) (S0.E.length + 2 * t.length) hmm (by omega) a a' c c' _ _ _ w h0 (hG.castL hR)) ?_; rintro _ _ ⟨S2,ids2,b1,b2,d1,d2,k1,k2,hrow,hlen,rfl,rfl⟩; refine ⟨.v _,rfl,?_⟩) | (refine bcase_prop (fun h => ?_) (fun h => ?_) <;> try (exfalso; omega)) | (refine bcase_nprop (fun h => ?_) (fun h => ?_) <;> try (exfalso; omega)) | (refine bcase_intro (fun h => ?_) (fun h => ?_) <;> (try simp only [Bool.not_eq_true',Bool.not_eq_false',decide_eq_true_eq,decide_eq_false_iff_not,Bool.not_eq_true,Bool.not_eq_false,Decidable.not_not] at h)) | refine And.intro (by first | omega | exact rfl | assumption | exact ⟨rfl,rfl,rfl,rfl,rfl⟩ | exact ⟨rfl,rfl,rfl,rfl⟩ | exact ⟨rfl,by omega⟩ | exact oneAll_of rfl | exact ⟨rfl,oneAll_of rfl⟩ | exact Ref.refl _ | exact Thin.ref (.skip (Thin.refl _)) | exact Thin.ref (.skip (.skip (Thin.refl _))) | exact ⟨rfl,Nat.le_of_ble_eq_true rfl⟩ | ((try unfold maxLen); (try simp only [List.length_nil,List.length_cons,List.length_append]); omega) | (refine ⟨rfl,?_⟩; (try simp only [List.length_nil,List.length_cons,List.length_append]); omega)) ?_ | intro _)); (all_goals (conv => whnf))
      all_goals first | (exfalso; omega) | skip
      obtain ⟨to2,hn⟩ := hnx S2 ids2 h2 hrow hlen
      exact loop_next ⟨lev + 1,S2,ids2,b1,b2,d1,d2,k1,k2,to2⟩ (hn _ _ _ _ _ _).1 (hn b1 b2 d1 d2 k1 k2).2 (by (repeat ((conv => whnf); refine And.intro (by first | exact rfl | exact vint_eq (by omega) | exact vint_eq (by (dsimp only; omega)) | exact vsl_eq (by omega) | exact vsl_eq (by first | (dsimp only; omega) | (simp; done) | (simp; omega))) ?_)); exact trivial) (Ref.takes [78,77,3000,6,851,852] rfl (Thin.refl _))
  · have h1 : ids.length = 1 := by omega
    obtain ⟨x,rfl⟩ := List.length_eq_one_iff.1 h1
    have r1 : (ints .i64 [x])[0]? = some (.int .i64 x) := rfl
    (repeat' ((conv => whnf); first | refine ldCell r1 ?_ | refine ⟨.sl 851 _ _ _,⟨rfl,rfl,rfl,rfl⟩,?_⟩ | refine ⟨_,⟨rfl,trivial⟩,?_⟩ | (refine bcase_prop (fun h => ?_) (fun h => ?_) <;> try (exfalso; omega)) | (refine bcase_nprop (fun h => ?_) (fun h => ?_) <;> try (exfalso; omega)) | (refine bcase_intro (fun h => ?_) (fun h => ?_) <;> (try simp only [Bool.not_eq_true',Bool.not_eq_false',decide_eq_true_eq,decide_eq_false_iff_not,Bool.not_eq_true,Bool.not_eq_false,Decidable.not_not] at h)) | refine And.intro (by first | omega | exact rfl | assumption | exact ⟨rfl,rfl,rfl,rfl,rfl⟩ | exact ⟨rfl,rfl,rfl,rfl⟩ | exact ⟨rfl,by omega⟩ | exact oneAll_of rfl | exact ⟨rfl,oneAll_of rfl⟩ | exact Ref.refl _ | exact Thin.ref (.skip (Thin.refl _)) | exact Thin.ref (.skip (.skip (Thin.refl _))) | exact ⟨rfl,Nat.le_of_ble_eq_true rfl⟩ | ((try unfold maxLen); (try simp only [List.length_nil,List.length_cons,List.length_append]); omega) | (refine ⟨rfl,?_⟩; (try simp only [List.length_nil,List.length_cons,List.length_append]); omega)) ?_ | intro _)); (all_goals (conv => whnf))
    all_goals first | (exfalso; omega) | skip
    exact ⟨⟨_,Ref.takes [78,77,3000] rfl (Thin.refl _),S,x,g1,g2,hI.wf,hI.grow,hI.seq x (by simp),⟨lev - 1,htt.symm,hI.past⟩,by simp only [List.length_cons,List.length_nil] at hmm; omega,hI.out,rfl,rfl⟩⟩
theorem calls_Of0 (bp bt bs : Nat) (S0 : Sto) (at_ : Option Addr) (ct : Nat) (f1 f2 fp : List Nat) (w : World) (hR : R w fp (fP bp bt bs S0 f1 f2) w) :
    Calls Tryz.prog fn_P_signature_Parser_Of #[pS bp,.slice at_ 0 ct] w fun e w' => ∃ v L1,e = .returned v ∧ R w fp L1 w' ∧ (v = .tuple #[.int .i64 0,.nilIface] ∧ ∃ f1 f2,L1 = fP bp bt bs S0 f1 f2) := by
  refine part_call [.ptr 3000 bp 0,.v (.slice at_ 0 ct)] ok_P_signature_Parser_Of (by simp) hR ?_
  (repeat' ((conv => whnf); first | refine ⟨_,⟨rfl,trivial⟩,?_⟩ | (refine bcase_prop (fun h => ?_) (fun h => ?_) <;> try (exfalso; omega)) | (refine bcase_nprop (fun h => ?_) (fun h => ?_) <;> try (exfalso; omega)) | (refine bcase_intro (fun h => ?_) (fun h => ?_) <;> (try simp only [Bool.not_eq_true',Bool.not_eq_false',decide_eq_true_eq,decide_eq_false_iff_not,Bool.not_eq_true,Bool.not_eq_false,Decidable.not_not] at h)) | refine And.intro (by first | omega | exact rfl | assumption | exact ⟨rfl,rfl,rfl,rfl,rfl⟩ | exact ⟨rfl,rfl,rfl,rfl⟩ | exact ⟨rfl,by omega⟩ | exact oneAll_of rfl | exact ⟨rfl,oneAll_of rfl⟩ | exact Ref.refl _ | exact Thin.ref (.skip (Thin.refl _)) | exact Thin.ref (.skip (.skip (Thin.refl _))) | exact ⟨rfl,Nat.le_of_ble_eq_true rfl⟩ | ((try unfold maxLen); (try simp only [List.length_nil,List.length_cons,List.length_append]); omega) | (refine ⟨rfl,?_⟩; (try simp only [List.length_nil,List.length_cons,List.length_append]); omega)) ?_ | intro _)); (all_goals (conv => whnf))
  all_goals first | (exfalso; omega) | skip
  exact ⟨⟨_,Ref.refl _,rfl,f1,f2,rfl⟩⟩
def nwP (bs : Nat) (S : Sto) (v : Value) (L1 : List Ent) : Prop := ∃ bp bt f1,v = pS bp ∧ L1 = [packE 78 f1 (fT bt bs S.E),.box 3000 bp [pS bs,pS bt] ty_signature_Parser]
theorem calls_newP (bs : Nat) (S : Sto) (w : World) : Calls Tryz.prog fn_signature_New #[pS bs] w fun e w' => ∃ v L1,e = .returned v ∧ R w [] L1 w' ∧ nwP bs S v L1 := by
  refine new_call [.v (pS bs)] ok_signature_New (by simp) ?_
  have c1 := calls_newT bs S.E 78
  (repeat' ((conv => whnf); first | (refine CallK_new (fun w hR => c1 w) ?_; rintro _ _ ⟨bn,fpn,rfl,rfl⟩; refine ⟨.v _,rfl,?_⟩) | (refine bcase_prop (fun h => ?_) (fun h => ?_) <;> try (exfalso; omega)) | (refine bcase_nprop (fun h => ?_) (fun h => ?_) <;> try (exfalso; omega)) | (refine bcase_intro (fun h => ?_) (fun h => ?_) <;> (try simp only [Bool.not_eq_true',Bool.not_eq_false',decide_eq_true_eq,decide_eq_false_iff_not,Bool.not_eq_true,Bool.not_eq_false,Decidable.not_not] at h)) | refine And.intro (by first | omega | exact rfl | assumption | exact ⟨rfl,rfl,rfl,rfl,rfl⟩ | exact ⟨rfl,rfl,rfl,rfl⟩ | exact ⟨rfl,by omega⟩ | exact oneAll_of rfl | exact ⟨rfl,oneAll_of rfl⟩ | exact Ref.refl _ | exact Thin.ref (.skip (Thin.refl _)) | exact Thin.ref (.skip (.skip (Thin.refl _))) | exact ⟨rfl,Nat.le_of_ble_eq_true rfl⟩ | ((try unfold maxLen); (try simp only [List.length_nil,List.length_cons,List.length_append]); omega) | (refine ⟨rfl,?_⟩; (try simp only [List.length_nil,List.length_cons,List.length_append]); omega)) ?_ | intro _)); (all_goals (conv => whnf))
  rename_i b
  exact ⟨⟨[packE 78 fpn (fT bn bs S.E),.box 3000 b [pS bs,pS bn] ty_signature_Parser],Ref.takes [78,9] rfl (.keep rfl (fun _ h => h) (.keep rfl (fun _ h => h) (.nil _))),b,bn,fpn,rfl,rfl⟩⟩
theorem oneAll_bytes (t : List Nat) : oneAll (bytesV t) := by
  induction t with
  | nil => exact trivial
  | cons x t ih => exact ⟨trivial,ih⟩
theorem calls_copied (t : List Nat) (hl : t.length ≤ 65536) (a : Option Addr) (c : Nat) (w : World) (hin : In w [] a (bytesV t)) :
    Calls Tryz.prog fn_evergreenlaw22_copied #[.slice a t.length c] w (RetS ty_uint8 1 t.length (bytesV t) w) := by
  refine slice_call [.v (.slice a t.length c)] w ok_evergreenlaw22_copied (by simp) ?_
  have hone := oneAll_bytes t
  have hrd : ∀ {L : List Ent},RdS w [] L a t.length (bytesV t) := fun {L} => In.rds hin (by simp [bytesV])
  (repeat' ((conv => whnf); first | rw [Nat.mul_one] | refine ⟨_,hrd,hone,?_⟩ | (refine bcase_prop (fun h => ?_) (fun h => ?_) <;> try (exfalso; omega)) | (refine bcase_nprop (fun h => ?_) (fun h => ?_) <;> try (exfalso; omega)) | (refine bcase_intro (fun h => ?_) (fun h => ?_) <;> (try simp only [Bool.not_eq_true',Bool.not_eq_false',decide_eq_true_eq,decide_eq_false_iff_not,Bool.not_eq_true,Bool.not_eq_false,Decidable.not_not] at h)) | refine And.intro (by first | omega | exact rfl | assumption | exact ⟨rfl,rfl,rfl,rfl,rfl⟩ | exact ⟨rfl,rfl,rfl,rfl⟩ | exact ⟨rfl,by omega⟩ | exact oneAll_of rfl | exact ⟨rfl,oneAll_of rfl⟩ | exact Ref.refl _ | exact Thin.ref (.skip (Thin.refl _)) | exact Thin.ref (.skip (.skip (Thin.refl _))) | exact ⟨rfl,Nat.le_of_ble_eq_true rfl⟩ | ((try unfold maxLen); (try simp only [List.length_nil,List.length_cons,List.length_append]); omega) | (refine ⟨rfl,?_⟩; (try simp only [List.length_nil,List.length_cons,List.length_append]); omega)) ?_ | intro _)); (all_goals (conv => whnf))
  exact ⟨⟨_,_,by rw [Nat.zero_add],Thin.ref (.own (k' := 0) (Nat.zero_add _) rfl (.nil _))⟩⟩
end Go.Proofs.YtkkhpdkfploodaaGreatDoor
