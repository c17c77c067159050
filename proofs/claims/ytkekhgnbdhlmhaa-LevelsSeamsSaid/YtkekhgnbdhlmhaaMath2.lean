/- More plain facts on pairs of rows: ties, levels that repeat, seams, bits. No condition. -/
import Derived.Test.YtkekhgnbdhlmhaaMath
import Derived.Test.YtkekhgnbdhlmhaaKeys
namespace Go.Proofs.Ytkekhgnbdhlmhaa
set_option linter.unusedSimpArgs false

theorem block_from (xs : List Int) (i : Nat) : ∀ (m k : Nat), xs.length - k = m → i < k → k ≤ xs.length → (∀ j, i ≤ j → j < k → xs.getD j 0 = xs.getD i 0) → ∃ k', Block xs i k'
  | 0, k, hm, h1, h2, h3 => ⟨k, h1, h2, h3, fun h => by omega⟩
  | m + 1, k, hm, h1, h2, h3 => by
    by_cases h : xs.getD k 0 = xs.getD i 0
    · refine block_from xs i m (k + 1) (by omega) (by omega) (by omega) fun j hj hk => ?_
      rcases Nat.lt_succ_iff_lt_or_eq.1 hk with h9 | rfl
      · exact h3 j hj h9
      · exact h
    · exact ⟨k, h1, h2, h3, fun _ => h⟩
theorem block_ex {xs : List Int} {i : Nat} (h : i < xs.length) : ∃ k, Block xs i k :=
  block_from xs i _ (i + 1) rfl (by omega) (by omega) fun j hj hk => by rw [show j = i from by omega]

theorem str_same (xs : List Int) : ∀ (m i : Nat), xs.length - i ≤ m → ∀ g ∈ strFrom xs i, ∀ j : Nat, g.1 ≤ j → (j : Int) < g.1 + g.2 → xs.getD j 0 = xs.getD g.1.toNat 0
  | 0, i, hm, g, hg, j, _, _ => by rw [strFrom_end (by omega)] at hg; cases hg
  | m + 1, i, hm, g, hg, j, h1, h2 => by
    by_cases hi : i < xs.length
    · obtain ⟨k, hB⟩ := block_ex hi
      rw [hB.str, List.mem_append] at hg
      rcases hg with hg | hg
      · split at hg
        · simp only [List.mem_singleton] at hg
          subst hg
          simp only at h1 h2 ⊢
          exact hB.all j (by omega) (by omega)
        · cases hg
      · have := hB.lt
        exact str_same xs m k (by omega) g hg j h1 h2
    · rw [strFrom_end (by omega)] at hg; cases hg

/-- Each pair at a tie level is of two equal neighbors. -/
theorem ties_good {xs : List Int} {p : Int} (h : p ∈ ties (stretches xs)) : 0 ≤ p ∧ p + 1 < xs.length ∧ xs.getD p.toNat 0 = xs.getD (p + 1).toNat 0 := by
  simp only [ties, List.mem_flatMap] at h
  obtain ⟨g, hg, hp⟩ := h
  simp only [tieOf, List.mem_map, List.mem_range] at hp
  obtain ⟨q, hq, rfl⟩ := hp
  have h1 := strs_mem (runs xs) 0 (runs_pos xs) g hg
  rw [runs_sum] at h1
  have h2 := str_same xs xs.length 0 (by omega) g (by rw [strFrom_zero]; exact hg)
  have e1 := h2 (g.1 + 2 * (q : Int)).toNat (by omega) (by omega)
  have e2 := h2 (g.1 + 2 * (q : Int) + 1).toNat (by omega) (by omega)
  exact ⟨by omega, by omega, e1.trans e2.symm⟩

def halves (l : List (Int × Int)) : Nat := (l.map fun g => (g.2 / 2).toNat).sum
theorem halves_take {st : List (Int × Int)} {i : Nat} (h : i < st.length) : halves (st.take (i + 1)) = halves (st.take i) + ((st.getD i (0, 0)).2 / 2).toNat := by
  have e : st[i]? = some (st.getD i (0, 0)) := by simp [h]
  rw [List.take_add_one, e]
  simp only [halves, List.map_append, List.sum_append, Option.toList_some, List.map_cons, List.map_nil, List.sum_cons, List.sum_nil, Nat.add_zero]
theorem ties_length : ∀ (st : List (Int × Int)), (ties st).length = halves st
  | [] => rfl
  | g :: st => by
    have ih := ties_length st
    simp only [ties, halves, List.flatMap_cons, List.length_append, List.map_cons, List.sum_cons] at ih ⊢
    rw [ih]
    simp [tieOf]
theorem tie_level (j : Int) (h : 0 ≤ j) : evenF (246 * (1 + j)) = true ∧ numF (246 * (1 + j)) = 122 := by
  refine ⟨even_t (by omega) (by omega), ?_⟩
  unfold numF; omega

/-! ### Levels that repeat -/

theorem num_again (l : Int) : numF (l + 246) = numF l := by unfold numF; omega
theorem even_again {l : Int} (h : 0 < l) : evenF (l + 246) = evenF l := by
  unfold evenF
  rw [Bool.eq_iff_iff]
  simp
  omega
theorem fits_again {x y l : Int} (h : 0 < l) : fitsF x y (l + 246) = fitsF x y l := by
  unfold fitsF; rw [num_again, even_again h]
theorem pairs_again {xs : List Int} {l : Int} (h : 0 < l) : pairsF xs (l + 246) = pairsF xs l := by
  unfold pairsF
  rw [num_again, even_again h]
  simp only [fits_again h]

/-! ### Bits -/

theorem bitI_nat (x : Nat) (b : Nat) : bitI x b = ((x / 2 ^ b % 2 : Nat) : Int) := by
  unfold bitI
  rw [Int.toNat_natCast]
  norm_cast
theorem bitI_test (x b : Nat) : bitI x b = if x.testBit b then 1 else 0 := by
  rw [bitI_nat, Nat.testBit_eq_decide_div_mod_eq]
  by_cases h : x / 2 ^ b % 2 = 1
  · simp [h]
  · have : x / 2 ^ b % 2 = 0 := by omega
    simp [this]

/-- Bits above 60 turned: those below are as they were. -/
theorem bitI_xor {x v : Int} (hx : 0 ≤ x) (hv : 0 ≤ v) {b : Int} (h0 : 0 ≤ b) (h1 : b ≤ 60) :
    bitI ((x.toNat ^^^ (v * ((2 ^ (61 : Int).toNat : Nat) : Int) % 18446744073709551616).toNat : Nat) : Int) b = bitI x b := by
  obtain ⟨x, rfl⟩ := Int.eq_ofNat_of_zero_le hx
  obtain ⟨v, rfl⟩ := Int.eq_ofNat_of_zero_le hv
  obtain ⟨b, rfl⟩ := Int.eq_ofNat_of_zero_le h0
  have e : (((v : Nat) : Int) * ((2 ^ (61 : Int).toNat : Nat) : Int) % 18446744073709551616).toNat = (v * 2 ^ 61) % 2 ^ 64 := by
    have : (((v : Nat) : Int) * ((2 ^ (61 : Int).toNat : Nat) : Int) % 18446744073709551616) = (((v * 2 ^ 61) % 2 ^ 64 : Nat) : Int) := by
      rw [Int.natCast_emod, Int.natCast_mul]
      rfl
    rw [this, Int.toNat_natCast]
  rw [e, Int.toNat_natCast, bitI_test, bitI_test]
  rw [Nat.testBit_xor, Nat.testBit_mod_two_pow, Nat.testBit_mul_two_pow]
  have h2 : ¬ 61 ≤ b := by omega
  simp [h2]
theorem xor_u64 {x y : Int} (hx : 0 ≤ x ∧ x ≤ 18446744073709551615) (hy : 0 ≤ y ∧ y ≤ 18446744073709551615) : 0 ≤ ((x.toNat ^^^ y.toNat : Nat) : Int) ∧ ((x.toNat ^^^ y.toNat : Nat) : Int) ≤ 18446744073709551615 := by
  have := Nat.xor_lt_two_pow (n := 64) (x := x.toNat) (y := y.toNat) (by omega) (by omega)
  omega
end Go.Proofs.Ytkekhgnbdhlmhaa
