/- The least level that two keys fit: plain facts. No condition. -/
import Derived.Test.YticiljgbjdcmlaaDoorMath
import Derived.Lib.TrailingZeros
namespace Go.Proofs.YticiljgbjdcmlaaDoor
set_option linter.unusedSimpArgs false
set_option linter.unusedVariables false

/-- Fits by a level's number. -/
def fitC (x y c : Int) : Bool := if c = 122 then decide (x = y) else decide (bitI x (c / 2) = c % 2) && decide (bitI y (c / 2) = 1 - c % 2)
theorem fits_num {x y l : Int} (h : evenF l = true) : fitsF x y l = fitC x y (numF l) := by
  unfold fitsF fitC; rw [h, Bool.true_and]

/-- The least number from c on. -/
structure Least (x y c r : Int) : Prop where
  none : r < 0 → ∀ c', c ≤ c' → c' ≤ 122 → fitC x y c' = false
  some : 0 ≤ r → c ≤ r ∧ r ≤ 122 ∧ fitC x y r = true ∧ ∀ c', c ≤ c' → c' < r → fitC x y c' = false
  low : -1 ≤ r

def bitN' (x b : Nat) : Nat := if x.testBit b then 1 else 0
theorem bitI_testN (x b : Nat) : bitI x b = if x.testBit b then 1 else 0 := by
  have h0 : bitI x b = ((x / 2 ^ b % 2 : Nat) : Int) := by
    unfold bitI
    rw [Int.toNat_natCast]
    norm_cast
  rw [h0, Nat.testBit_eq_decide_div_mod_eq]
  by_cases h : x / 2 ^ b % 2 = 1
  · simp [h]
  · have : x / 2 ^ b % 2 = 0 := by omega
    simp [this]

/-- A number below 122, by the bit and the bit's value in x. -/
theorem fitC_bit {x y b v : Nat} (hb : b ≤ 60) (hv : v ≤ 1) : fitC x y ((2 * b + v : Nat) : Int) = true ↔ (x.testBit b = decide (v = 1) ∧ y.testBit b = !decide (v = 1)) := by
  have e1 : ((2 * b + v : Nat) : Int) / 2 = (b : Nat) := by omega
  have e2 : ((2 * b + v : Nat) : Int) % 2 = (v : Nat) := by omega
  have e3 : ¬ ((2 * b + v : Nat) : Int) = 122 := by omega
  unfold fitC
  rw [if_neg e3, e1, e2, bitI_testN, bitI_testN]
  rcases (by omega : v = 0 ∨ v = 1) with rfl | rfl <;> cases x.testBit b <;> cases y.testBit b <;> simp

/-- The bits where the keys differ, of those whose number is not below c. -/
def diffN (x y c : Nat) : Nat :=
  let d := (((x ^^^ y) &&& 2305843009213693951) / 2 ^ (c / 2)) * 2 ^ (c / 2)
  if c % 2 = 1 ∧ x / 2 ^ (c / 2) % 2 = 0 then d ^^^ (d &&& 2 ^ (c / 2)) else d

theorem diff_base (x y c b : Nat) : ((((x ^^^ y) &&& 2305843009213693951) / 2 ^ (c / 2)) * 2 ^ (c / 2)).testBit b = (decide (c / 2 ≤ b) && (decide (b < 61) && (x.testBit b ^^ y.testBit b))) := by
  rw [show (2305843009213693951 : Nat) = 2 ^ 61 - 1 from rfl, Nat.testBit_mul_two_pow, Nat.testBit_div_two_pow, Nat.testBit_and, Nat.testBit_xor, Nat.testBit_two_pow_sub_one]
  by_cases h : c / 2 ≤ b
  · rw [show b - c / 2 + c / 2 = b from by omega]
    simp [h, Bool.and_comm]
  · simp [h]

theorem diff_test {x y c b : Nat} : (diffN x y c).testBit b = true ↔ (b ≤ 60 ∧ x.testBit b ≠ y.testBit b ∧ c ≤ 2 * b + (if x.testBit b then 1 else 0)) := by
  have hx2 : x / 2 ^ (c / 2) % 2 = 0 ↔ x.testBit (c / 2) = false := by
    rw [Nat.testBit_eq_decide_div_mod_eq]
    simp
  unfold diffN
  simp only
  split
  · rename_i hc
    rw [Nat.testBit_xor, Nat.testBit_and, diff_base, Nat.testBit_two_pow]
    have h0 := hx2.1 hc.2
    by_cases hb : b = c / 2
    · subst hb
      simp only [decide_true, Bool.and_true, Bool.xor_self, Bool.false_eq_true, false_iff, not_and, h0, if_false]
      intro _ _; omega
    · have hb' : ¬ c / 2 = b := fun h => hb h.symm
      simp only [hb', decide_false, Bool.and_false, Bool.xor_false, Bool.and_eq_true, decide_eq_true_eq]
      constructor
      · rintro ⟨h1, h2, h3⟩
        exact ⟨by omega, by cases hx : x.testBit b <;> cases hy : y.testBit b <;> simp_all, by split <;> omega⟩
      · rintro ⟨h1, h2, h3⟩
        refine ⟨by split at h3 <;> omega, by omega, by cases hx : x.testBit b <;> cases hy : y.testBit b <;> simp_all⟩
  · rename_i hc
    rw [diff_base]
    simp only [Bool.and_eq_true, decide_eq_true_eq]
    constructor
    · rintro ⟨h1, h2, h3⟩
      refine ⟨by omega, by cases hx : x.testBit b <;> cases hy : y.testBit b <;> simp_all, ?_⟩
      split
      · omega
      · rename_i hxb
        by_cases hb : b = c / 2
        · subst hb
          have : ¬ c % 2 = 1 := fun h => hc ⟨h, hx2.2 (by simpa using hxb)⟩
          omega
        · omega
    · rintro ⟨h1, h2, h3⟩
      exact ⟨by split at h3 <;> omega, by omega, by cases hx : x.testBit b <;> cases hy : y.testBit b <;> simp_all⟩

theorem ctz_test {x : Nat} (h0 : 0 < x) (h : x < 2 ^ 64) : x.testBit (Lib.ctz 64 x) = true ∧ Lib.ctz 64 x < 64 ∧ ∀ b, b < Lib.ctz 64 x → x.testBit b = false := by
  obtain ⟨m, hm, hl⟩ := Lib.ctzFrom_spec 64 x h0 h
  have e : Lib.ctz 64 x = Lib.ctzFrom 64 x := by unfold Lib.ctz; rw [if_neg (by omega)]
  rw [e]
  generalize Lib.ctzFrom 64 x = k at hm hl
  subst hm
  refine ⟨?_, hl, fun b hb => ?_⟩
  · rw [Nat.testBit_two_pow_mul]; simp
  · rw [Nat.testBit_two_pow_mul]; simp; omega

/-- What the search returns. -/
def fittingN (x y c : Nat) : Int :=
  if x = y then 122 else if c = 122 then -1 else if diffN x y c = 0 then -1 else
    2 * (Lib.ctz 64 (diffN x y c) : Int) + (if x.testBit (Lib.ctz 64 (diffN x y c)) then 1 else 0)

theorem diff_lt (x y c : Nat) : diffN x y c < 2 ^ 61 := by
  apply Nat.lt_pow_two_of_testBit
  intro i hi
  cases h : (diffN x y c).testBit i with
  | false => rfl
  | true => have := (diff_test.1 h).1; omega

theorem fitC_split {c : Int} (h0 : 0 ≤ c) (h1 : c < 122) : ∃ b v : Nat, c = ((2 * b + v : Nat) : Int) ∧ b ≤ 60 ∧ v ≤ 1 := ⟨(c / 2).toNat, (c % 2).toNat, by omega, by omega, by omega⟩

theorem fitting_least {x y c : Nat} (hc : c ≤ 122) : Least x y c (fittingN x y c) := by
  unfold fittingN
  by_cases hxy : x = y
  · subst hxy
    rw [if_pos rfl]
    refine ⟨fun h => by omega, fun _ => ⟨by omega, by omega, by simp [fitC], fun c' h1 h2 => ?_⟩, by omega⟩
    obtain ⟨b, v, rfl, hb, hv⟩ := fitC_split (by omega) h2
    cases h : fitC (x : Int) x ((2 * b + v : Nat) : Int) with
    | false => rfl
    | true =>
      have := (fitC_bit hb hv).1 h
      rw [this.1] at this
      simp at this
  · rw [if_neg hxy]
    have h122 : fitC (x : Int) y 122 = false := by
      have : ¬ (x : Int) = y := by omega
      simp [fitC, this]
    by_cases h1 : c = 122
    · rw [if_pos h1]
      refine ⟨fun _ c' h2 h3 => ?_, fun h => by omega, by omega⟩
      rw [show c' = 122 from by omega]; exact h122
    · rw [if_neg h1]
      have key : ∀ b v : Nat, b ≤ 60 → v ≤ 1 → c ≤ 2 * b + v → fitC (x : Int) y ((2 * b + v : Nat) : Int) = true → (diffN x y c).testBit b = true ∧ (if x.testBit b then 1 else 0) = v := fun b v hb hv hcb hf => by
        obtain ⟨f1, f2⟩ := (fitC_bit hb hv).1 hf
        have e : (if x.testBit b then 1 else 0) = v := by
          rw [f1]
          rcases (by omega : v = 0 ∨ v = 1) with rfl | rfl <;> simp
        refine ⟨diff_test.2 ⟨hb, by rw [f1, f2]; cases decide (v = 1) <;> simp, by rw [e]; exact hcb⟩, e⟩
      by_cases hd : diffN x y c = 0
      · rw [if_pos hd]
        refine ⟨fun _ c' h2 h3 => ?_, fun h => by omega, by omega⟩
        by_cases h4 : c' = 122
        · rw [h4]; exact h122
        · obtain ⟨b, v, rfl, hb, hv⟩ := fitC_split (c := c') (by omega) (by omega)
          cases hf : fitC (x : Int) y ((2 * b + v : Nat) : Int) with
          | false => rfl
          | true =>
            have := (key b v hb hv (by omega) hf).1
            rw [hd] at this
            simp at this
      · rw [if_neg hd]
        have hlt := diff_lt x y c
        obtain ⟨t1, t2, t3⟩ := ctz_test (x := diffN x y c) (by omega) (by omega)
        generalize Lib.ctz 64 (diffN x y c) = k at t1 t2 t3
        obtain ⟨d1, d2, d3⟩ := diff_test.1 t1
        have hv : (if x.testBit k then 1 else 0) ≤ 1 := by split <;> omega
        have hr : 2 * (k : Int) + (if x.testBit k then 1 else 0) = ((2 * k + (if x.testBit k then 1 else 0) : Nat) : Int) := by split <;> omega
        rw [hr]
        generalize hvv : (if x.testBit k then 1 else 0) = v at *
        refine ⟨fun h => by omega, fun _ => ⟨by omega, by omega, (fitC_bit d1 hv).2 ?_, fun c' h2 h3 => ?_⟩, by omega⟩
        · cases hx : x.testBit k <;> cases hy : y.testBit k <;> rw [hx] at hvv <;> rw [hx, hy] at d2 <;> simp at hvv d2 <;> subst hvv <;> simp
        · obtain ⟨b, v', rfl, hb, hv'⟩ := fitC_split (c := c') (by omega) (by omega)
          cases hf : fitC (x : Int) y ((2 * b + v' : Nat) : Int) with
          | false => rfl
          | true =>
            obtain ⟨k1, k2⟩ := key b v' hb hv' (by omega) hf
            exfalso
            by_cases hbk : b < k
            · rw [t3 b hbk] at k1; cases k1
            · by_cases hbe : b = k
              · subst hbe
                rw [k2] at hvv
                omega
              · omega

/-! ### The least level -/

structure Aft (low x y r : Int) : Prop where
  zero : r = 0 → ∀ l, low < l → l ≤ low + 246 → fitsF x y l = false
  some : r ≠ 0 → low < r ∧ r ≤ low + 246 ∧ fitsF x y r = true ∧ ∀ l, low < l → l < r → fitsF x y l = false

def srch (p : Int → Bool) : Nat → Int → Int
  | 0, _ => 0
  | n + 1, k => if p k = true then k else srch p n (k + 1)
def afterF (low x y : Int) : Int := srch (fitsF x y) 246 (low + 1)

theorem srch_none {p : Int → Bool} : ∀ {n : Nat} {k : Int}, (∀ l, k ≤ l → l < k + n → p l = false) → srch p n k = 0
  | 0, _, _ => rfl
  | n + 1, k, h => by
    simp only [srch]
    rw [if_neg (by rw [h k (by omega) (by omega)]; simp)]
    exact srch_none fun l h1 h2 => h l (by omega) (by omega)
theorem srch_some {p : Int → Bool} {r : Int} (hr : p r = true) : ∀ {n : Nat} {k : Int}, k ≤ r → r < k + n → (∀ l, k ≤ l → l < r → p l = false) → srch p n k = r
  | 0, k, h1, h2, _ => by omega
  | n + 1, k, h1, h2, h => by
    simp only [srch]
    by_cases hk : k = r
    · rw [hk, if_pos hr]
    · rw [if_neg (by rw [h k (by omega) (by omega)]; simp)]
      exact srch_some hr (by omega) (by omega) fun l h3 h4 => h l (by omega) h4
theorem Aft.eq {low x y r : Int} (h : Aft low x y r) : r = afterF low x y := by
  unfold afterF
  by_cases h0 : r = 0
  · rw [srch_none fun l h1 h2 => h.zero h0 l (by omega) (by omega)]; exact h0
  · obtain ⟨h1, h2, h3, h4⟩ := h.some h0
    rw [srch_some h3 (by omega) (by omega) fun l h5 h6 => h4 l (by omega) h6]
theorem even_t' {l : Int} (h : 2 ≤ l) (h' : l % 2 = 0) : evenF l = true := by unfold evenF; simp; omega
theorem even_f' {l : Int} (h : l < 2 ∨ l % 2 ≠ 0) : evenF l = false := by unfold evenF; simp; omega

/-- What after computes. -/
def afterN (low x y : Nat) : Int :=
  let j := low / 2 + 1
  let c := (j - 1) % 123
  if 0 ≤ fittingN x y c then 2 * ((j : Int) + fittingN x y c - c)
  else if 0 ≤ fittingN x y 0 then 2 * ((j : Int) + fittingN x y 0 - c + 123) else 0

theorem after_aft (low x y : Nat) : Aft low x y (afterN low x y) := by
  unfold afterN
  simp only
  generalize hj : low / 2 + 1 = j
  generalize hc : (j - 1) % 123 = c
  have hc1 : c ≤ 122 := by omega
  have L1 := fitting_least (x := x) (y := y) hc1
  have L0 := fitting_least (x := x) (y := y) (c := 0) (by omega)
  generalize fittingN x y c = n1 at L1
  generalize fittingN x y 0 = n0 at L0
  have odd : ∀ l : Int, l % 2 ≠ 0 → fitsF x y l = false := fun l h => by unfold fitsF; rw [even_f' (.inr h)]; rfl
  have num : ∀ d : Int, 0 ≤ d → d ≤ 122 → numF (2 * ((j : Int) + d)) = if (c : Int) + d ≤ 122 then c + d else c + d - 123 := fun d h1 h2 => by
    unfold numF; split <;> omega
  have fit : ∀ d : Int, 0 ≤ d → d ≤ 122 → fitsF x y (2 * ((j : Int) + d)) = fitC x y (if (c : Int) + d ≤ 122 then c + d else c + d - 123) := fun d h1 h2 => by
    rw [fits_num (even_t' (by omega) (by omega)), num d h1 h2]
  have lev : ∀ l : Int, (low : Int) < l → l ≤ low + 246 → l % 2 = 0 → ∃ d : Int, 0 ≤ d ∧ d ≤ 122 ∧ l = 2 * (j + d) := fun l h1 h2 h3 => ⟨l / 2 - j, by omega, by omega, by omega⟩
  by_cases h1 : 0 ≤ n1
  · rw [if_pos h1]
    obtain ⟨a1, a2, a3, a4⟩ := L1.some h1
    refine ⟨fun h => by omega, fun _ => ⟨by omega, by omega, ?_, fun l h2 h3 => ?_⟩⟩
    · rw [show 2 * ((j : Int) + n1 - c) = 2 * ((j : Int) + (n1 - c)) from by omega, fit _ (by omega) (by omega), if_pos (by omega), show (c : Int) + (n1 - c) = n1 from by omega]
      exact a3
    · by_cases h4 : l % 2 = 0
      · obtain ⟨d, d1, d2, rfl⟩ := lev l h2 (by omega) h4
        rw [fit d d1 d2, if_pos (by omega)]
        exact a4 _ (by omega) (by omega)
      · exact odd l h4
  · rw [if_neg h1]
    have N1 := L1.none (by omega)
    by_cases h0 : 0 ≤ n0
    · rw [if_pos h0]
      obtain ⟨a1, a2, a3, a4⟩ := L0.some h0
      have hlt : n0 < c := by
        by_cases h : n0 < c
        · exact h
        · rw [N1 n0 (by omega) a2] at a3; cases a3
      refine ⟨fun h => by omega, fun _ => ⟨by omega, by omega, ?_, fun l h2 h3 => ?_⟩⟩
      · rw [show 2 * ((j : Int) + n0 - c + 123) = 2 * ((j : Int) + (n0 - c + 123)) from by omega, fit _ (by omega) (by omega), if_neg (by omega), show (c : Int) + (n0 - c + 123) - 123 = n0 from by omega]
        exact a3
      · by_cases h4 : l % 2 = 0
        · obtain ⟨d, d1, d2, rfl⟩ := lev l h2 (by omega) h4
          rw [fit d d1 d2]
          split
          · exact N1 _ (by omega) (by omega)
          · exact a4 _ (by omega) (by omega)
        · exact odd l h4
    · rw [if_neg h0]
      have N0 := L0.none (by omega)
      refine ⟨fun _ l h2 h3 => ?_, fun h => absurd rfl h⟩
      by_cases h4 : l % 2 = 0
      · obtain ⟨d, d1, d2, rfl⟩ := lev l h2 h3 h4
        rw [fit d d1 d2]
        split
        · exact N0 _ (by omega) (by omega)
        · exact N0 _ (by omega) (by omega)
      · exact odd l h4
theorem afterN_eq (low x y : Nat) : afterN low x y = afterF low x y := (after_aft low x y).eq
theorem after_ok (low x y : Nat) : Aft low x y (afterF low x y) := by rw [← afterN_eq]; exact after_aft low x y
end Go.Proofs.YticiljgbjdcmlaaDoor
