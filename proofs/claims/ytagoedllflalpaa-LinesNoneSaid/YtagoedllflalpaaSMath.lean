/- Arithmetic modulo 2^61 - 1, of numbers. Plain Lean: no program in sight. -/
import Derived.Test.YtagoedllflalpaaHeap
namespace Go.Proofs.Ytagoedllflalpaa
open Go.EG

abbrev PP : Nat := 2305843009213693951

theorem fold61 (q r : Nat) : (q * 2305843009213693952 + r) % PP = (q + r) % PP := by
  rw [show q * 2305843009213693952 + r = PP * q + (q + r) by unfold PP; omega, Nat.mul_add_mod]

theorem red_eq (x : Nat) : x % PP = (x / 2305843009213693952 + x % 2305843009213693952) % PP := by
  rw [← fold61]
  congr 1
  omega

theorem red_small {x s : Nat} (hx : x < 18446744073709551616) (hs : s = x % 2305843009213693952 + x / 2305843009213693952) : x % PP = if PP ≤ s then s - PP else s := by
  rw [red_eq, Nat.add_comm, ← hs]
  have h1 : s < PP + 8 := by unfold PP; omega
  split
  · rename_i h
    rw [Nat.mod_eq_sub_mod h, Nat.mod_eq_of_lt (by unfold PP at *; omega)]
  · rename_i h
    exact Nat.mod_eq_of_lt (by omega)

theorem mul_split (a b : Nat) : a * b = (a / 4294967296 * (b / 4294967296)) * 18446744073709551616 + (a / 4294967296 * (b % 4294967296) + a % 4294967296 * (b / 4294967296)) * 4294967296 + a % 4294967296 * (b % 4294967296) := by
  conv => lhs; rw [← Nat.div_add_mod a 4294967296, ← Nat.div_add_mod b 4294967296]
  generalize a / 4294967296 = x1
  generalize a % 4294967296 = x0
  generalize b / 4294967296 = y1
  generalize b % 4294967296 = y0
  rw [Nat.add_mul, Nat.mul_add, Nat.mul_add]
  have e1 : 4294967296 * x1 * (4294967296 * y1) = x1 * y1 * 18446744073709551616 := by
    rw [Nat.mul_mul_mul_comm]; omega
  have e2 : 4294967296 * x1 * y0 = x1 * y0 * 4294967296 := by rw [Nat.mul_assoc, Nat.mul_comm]
  have e3 : x0 * (4294967296 * y1) = x0 * y1 * 4294967296 := by rw [Nat.mul_left_comm, Nat.mul_comm]
  rw [e1, e2, e3]
  omega

theorem mul_lt {a b c d : Nat} (h : a ≤ c) (k : b ≤ d) : a * b ≤ c * d := Nat.mul_le_mul h k

/-- The words of a product. -/
theorem mul64 {a b x0 x1 y0 y1 w0 t w1 w2 v1 : Nat} (ha : a < 18446744073709551616) (hb : b < 18446744073709551616) (hx0 : x0 = a % 4294967296) (hx1 : x1 = a / 4294967296) (hy0 : y0 = b % 4294967296) (hy1 : y1 = b / 4294967296)
    (hw0 : w0 = x0 * y0) (ht : t = x1 * y0 + w0 / 4294967296) (hw1 : w1 = t % 4294967296) (hw2 : w2 = t / 4294967296) (hv1 : v1 = w1 + x0 * y1) :
    t < 18446744073709551616 ∧ v1 < 18446744073709551616 ∧ x1 * y1 + w2 + v1 / 4294967296 = a * b / 18446744073709551616 ∧ x0 * y0 < 18446744073709551616 ∧ x1 * y0 < 18446744073709551616 ∧ x0 * y1 < 18446744073709551616 ∧ x1 * y1 + w2 + v1 / 4294967296 < 18446744073709551616 ∧ x1 * y1 + w2 < 18446744073709551616 ∧ x1 * y1 < 18446744073709551616 := by
  have hs := mul_split a b
  rw [← hx0, ← hx1, ← hy0, ← hy1] at hs
  have h00 : x0 * y0 ≤ 4294967295 * 4294967295 := mul_lt (by omega) (by omega)
  have h10 : x1 * y0 ≤ 4294967295 * 4294967295 := mul_lt (by omega) (by omega)
  have h01 : x0 * y1 ≤ 4294967295 * 4294967295 := mul_lt (by omega) (by omega)
  have h11 : x1 * y1 ≤ 4294967295 * 4294967295 := mul_lt (by omega) (by omega)
  generalize x0 * y0 = p00 at *
  generalize x1 * y0 = p10 at *
  generalize x0 * y1 = p01 at *
  generalize x1 * y1 = p11 at *
  generalize a * b = m at *
  omega

theorem mulP {x y hi lo : Nat} (hx : x < PP) (hy : y < PP) (hhi : hi = x * y / 18446744073709551616) (hlo : lo = x * y % 18446744073709551616) :
    hi * 8 + lo / 2305843009213693952 + lo % 2305843009213693952 < 18446744073709551616 ∧ hi * 8 < 18446744073709551616 ∧ hi * 8 + lo / 2305843009213693952 < 18446744073709551616 ∧ (hi * 8 + lo / 2305843009213693952 + lo % 2305843009213693952) % PP = x * y % PP := by
  have h1 : x * y ≤ 2305843009213693950 * 2305843009213693950 := mul_lt (by unfold PP at hx; omega) (by unfold PP at hy; omega)
  refine ⟨by omega, by omega, by omega, ?_⟩
  rw [← fold61]
  congr 1
  generalize x * y = m at *
  omega

theorem pow_half (a n : Nat) : a ^ n = (a * a) ^ (n / 2) * a ^ (n % 2) := by
  conv => lhs; rw [← Nat.div_add_mod n 2]
  rw [Nat.pow_add, Nat.pow_mul, Nat.pow_two]

theorem mod_mul_mod (a b : Nat) : (a % PP) * (b % PP) % PP = a * b % PP := (Nat.mul_mod a b PP).symm
theorem mod_mul_left (a b : Nat) : (a % PP) * b % PP = a * b % PP := by rw [Nat.mul_mod, Nat.mod_mod, ← Nat.mul_mod]
theorem mod_mul_right (a b : Nat) : a * (b % PP) % PP = a * b % PP := by rw [Nat.mul_mod, Nat.mod_mod, ← Nat.mul_mod]
theorem mod_pow (a n : Nat) : (a % PP) ^ n % PP = a ^ n % PP := (Nat.pow_mod a n PP).symm
theorem mod_add_mod' (a b : Nat) : (a % PP + b % PP) % PP = (a + b) % PP := (Nat.add_mod a b PP).symm

/-- One round of a power by squaring. -/
theorem pow_round1 {r a n t : Nat} (h : r * a ^ n % PP = t) (hn : n % 2 = 1) : (r * a % PP) * (a * a % PP) ^ (n / 2) % PP = t := by
  rw [← h, mod_mul_left, ← mod_mul_right, mod_pow, mod_mul_right]
  rw [pow_half a n, hn, Nat.pow_one]
  congr 1
  ac_rfl
theorem pow_round0 {r a n t : Nat} (h : r * a ^ n % PP = t) (hn : n % 2 ≠ 1) : r * (a * a % PP) ^ (n / 2) % PP = t := by
  rw [← h, ← mod_mul_right, mod_pow, mod_mul_right]
  rw [pow_half a n, show n % 2 = 0 by omega, Nat.pow_zero, Nat.mul_one]

/-- One round of a product by doubling. -/
theorem shr_bit (n i : Nat) : n / 2 ^ i = 2 * (n / 2 ^ (i + 1)) + n / 2 ^ i % 2 := by
  rw [Nat.pow_succ, ← Nat.div_div_eq_div_mul]
  omega
theorem dbl_round {a b i : Nat} : ((a * (b / 2 ^ (i + 1)) % PP + a * (b / 2 ^ (i + 1)) % PP) % PP + (if b / 2 ^ i % 2 = 1 then a else 0)) % PP = a * (b / 2 ^ i) % PP := by
  have h := shr_bit b i
  generalize b / 2 ^ (i + 1) = q at *
  generalize hr : b / 2 ^ i % 2 = r at *
  rw [h, Nat.mul_add]
  have e : a * (2 * q) = a * q + a * q := by rw [Nat.mul_left_comm]; omega
  rw [e, mod_add_mod']
  have hr2 : r < 2 := by omega
  rw [Nat.add_mod, Nat.mod_mod, ← Nat.add_mod]
  congr 2
  rcases (show r = 0 ∨ r = 1 by omega) with rfl | rfl <;> simp
theorem sq_round {a n i : Nat} : ((a ^ (n / 2 ^ (i + 1)) % PP) * (a ^ (n / 2 ^ (i + 1)) % PP) % PP * (if n / 2 ^ i % 2 = 1 then a else 1)) % PP = a ^ (n / 2 ^ i) % PP := by
  have h := shr_bit n i
  generalize n / 2 ^ (i + 1) = q at *
  generalize hr : n / 2 ^ i % 2 = r at *
  rw [h, Nat.pow_add, mod_mul_mod, mod_mul_left]
  have e : a ^ (2 * q) = a ^ q * a ^ q := by rw [Nat.mul_comm 2 q, Nat.pow_mul, Nat.pow_two]
  rw [e]
  have hr2 : r < 2 := by omega
  rcases (show r = 0 ∨ r = 1 by omega) with rfl | rfl <;> simp
end Go.Proofs.Ytagoedllflalpaa
