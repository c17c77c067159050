/- Line feeds of texts. Plain Lean: no program in sight. -/
import Derived.Test.YtagoedllflalpaaAccM
namespace Go.Proofs.Ytagoedllflalpaa
open Go.EG
set_option linter.unusedSimpArgs false
set_option linter.unusedVariables false

/-- The offset of a line feed, counted from 0. -/
def feedN : List Nat → Nat → Nat
  | [], _ => 0
  | x :: t, k => if x = 10 then (if k = 0 then 0 else 1 + feedN t (k - 1)) else 1 + feedN t k
theorem lines_cons (x : Nat) (t : List Nat) : linesN (x :: t) = linesN t + (if x = 10 then 1 else 0) := by
  unfold linesN
  rw [List.count_cons]
  by_cases h : x = 10 <;> simp [h]
theorem feed_left : ∀ {s : List Nat} {k : Nat} (t : List Nat), k < linesN s → feedN (s ++ t) k = feedN s k
  | [], k, t, h => by simp [linesN] at h
  | x :: s, k, t, h => by
    rw [lines_cons] at h
    simp only [List.cons_append, feedN]
    by_cases hx : x = 10
    · rw [if_pos hx] at h ⊢
      rw [if_pos hx]
      by_cases hk : k = 0
      · rw [if_pos hk, if_pos hk]
      · rw [if_neg hk, if_neg hk, feed_left t (by omega)]
    · rw [if_neg hx] at h ⊢
      rw [if_neg hx, feed_left t (by omega)]
theorem feed_right : ∀ {s : List Nat} {k : Nat} (t : List Nat), linesN s ≤ k → feedN (s ++ t) k = s.length + feedN t (k - linesN s)
  | [], k, t, h => by simp [linesN]
  | x :: s, k, t, h => by
    rw [lines_cons] at h ⊢
    simp only [List.cons_append, feedN, List.length_cons]
    by_cases hx : x = 10
    · rw [if_pos hx] at h ⊢
      rw [if_pos hx, if_neg (by omega), feed_right t (by omega), show k - 1 - linesN s = k - (linesN s + 1) by omega]; omega
    · rw [if_neg hx] at h ⊢
      rw [if_neg hx]
      simp only [Nat.add_zero] at h ⊢
      rw [feed_right t h]; omega
theorem feed_rep {t : List Nat} (h0 : 0 < linesN t) : ∀ {n k : Nat}, k < n * linesN t → feedN (rep n t) k = k / linesN t * t.length + feedN t (k % linesN t)
  | 0, k, h => by omega
  | n + 1, k, h => by
    rw [rep_succ]
    by_cases hk : k < linesN t
    · rw [feed_left _ hk, Nat.div_eq_of_lt hk, Nat.mod_eq_of_lt hk]; omega
    · rw [feed_right _ (by omega), feed_rep h0 (by rw [Nat.succ_mul] at h; omega)]
      have e : k = (k - linesN t) + linesN t := by omega
      conv => rhs; rw [e, Nat.add_mod_right, Nat.add_div_right _ h0, Nat.succ_mul]
      omega
theorem feed_lt : ∀ {t : List Nat} {k : Nat}, k < linesN t → feedN t k < t.length ∧ t.getD (feedN t k) 0 = 10 ∧ linesN (t.take (feedN t k)) = k
  | [], k, h => by simp [linesN] at h
  | x :: t, k, h => by
    rw [lines_cons] at h
    simp only [feedN, List.length_cons]
    by_cases hx : x = 10
    · rw [if_pos hx] at h ⊢
      by_cases hk : k = 0
      · rw [if_pos hk]
        exact ⟨by omega, hx, by rw [hk]; rfl⟩
      · rw [if_neg hk]
        obtain ⟨h1, h2, h3⟩ := feed_lt (t := t) (k := k - 1) (by omega)
        refine ⟨by omega, ?_, ?_⟩
        · rw [Nat.add_comm 1, List.getD_cons_succ]; exact h2
        · rw [Nat.add_comm 1, List.take_succ_cons, lines_cons, if_pos hx, h3]; omega
    · rw [if_neg hx] at h ⊢
      obtain ⟨h1, h2, h3⟩ := feed_lt (t := t) (k := k) (by omega)
      refine ⟨by omega, ?_, ?_⟩
      · rw [Nat.add_comm 1, List.getD_cons_succ]; exact h2
      · rw [Nat.add_comm 1, List.take_succ_cons, lines_cons, if_neg hx, h3, Nat.add_zero]
theorem lines_take_le (t : List Nat) (i : Nat) : linesN (t.take i) ≤ linesN t := by
  conv => rhs; rw [← List.take_append_drop i t, lines_append]
  omega
theorem lines_take_mono (t : List Nat) {i j : Nat} (h : i ≤ j) : linesN (t.take i) ≤ linesN (t.take j) := by
  obtain ⟨d, rfl⟩ : ∃ d, j = i + d := ⟨j - i, by omega⟩
  rw [List.take_add, lines_append]; omega
/-- Line feeds rise. -/
theorem feed_mono {t : List Nat} {j k : Nat} (hjk : j < k) (hk : k < linesN t) : feedN t j < feedN t k := by
  obtain ⟨a1, a2, a3⟩ := feed_lt (t := t) (k := j) (by omega)
  obtain ⟨b1, b2, b3⟩ := feed_lt hk
  rcases Nat.lt_or_ge (feedN t j) (feedN t k) with h | h
  · exact h
  · have := lines_take_mono t h
    omega
/-- Where a line begins, and how many letters it has. -/
def lineS (t : List Nat) (i : Nat) : Nat := if i = 0 then 0 else feedN t (i - 1) + 1
def lineE (t : List Nat) (i : Nat) : Nat := if i < linesN t then feedN t i else t.length
theorem line_le {t : List Nat} {i : Nat} (h : i ≤ linesN t) : lineS t i ≤ lineE t i ∧ lineE t i ≤ t.length := by
  unfold lineS lineE
  by_cases h0 : i = 0
  · rw [if_pos h0]
    split
    · rename_i h1
      have := (feed_lt h1).1
      omega
    · omega
  · rw [if_neg h0]
    have h2 := (feed_lt (t := t) (k := i - 1) (by omega)).1
    split
    · rename_i h1
      have := (feed_lt h1).1
      have := feed_mono (t := t) (j := i - 1) (k := i) (by omega) h1
      omega
    · omega
/-- The lines of a prefix, and the letters behind its last line feed. -/
theorem tail_take {t : List Nat} {i : Nat} (h : i ≤ t.length) : lineS t (linesN (t.take i)) + tailN (t.take i) = i ∧ linesN (t.take i) ≤ linesN t := by
  have hle := lines_take_le t i
  refine ⟨?_, hle⟩
  have hlen : (t.take i).length = i := by simp; omega
  by_cases h0 : linesN (t.take i) = 0
  · rw [tail_zero h0, hlen, h0, lineS, if_pos rfl, Nat.zero_add]
  · rw [lineS, if_neg h0]
    have hf : feedN t (linesN (t.take i) - 1) = feedN (t.take i) (linesN (t.take i) - 1) := by
      have := feed_left (s := t.take i) (k := linesN (t.take i) - 1) (t.drop i) (by omega)
      rw [List.take_append_drop] at this
      exact this
    rw [hf]
    generalize hu : t.take i = u at *
    obtain ⟨f1, f2, f3⟩ := feed_lt (t := u) (k := linesN u - 1) (by omega)
    generalize feedN u (linesN u - 1) = p at *
    have hd : u = u.take (p + 1) ++ u.drop (p + 1) := (List.take_append_drop _ _).symm
    have ht1 : u.take (p + 1) = u.take p ++ [10] := by
      rw [List.take_add_one]
      congr 1
      rw [List.getD_eq_getElem?_getD, List.getElem?_eq_getElem f1] at f2
      rw [List.getElem?_eq_getElem f1]
      simp at f2
      simp [f2]
    have hz : linesN (u.drop (p + 1)) = 0 := by
      have := congrArg linesN hd
      rw [lines_append, ht1, lines_append, f3] at this
      simp [linesN] at this
      unfold linesN
      omega
    have ht : tailN u = (u.drop (p + 1)).length := by
      conv => lhs; rw [hd]
      rw [tail_append, if_pos hz, ht1, tail_append]
      have : linesN [10] ≠ 0 := by decide
      rw [if_neg this]
      have : tailN [10] = 0 := rfl
      omega
    rw [ht, List.length_drop, hlen]
    omega
end Go.Proofs.Ytagoedllflalpaa
