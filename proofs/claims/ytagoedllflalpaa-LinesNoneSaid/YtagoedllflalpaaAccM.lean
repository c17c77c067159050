/- Letters, ranges and ways in texts of rules. Plain Lean: no program in sight. -/
import Derived.Test.YtagoedllflalpaaSTm
namespace Go.Proofs.Ytagoedllflalpaa
open Go.EG
set_option linter.unusedSimpArgs false
set_option linter.unusedVariables false

/-! ### Repeated texts -/

theorem rep_getD {t : List Nat} : ∀ {k i : Nat}, i < k * t.length → (rep k t).getD i 0 = t.getD (i % t.length) 0
  | 0, i, h => by omega
  | k + 1, i, h => by
    rw [rep_succ]
    by_cases hi : i < t.length
    · rw [getD_append_left hi, Nat.mod_eq_of_lt hi]
    · rw [List.getD_eq_getElem?_getD, List.getElem?_append_right (by omega), ← List.getD_eq_getElem?_getD, rep_getD (by rw [Nat.succ_mul] at h; omega)]
      conv => rhs; rw [show i = (i - t.length) + t.length by omega, Nat.add_mod_right]
theorem getD_append_right' {s t : List Nat} {i : Nat} (h : s.length ≤ i) : (s ++ t).getD i 0 = t.getD (i - s.length) 0 := by
  rw [List.getD_eq_getElem?_getD, List.getElem?_append_right h, ← List.getD_eq_getElem?_getD]
theorem rep_drop_mul {t : List Nat} {k q : Nat} (h : q ≤ k) : (rep k t).drop (q * t.length) = rep (k - q) t := by
  obtain ⟨j, rfl⟩ : ∃ j, k = q + j := ⟨k - q, by omega⟩
  rw [rep_add, List.drop_append_of_le_length (by rw [rep_length]; exact Nat.le_refl _), List.drop_eq_nil_of_le (by rw [rep_length]; exact Nat.le_refl _), List.nil_append]
  congr 1; omega
theorem rep_take_mul {t : List Nat} {k q : Nat} (h : q ≤ k) : (rep k t).take (q * t.length) = rep q t := by
  obtain ⟨j, rfl⟩ : ∃ j, k = q + j := ⟨k - q, by omega⟩
  rw [rep_add, List.take_append_of_le_length (by rw [rep_length]; exact Nat.le_refl _), List.take_of_length_le (by rw [rep_length]; exact Nat.le_refl _)]

/-- A range of a text. -/
def sub (t : List Nat) (i n : Nat) : List Nat := (t.drop i).take n
theorem sub_length {t : List Nat} {i n : Nat} (h : i + n ≤ t.length) : (sub t i n).length = n := by simp [sub]; omega
theorem sub_zero (t : List Nat) (i : Nat) : sub t i 0 = [] := by simp [sub]
theorem sub_all (t : List Nat) : sub t 0 t.length = t := by simp [sub]
theorem sub_add (t : List Nat) (i m n : Nat) : sub t i (m + n) = sub t i m ++ sub t (i + m) n := by
  unfold sub
  rw [List.take_add, List.drop_drop]
theorem sub_append_left {s t : List Nat} {i n : Nat} (h : i + n ≤ s.length) : sub (s ++ t) i n = sub s i n := by
  unfold sub
  rw [List.drop_append_of_le_length (by omega), List.take_append_of_le_length (by simp; omega)]
theorem sub_append_right {s t : List Nat} {i n : Nat} (h : s.length ≤ i) : sub (s ++ t) i n = sub t (i - s.length) n := by
  unfold sub
  rw [List.drop_append, List.drop_eq_nil_of_le h, List.nil_append]
/-- A range of two texts, one after the other. -/
theorem sub_pair {s t : List Nat} {i n : Nat} (h : i + n ≤ s.length + t.length) : sub (s ++ t) i n = sub s (min i s.length) (min (s.length - i) n) ++ sub t (i - s.length) (n - min (s.length - i) n) := by
  by_cases h1 : s.length ≤ i
  · rw [sub_append_right h1, show s.length - i = 0 by omega, Nat.zero_min, sub_zero, List.nil_append, Nat.sub_zero]
  · by_cases h2 : i + n ≤ s.length
    · rw [sub_append_left h2, show min i s.length = i by omega, show min (s.length - i) n = n by omega, Nat.sub_self, sub_zero, List.append_nil]
    · rw [show min i s.length = i by omega, show min (s.length - i) n = s.length - i by omega, show i - s.length = 0 by omega]
      conv => lhs; rw [show n = (s.length - i) + (n - (s.length - i)) by omega, sub_add]
      rw [sub_append_left (by omega), show i + (s.length - i) = s.length by omega, sub_append_right (Nat.le_refl _), Nat.sub_self]
theorem sub_rep_mod {t : List Nat} {k i n : Nat} (ht : 0 < t.length) (h : i + n ≤ k * t.length) : sub (rep k t) i n = sub (rep (k - i / t.length) t) (i % t.length) n := by
  have hd := Nat.div_add_mod i t.length
  have hq : i / t.length ≤ k := by
    apply Nat.div_le_of_le_mul
    rw [Nat.mul_comm]; omega
  unfold sub
  rw [← rep_drop_mul hq, List.drop_drop]
  congr 2
  rw [Nat.mul_comm] at hd
  omega
/-- A range of a repeated text: within a copy; or the end of a copy, whole copies, the beginning of a copy. -/
theorem sub_rep_in {t : List Nat} {k i n : Nat} (ht : 0 < t.length) (h : i + n ≤ k * t.length) (h1 : i % t.length + n ≤ t.length) (hn : 0 < n) : sub (rep k t) i n = sub t (i % t.length) n := by
  rw [sub_rep_mod ht h]
  have hk : 0 < k - i / t.length := by
    have : i / t.length < k := by
      rw [Nat.div_lt_iff_lt_mul ht]; omega
    omega
  obtain ⟨j, hj⟩ : ∃ j, k - i / t.length = j + 1 := ⟨k - i / t.length - 1, by omega⟩
  rw [hj, rep_succ, sub_append_left h1]
theorem sub_rep_out {t : List Nat} {k i n : Nat} (ht : 0 < t.length) (h : i + n ≤ k * t.length) (h1 : t.length < i % t.length + n) :
    sub (rep k t) i n = sub t (i % t.length) ((t.length - i % t.length) % t.length) ++ rep ((n - (t.length - i % t.length) % t.length) / t.length) t ++ sub t 0 ((n - (t.length - i % t.length) % t.length) % t.length) := by
  have hm := Nat.mod_lt i ht
  -- whole copies from the beginning
  have whole : ∀ {k n : Nat}, n ≤ k * t.length → sub (rep k t) 0 n = rep (n / t.length) t ++ sub t 0 (n % t.length) := by
    intro k n hkn
    have hd := Nat.div_add_mod n t.length
    have hq : n / t.length ≤ k := by
      apply Nat.div_le_of_le_mul
      rw [Nat.mul_comm]; exact hkn
    conv => lhs; rw [← hd, Nat.mul_comm, sub_add, Nat.zero_add]
    congr 1
    · unfold sub; rw [List.drop_zero, rep_take_mul hq]
    · unfold sub
      rw [rep_drop_mul hq, List.drop_zero]
      by_cases h0 : n % t.length = 0
      · rw [h0]; simp
      · have : n / t.length < k := by
          rw [Nat.mul_comm] at hd
          rcases Nat.lt_or_ge (n / t.length) k with h | h
          · exact h
          · have : k * t.length ≤ n / t.length * t.length := Nat.mul_le_mul_right _ h
            omega
        obtain ⟨j, hj⟩ : ∃ j, k - n / t.length = j + 1 := ⟨k - n / t.length - 1, by omega⟩
        rw [hj, rep_succ, List.take_append_of_le_length (Nat.le_of_lt (Nat.mod_lt _ ht))]
  by_cases h0 : i % t.length = 0
  · rw [sub_rep_mod ht h, h0, Nat.sub_zero, Nat.mod_self, sub_zero, List.nil_append, Nat.sub_zero]
    refine whole ?_
    have hd := Nat.div_add_mod i t.length
    rw [h0, Nat.add_zero, Nat.mul_comm] at hd
    rw [Nat.sub_mul, hd]; omega
  · have e1 : (t.length - i % t.length) % t.length = t.length - i % t.length := Nat.mod_eq_of_lt (by omega)
    rw [e1, sub_rep_mod ht h]
    have hd := Nat.div_add_mod i t.length
    have hq : i / t.length < k := by
      rw [Nat.div_lt_iff_lt_mul ht]; omega
    obtain ⟨j, hj⟩ : ∃ j, k - i / t.length = j + 1 := ⟨k - i / t.length - 1, by omega⟩
    rw [hj, rep_succ]
    conv => lhs; rw [show n = (t.length - i % t.length) + (n - (t.length - i % t.length)) by omega, sub_add]
    rw [sub_append_left (by omega), show i % t.length + (t.length - i % t.length) = t.length by omega, sub_append_right (Nat.le_refl _), Nat.sub_self, whole, List.append_assoc]
    have hk : k = j + 1 + i / t.length := by omega
    rw [hk, Nat.add_mul, Nat.add_mul, Nat.one_mul] at h
    rw [Nat.mul_comm] at hd
    omega

/-! ### The way to a letter -/

/-- The letter of a rule, and what lies below it. -/
theorem WF.below {S : Sto} (hw : WF S) {n : Int} (h1 : 1 ≤ n) (h2 : n ≤ S.E.length) :
    ((atE S.E n).r.k = 1 ∧ tm S.E n = .lt (atE S.E n).r.l.toNat) ∨
    ((atE S.E n).r.k = 2 ∧ tm S.E n = .pr (tm S.E (atE S.E n).r.a) (tm S.E (atE S.E n).r.b) ∧ 1 ≤ (atE S.E n).r.a ∧ (atE S.E n).r.a < n ∧ 1 ≤ (atE S.E n).r.b ∧ (atE S.E n).r.b < n) ∨
    ((atE S.E n).r.k = 3 ∧ tm S.E n = .pw (tm S.E (atE S.E n).r.a) (atE S.E n).r.t.toNat ∧ 1 ≤ (atE S.E n).r.a ∧ (atE S.E n).r.a < n ∧ 2 ≤ (atE S.E n).r.t) := by
  obtain ⟨hr, _, ht, _, _⟩ := hw.at_ h1 h2
  rcases hr with hr | ⟨e1, e2, e3, e4, e5, e6, e7⟩ | ⟨e1, e2, e3, e4, e5, e6⟩
  · exact .inl ⟨hr.1, by rw [ht, mkT, if_pos hr.1]⟩
  · exact .inr (.inl ⟨e1, by rw [ht, mkT, if_neg (by omega), if_pos e1], e4, e5, e6, e7⟩)
  · exact .inr (.inr ⟨e1, by rw [ht, mkT, if_neg (by omega), if_neg (by omega)], e5, e6, e4⟩)

def pathL (E : List Entr) (n : Int) (i : Nat) : List Int :=
  if (atE E n).r.k = 1 then [n]
  else if (atE E n).r.k = 3 then (if h : 0 ≤ (atE E n).r.a ∧ (atE E n).r.a < n then n :: pathL E (atE E n).r.a (i % (tm E (atE E n).r.a).len) else [])
  else if i < (tm E (atE E n).r.a).len then (if h : 0 ≤ (atE E n).r.a ∧ (atE E n).r.a < n then n :: pathL E (atE E n).r.a i else [])
  else (if h : 0 ≤ (atE E n).r.b ∧ (atE E n).r.b < n then n :: pathL E (atE E n).r.b (i - (tm E (atE E n).r.a).len) else [])
termination_by n.toNat
decreasing_by all_goals omega

section
variable {S : Sto} (hw : WF S) {n : Int} {i : Nat}
theorem pathL_let (hk : (atE S.E n).r.k = 1) : pathL S.E n i = [n] := by rw [pathL, if_pos hk]
theorem pathL_pow (hk : (atE S.E n).r.k = 3) (h1 : 1 ≤ (atE S.E n).r.a) (h2 : (atE S.E n).r.a < n) : pathL S.E n i = n :: pathL S.E (atE S.E n).r.a (i % (tm S.E (atE S.E n).r.a).len) := by
  rw [pathL, if_neg (by omega), if_pos hk, dif_pos ⟨by omega, h2⟩]
theorem pathL_left (hk : (atE S.E n).r.k = 2) (h1 : 1 ≤ (atE S.E n).r.a) (h2 : (atE S.E n).r.a < n) (hi : i < (tm S.E (atE S.E n).r.a).len) : pathL S.E n i = n :: pathL S.E (atE S.E n).r.a i := by
  rw [pathL, if_neg (by omega), if_neg (by omega), if_pos hi, dif_pos ⟨by omega, h2⟩]
theorem pathL_right (hk : (atE S.E n).r.k = 2) (h1 : 1 ≤ (atE S.E n).r.b) (h2 : (atE S.E n).r.b < n) (hi : ¬ i < (tm S.E (atE S.E n).r.a).len) : pathL S.E n i = n :: pathL S.E (atE S.E n).r.b (i - (tm S.E (atE S.E n).r.a).len) := by
  rw [pathL, if_neg (by omega), if_neg (by omega), if_neg hi, dif_pos ⟨by omega, h2⟩]
theorem Tm.len_pr (a b : Tm) : (Tm.pr a b).len = a.len + b.len := by unfold Tm.len; rw [Tm.txt, List.length_append]
theorem Tm.len_pw (a : Tm) (k : Nat) : (Tm.pw a k).len = k * a.len := by unfold Tm.len; rw [Tm.txt, rep_length]
theorem Tm.at_pow {a : Tm} {k i : Nat} (h : i < k * a.len) : (Tm.pw a k).txt.getD i 0 = a.txt.getD (i % a.len) 0 := rep_getD h
theorem Tm.at_left {a b : Tm} {i : Nat} (h : i < a.len) : (Tm.pr a b).txt.getD i 0 = a.txt.getD i 0 := getD_append_left h
theorem Tm.at_right {a b : Tm} {i : Nat} (h : ¬ i < a.len) : (Tm.pr a b).txt.getD i 0 = b.txt.getD (i - a.len) 0 := getD_append_right' (by unfold Tm.len at h; omega)

/-- The way is no longer than the depth allows, and ends at the letter. -/
theorem pathL_spec (hw : WF S) : ∀ (f : Nat) (n : Int) (i : Nat), n.toNat ≤ f → 1 ≤ n → n ≤ S.E.length → i < (tm S.E n).len →
    (pathL S.E n i).length ≤ (tm S.E n).dep + 1 ∧ ∃ l m, pathL S.E n i = l ++ [m] ∧ 1 ≤ m ∧ m ≤ n ∧ (atE S.E m).r.k = 1 ∧ (atE S.E m).r.l = ((tm S.E n).txt.getD i 0 : Nat)
  | 0, n, i, hf, h1, h2, hi => by omega
  | f + 1, n, i, hf, h1, h2, hi => by
    rcases hw.below h1 h2 with ⟨hk, ht⟩ | ⟨hk, ht, a1, a2, b1, b2⟩ | ⟨hk, ht, a1, a2, ht2⟩
    · rw [pathL_let hk, ht]
      refine ⟨Nat.le_refl 1, [], n, rfl, h1, Int.le_refl _, hk, ?_⟩
      rw [ht] at hi
      have : i = 0 := by simp only [Tm.len, Tm.txt, List.length_cons, List.length_nil] at hi; omega
      subst this
      have := (hw.at_ h1 h2).2.1
      simp only [Tm.txt, List.getD_cons_zero]; omega
    · rw [ht] at hi ⊢
      rw [Tm.len_pr] at hi
      by_cases hl : i < (tm S.E (atE S.E n).r.a).len
      · rw [pathL_left hk a1 a2 hl, Tm.at_left hl]
        obtain ⟨q1, l, m, q2, q3, q4, q5, q6⟩ := pathL_spec hw f (atE S.E n).r.a i (by omega) a1 (by omega) hl
        refine ⟨by simp only [List.length_cons, Tm.dep]; omega, n :: l, m, by rw [q2]; rfl, q3, by omega, q5, q6⟩
      · rw [pathL_right hk b1 b2 hl, Tm.at_right hl]
        obtain ⟨q1, l, m, q2, q3, q4, q5, q6⟩ := pathL_spec hw f (atE S.E n).r.b (i - (tm S.E (atE S.E n).r.a).len) (by omega) b1 (by omega) (by omega)
        refine ⟨by simp only [List.length_cons, Tm.dep]; omega, n :: l, m, by rw [q2]; rfl, q3, by omega, q5, q6⟩
    · rw [ht] at hi ⊢
      rw [Tm.len_pw] at hi
      have hp := hw.pos1 a1 (by omega)
      rw [pathL_pow hk a1 a2, Tm.at_pow hi]
      obtain ⟨q1, l, m, q2, q3, q4, q5, q6⟩ := pathL_spec hw f (atE S.E n).r.a (i % (tm S.E (atE S.E n).r.a).len) (by omega) a1 (by omega) (Nat.mod_lt _ (by omega))
      refine ⟨by simp only [List.length_cons, Tm.dep]; omega, n :: l, m, by rw [q2]; rfl, q3, by omega, q5, q6⟩
end
end Go.Proofs.Ytagoedllflalpaa
