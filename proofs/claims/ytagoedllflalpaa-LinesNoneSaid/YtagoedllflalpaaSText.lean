/- Texts, their weights and digests. Plain Lean: no program in sight. -/
import Derived.Test.YtagoedllflalpaaSMath
namespace Go.Proofs.Ytagoedllflalpaa
open Go.EG

abbrev BB : Nat := 1103515245

/-- The polynomial of a text, not reduced. -/
def polyF (v : Nat) (t : List Nat) : Nat := t.foldl (fun v b => v * BB + (b + 1)) v
def poly (t : List Nat) : Nat := polyF 0 t
theorem polyF_eq : ∀ (t : List Nat) (v : Nat), polyF v t = v * BB ^ t.length + poly t
  | [], v => by simp [polyF, poly]
  | b :: t, v => by
    have h1 := polyF_eq t (v * BB + (b + 1))
    have h2 := polyF_eq t (0 * BB + (b + 1))
    have e1 : polyF v (b :: t) = polyF (v * BB + (b + 1)) t := rfl
    have e2 : poly (b :: t) = polyF (0 * BB + (b + 1)) t := rfl
    rw [e1, e2, h1, h2, List.length_cons, Nat.pow_succ, Nat.add_mul, Nat.zero_mul, Nat.zero_add, Nat.mul_assoc, Nat.mul_comm BB, Nat.add_assoc]
theorem poly_append (s t : List Nat) : poly (s ++ t) = poly s * BB ^ t.length + poly t := by
  rw [← polyF_eq]
  simp [poly, polyF, List.foldl_append]

def linesN (t : List Nat) : Nat := t.count 10
def headN (t : List Nat) : Nat := (t.takeWhile (· != 10)).length
def tailN (t : List Nat) : Nat := (t.reverse.takeWhile (· != 10)).length

theorem lines_append (s t : List Nat) : linesN (s ++ t) = linesN s + linesN t := List.count_append
theorem takeWhile_all {p : Nat → Bool} : ∀ {s : List Nat}, (∀ x ∈ s, p x = true) → ∀ t, (s ++ t).takeWhile p = s ++ t.takeWhile p
  | [], _, t => rfl
  | x :: s, h, t => by
    rw [List.cons_append, List.takeWhile_cons, if_pos (h x List.mem_cons_self), takeWhile_all (fun y hy => h y (List.mem_cons_of_mem _ hy)), List.cons_append]
theorem takeWhile_stop {p : Nat → Bool} : ∀ {s : List Nat} {x : Nat}, x ∈ s → p x = false → ∀ t, (s ++ t).takeWhile p = s.takeWhile p
  | y :: s, x, hx, hp, t => by
    rw [List.cons_append, List.takeWhile_cons, List.takeWhile_cons]
    by_cases hy : p y = true
    · rw [if_pos hy, if_pos hy]
      rcases List.mem_cons.1 hx with rfl | hx
      · rw [hp] at hy; cases hy
      · rw [takeWhile_stop hx hp]
    · rw [if_neg hy, if_neg hy]
theorem noLine {s : List Nat} (h : linesN s = 0) : ∀ x ∈ s, (x != 10) = true := fun x hx => by
  have : x ≠ 10 := fun hx10 => by
    subst hx10
    exact absurd hx (List.count_eq_zero.1 h)
  simpa using this
theorem hasLine {s : List Nat} (h : linesN s ≠ 0) : 10 ∈ s := by
  apply Classical.byContradiction
  intro hn
  exact h (List.count_eq_zero.2 hn)
theorem head_append (s t : List Nat) : headN (s ++ t) = if linesN s = 0 then s.length + headN t else headN s := by
  unfold headN
  split
  · rename_i h
    rw [takeWhile_all (noLine h), List.length_append]
  · rename_i h
    rw [takeWhile_stop (hasLine h) rfl]
theorem lines_reverse (s : List Nat) : linesN s.reverse = linesN s := List.count_reverse
theorem tail_append (s t : List Nat) : tailN (s ++ t) = if linesN t = 0 then t.length + tailN s else tailN t := by
  have := head_append t.reverse s.reverse
  unfold headN at this
  unfold tailN
  rw [List.reverse_append, this, lines_reverse, List.length_reverse]
theorem head_zero {t : List Nat} (h : linesN t = 0) : headN t = t.length := by
  have := head_append t []
  rw [if_pos h, List.append_nil] at this
  simpa [headN] using this
theorem tail_zero {t : List Nat} (h : linesN t = 0) : tailN t = t.length := by
  have := tail_append [] t
  rw [if_pos h, List.nil_append] at this
  simpa [tailN] using this

/-- Head, lines and tail fit in the length. -/
theorem fit_lines : ∀ t : List Nat, linesN t ≠ 0 → headN t + linesN t + tailN t ≤ t.length ∧ (linesN t = 1 → headN t + 1 + tailN t = t.length)
  | [], h => absurd rfl h
  | x :: t, h => by
    by_cases hx : x = 10
    · subst hx
      have e1 : headN (10 :: t) = 0 := rfl
      have e2 : linesN (10 :: t) = linesN t + 1 := by simp [linesN]
      have e3 : tailN (10 :: t) = if linesN t = 0 then t.length + tailN [10] else tailN t := tail_append [10] t
      have e4 : tailN [10] = 0 := rfl
      by_cases h0 : linesN t = 0
      · rw [if_pos h0, e4] at e3
        rw [e1, e2, e3, h0, List.length_cons]; omega
      · rw [if_neg h0] at e3
        have := fit_lines t h0
        rw [e1, e2, e3, List.length_cons]; omega
    · have e1 : headN (x :: t) = headN t + 1 := by
        unfold headN
        rw [List.takeWhile_cons, if_pos (by simpa using hx), List.length_cons]
      have e2 : linesN (x :: t) = linesN t := by simp [linesN, hx]
      have e3 : tailN (x :: t) = if linesN t = 0 then t.length + tailN [x] else tailN t := tail_append [x] t
      rw [e2] at h ⊢
      rw [if_neg h] at e3
      have := fit_lines t h
      rw [e1, e3, List.length_cons]; omega

/-- A text, k times. -/
def rep (k : Nat) (t : List Nat) : List Nat := (List.replicate k t).flatten
theorem rep_zero (t : List Nat) : rep 0 t = [] := rfl
theorem rep_one (t : List Nat) : rep 1 t = t := by simp [rep]
theorem rep_succ (k : Nat) (t : List Nat) : rep (k + 1) t = t ++ rep k t := by simp [rep, List.replicate_succ]
theorem rep_add (j k : Nat) (t : List Nat) : rep (j + k) t = rep j t ++ rep k t := by
  rw [rep, ← List.replicate_append_replicate, List.flatten_append]; rfl
theorem rep_length (k : Nat) (t : List Nat) : (rep k t).length = k * t.length := by simp [rep]
theorem rep_lines (k : Nat) (t : List Nat) : linesN (rep k t) = k * linesN t := by
  induction k with
  | zero => simp [rep_zero, linesN]
  | succ k ih => rw [rep_succ, lines_append, ih, Nat.succ_mul]; omega
theorem rep_head {k : Nat} (hk : 0 < k) (t : List Nat) (h : linesN t ≠ 0) : headN (rep k t) = headN t := by
  obtain ⟨j, rfl⟩ : ∃ j, k = j + 1 := ⟨k - 1, by omega⟩
  rw [rep_succ, head_append, if_neg h]
theorem rep_tail {k : Nat} (hk : 0 < k) (t : List Nat) (h : linesN t ≠ 0) : tailN (rep k t) = tailN t := by
  obtain ⟨j, rfl⟩ : ∃ j, k = j + 1 := ⟨k - 1, by omega⟩
  rw [rep_add, rep_one, tail_append, if_neg h]

structure Wt where
  len : Nat
  lines : Nat
  head : Nat
  tail : Nat
  val : Nat
  scale : Nat
def valN (t : List Nat) : Nat := poly t % PP
def scaleN (t : List Nat) : Nat := BB ^ t.length % PP
def wtN (t : List Nat) : Wt := ⟨t.length, linesN t, headN t, tailN t, valN t, scaleN t⟩
theorem valN_lt (t : List Nat) : valN t < PP := Nat.mod_lt _ (by decide)
theorem scaleN_lt (t : List Nat) : scaleN t < PP := Nat.mod_lt _ (by decide)
theorem valN_append (s t : List Nat) : (valN s * scaleN t % PP + valN t) % PP = valN (s ++ t) := by
  unfold valN scaleN
  rw [poly_append, mod_mul_mod, mod_add_mod']
theorem scaleN_append (s t : List Nat) : scaleN s * scaleN t % PP = scaleN (s ++ t) := by
  unfold scaleN
  rw [mod_mul_mod, List.length_append, Nat.pow_add]
end Go.Proofs.Ytagoedllflalpaa
