/- Runs, stretches and pairs of rows of numbers: plain facts. No condition. -/
import Derived.Test.YticiljgbjdcmlaaDoorUse
namespace Go.Proofs.YticiljgbjdcmlaaDoor
set_option linter.unusedSimpArgs false

theorem getD_drop (xs : List Int) (i j : Nat) : (xs.drop i).getD j 0 = xs.getD (i + j) 0 := by
  simp [List.getD_eq_getElem?_getD, List.getElem?_drop]

/-! ### Runs -/

def runs : List Int → List (Int × Int)
  | [] => []
  | x :: xs => match runs xs with
    | [] => [(x, 1)]
    | (y, t) :: r => if x = y then (y, t + 1) :: r else (x, 1) :: (y, t) :: r

theorem runs_head : ∀ (xs : List Int), (runs xs).head?.map (·.1) = xs.head?
  | [] => rfl
  | x :: xs => by
    simp only [runs]
    cases h : runs xs with
    | nil => rfl
    | cons g r =>
      obtain ⟨y, t⟩ := g
      by_cases hxy : x = y
      · simp [hxy]
      · simp [hxy]

theorem runs_length : ∀ (xs : List Int), (runs xs).length ≤ xs.length
  | [] => Nat.le_refl _
  | x :: xs => by
    have ih := runs_length xs
    simp only [runs]
    cases h : runs xs with
    | nil => simp
    | cons g r =>
      obtain ⟨y, t⟩ := g
      rw [h] at ih
      by_cases hxy : x = y
      · simp only [hxy, if_true, List.length_cons] at ih ⊢; omega
      · simp only [hxy, if_false, List.length_cons] at ih ⊢; omega

theorem runs_rep (x : Int) (ys : List Int) (h : ys.head? ≠ some x) : ∀ m : Nat, runs (List.replicate (m + 1) x ++ ys) = (x, (m : Int) + 1) :: runs ys
  | 0 => by
    have h1 := runs_head ys
    simp only [List.replicate_succ, List.replicate_zero, List.cons_append, List.nil_append, runs]
    cases hr : runs ys with
    | nil => rfl
    | cons g r =>
      obtain ⟨y, t⟩ := g
      rw [hr] at h1
      have hxy : ¬ x = y := by
        rintro rfl
        exact h h1.symm
      simp [hxy]
  | m + 1 => by
    have ih := runs_rep x ys h m
    rw [List.replicate_succ, List.cons_append]
    simp only [runs]
    rw [ih]
    simp

theorem drop_rep (xs : List Int) (x : Int) : ∀ (m i : Nat), i + m ≤ xs.length → (∀ j, j < m → xs.getD (i + j) 0 = x) → xs.drop i = List.replicate m x ++ xs.drop (i + m)
  | 0, i, _, _ => by simp
  | m + 1, i, hl, h => by
    have hi : i < xs.length := by omega
    rw [List.drop_eq_getElem_cons hi, drop_rep xs x m (i + 1) (by omega) (fun j hj => by rw [show i + 1 + j = i + (j + 1) from by omega]; exact h _ (by omega))]
    have h0 := h 0 (by omega)
    simp only [Nat.add_zero, List.getD_eq_getElem?_getD, List.getElem?_eq_getElem hi, Option.getD_some] at h0
    rw [h0, List.replicate_succ, List.cons_append, show i + 1 + m = i + (m + 1) from by omega]

theorem head_drop (xs : List Int) (i : Nat) : (xs.drop i).head? = xs[i]? := by
  rw [List.head?_drop]

/-- A block of equal elements, which ends there. -/
structure Block (xs : List Int) (i k : Nat) : Prop where
  lt : i < k
  le : k ≤ xs.length
  all : ∀ j, i ≤ j → j < k → xs.getD j 0 = xs.getD i 0
  stop : k < xs.length → xs.getD k 0 ≠ xs.getD i 0

theorem Block.runs {xs : List Int} {i k : Nat} (h : Block xs i k) : runs (xs.drop i) = (xs.getD i 0, ((k : Int) - i)) :: runs (xs.drop k) := by
  obtain ⟨h1, h2, h3, h4⟩ := h
  obtain ⟨m, rfl⟩ : ∃ m, k = i + (m + 1) := ⟨k - i - 1, by omega⟩
  rw [drop_rep xs (xs.getD i 0) (m + 1) i (by omega) (fun j hj => h3 _ (by omega) (by omega))]
  rw [runs_rep]
  · congr 2
    omega
  · rw [head_drop]
    intro he
    obtain ⟨hk, he⟩ := List.getElem?_eq_some_iff.1 he
    refine h4 hk ?_
    rw [← he]
    simp [List.getD_eq_getElem?_getD, List.getElem?_eq_getElem hk]

theorem runs_end {xs : List Int} {i : Nat} (h : xs.length ≤ i) : runs (xs.drop i) = [] := by
  rw [List.drop_eq_nil_of_le h]; rfl

/-! ### Stretches -/

def strs : Int → List (Int × Int) → List (Int × Int)
  | _, [] => []
  | o, (_, t) :: r => (if 1 < t then [(o, t)] else []) ++ strs (o + t) r

def stretches (xs : List Int) : List (Int × Int) := strs 0 (runs xs)

theorem strs_length : ∀ (o : Int) (l : List (Int × Int)), (strs o l).length ≤ l.length
  | _, [] => Nat.le_refl _
  | o, (_, t) :: r => by
    have := strs_length (o + t) r
    simp only [strs, List.length_append, List.length_cons]
    split <;> simp <;> omega

/-- What is left from i on. -/
def strFrom (xs : List Int) (i : Nat) : List (Int × Int) := strs i (runs (xs.drop i))

theorem strFrom_zero (xs : List Int) : strFrom xs 0 = stretches xs := by simp [strFrom, stretches]
theorem strFrom_end {xs : List Int} {i : Nat} (h : xs.length ≤ i) : strFrom xs i = [] := by simp [strFrom, runs_end h, strs]
theorem Block.str {xs : List Int} {i k : Nat} (h : Block xs i k) : strFrom xs i = (if 1 < (k : Int) - i then [((i : Int), (k : Int) - i)] else []) ++ strFrom xs k := by
  unfold strFrom
  rw [h.runs]
  simp only [strs]
  rw [show (i : Int) + ((k : Int) - i) = (k : Int) from by omega]
theorem Block.str1 {xs : List Int} {i k : Nat} {z : Int} (h : Block xs i k) (hz : (k : Int) = z) (h1 : 1 < z - i) (out : List (Int × Int)) : out ++ strFrom xs i = (out ++ [((i : Int), z - i)]) ++ strFrom xs k := by
  subst hz
  rw [h.str, if_pos h1, List.append_assoc]
theorem Block.str2 {xs : List Int} {i k : Nat} {z : Int} (h : Block xs i k) (hz : (k : Int) = z) (h1 : ¬ 1 < z - i) (out : List (Int × Int)) : out ++ strFrom xs i = out ++ strFrom xs k := by
  subst hz
  rw [h.str, if_neg h1, List.nil_append]
theorem strFrom_length (xs : List Int) (i : Nat) : (strFrom xs i).length ≤ xs.length := by
  have h1 := strs_length i (runs (xs.drop i))
  have h2 := runs_length (xs.drop i)
  have h3 : (xs.drop i).length ≤ xs.length := by simp
  unfold strFrom
  omega

/-! ### Rows that grow index by index -/

def pick (p : Nat → Bool) : Nat → List Int
  | 0 => []
  | i + 1 => pick p i ++ if p i then [(i : Int)] else []

theorem pick_length (p : Nat → Bool) : ∀ i, (pick p i).length ≤ i
  | 0 => Nat.le_refl _
  | i + 1 => by
    have := pick_length p i
    simp only [pick, List.length_append]
    split <;> simp <;> omega

theorem pick_congr {p q : Nat → Bool} : ∀ {i : Nat}, (∀ j, j < i → p j = q j) → pick p i = pick q i
  | 0, _ => rfl
  | i + 1, h => by simp only [pick]; rw [pick_congr (fun j hj => h j (by omega)), h i (by omega)]

theorem pick_none {p : Nat → Bool} (h : ∀ j, p j = false) : ∀ n, pick p n = []
  | 0 => rfl
  | n + 1 => by simp [pick, pick_none h n, h n]

/-! ### Levels -/

def numF (l : Int) : Int := (l / 2 - 1) % 123
def evenF (l : Int) : Bool := decide (2 ≤ l ∧ l % 2 = 0)
def bitI (x b : Int) : Int := x / ((2 ^ b.toNat : Nat) : Int) % 2
def tieF (l : Int) : Bool := evenF l && decide (numF l = 122)
def fitsF (x y l : Int) : Bool := evenF l && (if numF l = 122 then decide (x = y) else decide (bitI x (numF l / 2) = numF l % 2) && decide (bitI y (numF l / 2) = 1 - numF l % 2))

def tieOf (g : Int × Int) : List Int := (List.range (g.2 / 2).toNat).map fun q : Nat => g.1 + 2 * (q : Int)
def ties (l : List (Int × Int)) : List Int := l.flatMap tieOf
def pairsF (xs : List Int) (l : Int) : List Int :=
  if evenF l = true then
    if numF l = 122 then ties (stretches xs) else pick (fun i => fitsF (xs.getD i 0) (xs.getD (i + 1) 0) l) (xs.length - 1)
  else []

theorem numF_range (l : Int) : 0 ≤ numF l ∧ numF l ≤ 122 := by unfold numF; omega
theorem bitI_range (x b : Int) : 0 ≤ bitI x b ∧ bitI x b ≤ 1 := by unfold bitI; omega
theorem and_one (x b : Int) (hx : 0 ≤ x) : (((x / ((2 ^ b.toNat : Nat) : Int)).toNat &&& (1 : Int).toNat : Nat) : Int) = bitI x b := by
  have h : 0 ≤ x / ((2 ^ b.toNat : Nat) : Int) := Int.ediv_nonneg hx (Int.natCast_nonneg _)
  unfold bitI
  generalize x / ((2 ^ b.toNat : Nat) : Int) = z at h ⊢
  show ((z.toNat &&& 1 : Nat) : Int) = z % 2
  rw [Nat.and_one_is_mod]
  omega

theorem ties_le : ∀ (l : List (Int × Int)) (o : Int), (∀ g ∈ l, 0 ≤ g.2) → (ties (strs o l)).length ≤ (l.map fun g => g.2.toNat).sum
  | [], _, _ => by simp [strs, ties]
  | (y, t) :: r, o, h => by
    have ih := ties_le r (o + t) (fun g hg => h g (List.mem_cons_of_mem _ hg))
    have h0 := h (y, t) List.mem_cons_self
    have e : ties (strs o ((y, t) :: r)) = ties (if 1 < t then [(o, t)] else []) ++ ties (strs (o + t) r) := by
      simp only [strs, ties, List.flatMap_append]
    rw [e, List.length_append]
    simp only [List.map_cons, List.sum_cons]
    simp only at h0
    split
    · simp only [ties] at ih
      simp only [ties, tieOf, List.flatMap_cons, List.flatMap_nil, List.append_nil, List.length_map, List.length_range]
      omega
    · simp only [ties] at ih
      simp only [ties, List.flatMap_nil, List.length_nil]
      omega
theorem runs_pos : ∀ (xs : List Int), ∀ g ∈ runs xs, 1 ≤ g.2
  | [], g, h => by cases h
  | x :: xs, g, h => by
    have ih := runs_pos xs
    simp only [runs] at h
    cases hr : runs xs with
    | nil => rw [hr] at h; simp at h; subst h; simp
    | cons g' r =>
      obtain ⟨y, t⟩ := g'
      rw [hr] at h ih
      have h1 := ih (y, t) List.mem_cons_self
      by_cases hxy : x = y
      · simp only [hxy, if_true, List.mem_cons] at h
        rcases h with rfl | h
        · simp at h1 ⊢; omega
        · exact ih g (List.mem_cons_of_mem _ h)
      · simp only [hxy, if_false, List.mem_cons] at h
        rcases h with rfl | rfl | h
        · simp
        · exact h1
        · exact ih g (List.mem_cons_of_mem _ h)
theorem runs_sum : ∀ (xs : List Int), ((runs xs).map fun g => g.2.toNat).sum = xs.length
  | [] => rfl
  | x :: xs => by
    have ih := runs_sum xs
    have hp := runs_pos xs
    simp only [runs]
    cases hr : runs xs with
    | nil =>
      rw [hr] at ih
      simp only [List.map_nil, List.sum_nil] at ih
      simp only [List.map_cons, List.map_nil, List.sum_cons, List.sum_nil, List.length_cons, ← ih]
      rfl
    | cons g' r =>
      obtain ⟨y, t⟩ := g'
      rw [hr] at ih hp
      have h1 := hp (y, t) List.mem_cons_self
      simp only at h1
      by_cases hxy : x = y
      · simp only [hxy, if_true, List.map_cons, List.sum_cons, List.length_cons] at ih ⊢; omega
      · simp only [hxy, if_false, List.map_cons, List.sum_cons, List.length_cons] at ih ⊢; omega
theorem pairsF_length (xs : List Int) (l : Int) : (pairsF xs l).length ≤ xs.length := by
  unfold pairsF
  split
  · split
    · have h1 := ties_le (runs xs) 0 (fun g hg => by have := runs_pos xs g hg; omega)
      rw [runs_sum] at h1
      exact h1
    · have := pick_length (fun i => fitsF (xs.getD i 0) (xs.getD (i + 1) 0) l) (xs.length - 1)
      omega
  · simp

theorem strs_mem : ∀ (l : List (Int × Int)) (o : Int), (∀ g ∈ l, 1 ≤ g.2) → ∀ g ∈ strs o l, o ≤ g.1 ∧ 2 ≤ g.2 ∧ g.1 + g.2 ≤ o + ((l.map fun g => g.2.toNat).sum : Nat)
  | [], _, _, g, hg => by cases hg
  | (y, t) :: r, o, h, g, hg => by
    have h0 := h (y, t) List.mem_cons_self
    simp only at h0
    simp only [List.map_cons, List.sum_cons]
    simp only [strs, List.mem_append] at hg
    rcases hg with hg | hg
    · split at hg
      · simp only [List.mem_singleton] at hg
        subst hg
        simp only
        omega
      · cases hg
    · have := strs_mem r (o + t) (fun g hg => h g (List.mem_cons_of_mem _ hg)) g hg
      omega
theorem str_get {xs : List Int} {i : Nat} (h : i < (stretches xs).length) : 0 ≤ ((stretches xs).getD i (0, 0)).1 ∧ 2 ≤ ((stretches xs).getD i (0, 0)).2 ∧ ((stretches xs).getD i (0, 0)).1 + ((stretches xs).getD i (0, 0)).2 ≤ xs.length := by
  have h1 : (stretches xs).getD i (0, 0) ∈ stretches xs := by
    simp [h]
  have := strs_mem (runs xs) 0 (runs_pos xs) _ h1
  rw [runs_sum] at this
  omega
theorem ties_append (a b : List (Int × Int)) : ties (a ++ b) = ties a ++ ties b := by simp [ties]
theorem ties_take {st : List (Int × Int)} {i : Nat} (h : i < st.length) : ties (st.take (i + 1)) = ties (st.take i) ++ tieOf (st.getD i (0, 0)) := by
  rw [List.take_add_one, ties_append]
  simp [h, ties]
theorem ties_take_le (st : List (Int × Int)) (i : Nat) : (ties (st.take i)).length ≤ (ties st).length := by
  have : ties st = ties (st.take i) ++ ties (st.drop i) := by rw [← ties_append, List.take_append_drop]
  rw [this, List.length_append]; omega
def tieTo (g : Int × Int) (q : Nat) : List Int := (List.range q).map fun q : Nat => g.1 + 2 * (q : Int)
theorem tieTo_succ (g : Int × Int) (q : Nat) : tieTo g (q + 1) = tieTo g q ++ [g.1 + 2 * (q : Int)] := by
  simp [tieTo, List.range_succ]
theorem tieTo_length (g : Int × Int) (q : Nat) : (tieTo g q).length = q := by simp [tieTo]
theorem tieTo_all (g : Int × Int) : tieTo g (g.2 / 2).toNat = tieOf g := rfl

/-! ### Runs, written out -/

def expand (l : List (Int × Int)) : List Int := l.flatMap fun g => List.replicate g.2.toNat g.1
theorem expand_runs : ∀ (xs : List Int), expand (runs xs) = xs
  | [] => rfl
  | x :: xs => by
    have ih := expand_runs xs
    have hp := runs_pos xs
    simp only [runs]
    cases hr : runs xs with
    | nil => rw [hr] at ih; simp only [expand, List.flatMap_nil] at ih; rw [← ih]; rfl
    | cons g r =>
      obtain ⟨y, t⟩ := g
      rw [hr] at ih hp
      have h1 := hp (y, t) List.mem_cons_self
      simp only at h1
      by_cases hxy : x = y
      · subst hxy
        simp only [if_true, expand, List.flatMap_cons] at ih ⊢
        rw [show (t + 1).toNat = t.toNat + 1 from by omega, List.replicate_succ, List.cons_append, ih]
      · simp only [hxy, if_false, expand, List.flatMap_cons] at ih ⊢
        rw [ih]; rfl
theorem expand_take {st : List (Int × Int)} {i : Nat} (h : i < st.length) : expand (st.take (i + 1)) = expand (st.take i) ++ List.replicate (st.getD i (0, 0)).2.toNat (st.getD i (0, 0)).1 := by
  have e : st[i]? = some (st.getD i (0, 0)) := by simp [h]
  rw [List.take_add_one, e]
  simp only [expand, List.flatMap_append, Option.toList_some, List.flatMap_cons, List.flatMap_nil, List.append_nil]
theorem expand_take_le (st : List (Int × Int)) (i : Nat) : (expand (st.take i)).length ≤ (expand st).length := by
  have : expand st = expand (st.take i) ++ expand (st.drop i) := by unfold expand; rw [← List.flatMap_append, List.take_append_drop]
  rw [this, List.length_append]; omega
theorem runs_get {xs : List Int} {i : Nat} (h : i < (runs xs).length) : 1 ≤ ((runs xs).getD i (0, 0)).2 := by
  have h1 : (runs xs).getD i (0, 0) ∈ runs xs := by simp [h]
  exact runs_pos xs _ h1
end Go.Proofs.YticiljgbjdcmlaaDoor
