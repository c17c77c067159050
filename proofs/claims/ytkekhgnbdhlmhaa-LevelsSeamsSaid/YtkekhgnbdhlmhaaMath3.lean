/- Plain facts for the laws of rounds, seams and pairs that are apart. No condition. -/
import Derived.Test.YtkekhgnbdhlmhaaMath2
import Derived.Test.YtkekhgnbdhlmhaaWalks4
namespace Go.Proofs.Ytkekhgnbdhlmhaa
set_option linter.unusedSimpArgs false
set_option linter.unusedVariables false

/-! ### Two elements -/

theorem pairs_two (x y l : Int) : pairsF [x, y] l = if fitsF x y l = true then [0] else [] := by
  unfold pairsF fitsF
  cases he : evenF l with
  | false => simp
  | true =>
    by_cases ht : numF l = 122
    · simp only [ht, if_true, Bool.true_and, decide_eq_true_eq]
      by_cases hxy : x = y
      · subst hxy
        simp [stretches, runs, strs, ties, tieOf]
      · simp [stretches, runs, strs, ties, tieOf, hxy]
    · simp only [ht, if_false, if_true, Bool.true_and]
      simp [pick]

def cntF (x y f : Int) : Nat → Nat
  | 0 => 0
  | j + 1 => cntF x y f j + if fitsF x y (f + 2 * (j : Int)) = true then 1 else 0
theorem cntF_le (x y f : Int) : ∀ j, cntF x y f j ≤ j
  | 0 => Nat.le_refl _
  | j + 1 => by have := cntF_le x y f j; simp only [cntF]; split <;> omega
theorem cntF_zero {x y f : Int} : ∀ {n : Nat}, cntF x y f n = 0 ↔ ∀ j, j < n → fitsF x y (f + 2 * (j : Int)) = false
  | 0 => by simp [cntF]
  | n + 1 => by
    have ih := cntF_zero (x := x) (y := y) (f := f) (n := n)
    simp only [cntF]
    constructor
    · intro h j hj
      have h0 : cntF x y f n = 0 := by omega
      rcases Nat.lt_succ_iff_lt_or_eq.1 hj with h1 | rfl
      · exact ih.1 h0 j h1
      · cases hf : fitsF x y (f + 2 * (j : Int)) with
        | false => rfl
        | true => rw [hf] at h; simp at h
    · intro h
      rw [ih.2 (fun j hj => h j (by omega)), h n (by omega)]
      rfl

theorem bits_eq {x y : Int} (hx : 0 ≤ x) (hy : 0 ≤ y) : (∀ b : Nat, b < 61 → bitI x b = bitI y b) ↔ (x.toNat ^^^ y.toNat) % 2 ^ 61 = 0 := by
  obtain ⟨x, rfl⟩ := Int.eq_ofNat_of_zero_le hx
  obtain ⟨y, rfl⟩ := Int.eq_ofNat_of_zero_le hy
  simp only [Int.toNat_natCast]
  have hb : ∀ b : Nat, bitI (x : Int) b = bitI (y : Int) b ↔ x.testBit b = y.testBit b := fun b => by
    rw [bitI_test, bitI_test]
    cases x.testBit b <;> cases y.testBit b <;> simp
  constructor
  · intro h
    apply Nat.eq_of_testBit_eq
    intro b
    rw [Nat.testBit_mod_two_pow, Nat.testBit_xor, Nat.zero_testBit]
    by_cases h1 : b < 61
    · rw [(hb b).1 (h b h1)]; simp
    · simp [h1]
  · intro h b h1
    rw [hb]
    have := congrArg (fun n => n.testBit b) h
    simp only [Nat.testBit_mod_two_pow, Nat.testBit_xor, Nat.zero_testBit, h1, decide_true, Bool.true_and] at this
    cases hx : x.testBit b <;> cases hy : y.testBit b <;> simp_all

theorem rounds_iff {x y k : Int} (hx : 0 ≤ x) (hy : 0 ≤ y) (hk : 0 ≤ k) :
    cntF x y (2 * (1 + k)) 123 = 0 ↔ (x ≠ y ∧ ((x.toNat ^^^ y.toNat : Nat) : Int) * ((2 ^ (3 : Int).toNat : Nat) : Int) % 18446744073709551616 = 0) := by
  have e8 : (((x.toNat ^^^ y.toNat : Nat) : Int) * ((2 ^ (3 : Int).toNat : Nat) : Int) % 18446744073709551616 = 0) ↔ (x.toNat ^^^ y.toNat) % 2 ^ 61 = 0 := by
    have : ((2 ^ (3 : Int).toNat : Nat) : Int) = 8 := rfl
    rw [this]
    generalize x.toNat ^^^ y.toNat = z
    omega
  rw [e8, ← bits_eq hx hy, cntF_zero]
  have hev : ∀ j : Nat, evenF (2 * (1 + k) + 2 * (j : Int)) = true := fun j => even_t (by omega) (by omega)
  have hnum : ∀ j : Nat, numF (2 * (1 + k) + 2 * (j : Int)) = (k + j) % 123 := fun j => by unfold numF; omega
  have hex : ∀ c : Int, 0 ≤ c → c ≤ 122 → ∃ j : Nat, j < 123 ∧ (k + j) % 123 = c := fun c h0 h1 => ⟨((c - k) % 123).toNat, by omega, by omega⟩
  constructor
  · intro h
    refine ⟨?_, fun b hb => ?_⟩
    · obtain ⟨j, hj, hc⟩ := hex 122 (by omega) (by omega)
      have := h j hj
      unfold fitsF at this
      rw [hev, hnum, hc] at this
      simpa using this
    · obtain ⟨j, hj, hc⟩ := hex (2 * b) (by omega) (by omega)
      obtain ⟨j', hj', hc'⟩ := hex (2 * b + 1) (by omega) (by omega)
      have h1 := h j hj
      have h2 := h j' hj'
      unfold fitsF at h1 h2
      rw [hev, hnum, hc] at h1
      rw [hev, hnum, hc'] at h2
      have r1 := bitI_range x b
      have r2 := bitI_range y b
      rw [if_neg (by omega), show (2 * (b : Int)) / 2 = b from by omega, show (2 * (b : Int)) % 2 = 0 from by omega] at h1
      rw [if_neg (by omega), show (2 * (b : Int) + 1) / 2 = b from by omega, show (2 * (b : Int) + 1) % 2 = 1 from by omega] at h2
      simp at h1 h2
      omega
  · rintro ⟨hne, hb⟩ j hj
    unfold fitsF
    rw [hev, hnum]
    have hc0 : 0 ≤ (k + (j : Int)) % 123 ∧ (k + (j : Int)) % 123 ≤ 122 := by omega
    generalize (k + (j : Int)) % 123 = c at hc0
    by_cases h1 : c = 122
    · simp [h1, hne]
    · rw [if_neg h1]
      have hbb := hb (c / 2).toNat (by omega)
      rw [show (((c / 2).toNat : Nat) : Int) = c / 2 from by omega] at hbb
      rw [← hbb]
      have r1 := bitI_range x (c / 2)
      simp
      omega

/-! ### Pairs at a level without ties -/

abbrev pF (xs : List Int) (l : Int) : Nat → Bool := fun i => fitsF (xs.getD i 0) (xs.getD (i + 1) 0) l
theorem pairs_pick {xs : List Int} {l : Int} (ht : tieF l = false) : pairsF xs l = pick (pF xs l) (xs.length - 1) := by
  cases he : evenF l with
  | true =>
    have hn : ¬ numF l = 122 := by unfold tieF at ht; simpa [he] using ht
    unfold pairsF
    rw [if_pos he, if_neg hn]
  | false => rw [pick_none (fun j => by simp [pF, fitsF, he])]; simp [pairsF, he]

theorem pick_split (p : Nat → Bool) (m : Nat) : ∀ n, pick p (m + n) = pick p m ++ (pick (fun i => p (m + i)) n).map fun z => (m : Int) + z
  | 0 => by simp [pick]
  | n + 1 => by
    have ih := pick_split p m n
    rw [← Nat.add_assoc]
    simp only [pick]
    rw [ih, List.map_append, List.append_assoc]
    congr 2
    split
    · simp
    · rfl

theorem getD_append_left {a b : List Int} {i : Nat} (h : i < a.length) : (a ++ b).getD i 0 = a.getD i 0 := by
  simp [List.getD_eq_getElem?_getD, List.getElem?_append, h]
theorem getD_append_right {a b : List Int} {i : Nat} : (a ++ b).getD (a.length + i) 0 = b.getD i 0 := by
  rw [List.getD_eq_getElem?_getD, List.getElem?_append_right (by omega), Nat.add_sub_cancel_left, ← List.getD_eq_getElem?_getD]

def seamF (a b : List Int) (l : Int) : List Int :=
  if 0 < a.length ∧ 0 < b.length ∧ fitsF (a.getD (a.length - 1) 0) (b.getD 0 0) l = true then [((a.length - 1 : Nat) : Int)] else []

theorem seams {a b : List Int} {l : Int} (ht : tieF l = false) : pairsF (a ++ b) l = (pairsF a l ++ seamF a b l) ++ (pairsF b l).map fun z => (a.length : Int) + z := by
  rw [pairs_pick ht, pairs_pick ht, pairs_pick ht]
  unfold seamF
  by_cases ha : 0 < a.length
  · by_cases hb : 0 < b.length
    · have e1 : (a ++ b).length - 1 = (a.length - 1) + 1 + (b.length - 1) := by rw [List.length_append]; omega
      rw [e1, pick_split, pick]
      rw [show a.length - 1 + 1 = a.length from by omega]
      congr 1
      · congr 1
        · refine pick_congr fun j hj => ?_
          simp only [pF]
          rw [getD_append_left (by omega), getD_append_left (by omega)]
        · have : pF (a ++ b) l (a.length - 1) = fitsF (a.getD (a.length - 1) 0) (b.getD 0 0) l := by
            simp only [pF]
            rw [getD_append_left (by omega)]
            have := getD_append_right (a := a) (b := b) (i := 0)
            rw [Nat.add_zero] at this
            rw [show a.length - 1 + 1 = a.length from by omega, this]
          rw [this]
          simp [ha, hb]
      · congr 1
        refine pick_congr fun j hj => ?_
        simp only [pF]
        rw [getD_append_right, show a.length + j + 1 = a.length + (j + 1) from by omega, getD_append_right]
    · have : b = [] := List.eq_nil_of_length_eq_zero (by omega)
      subst this
      simp [pick]
  · have : a = [] := List.eq_nil_of_length_eq_zero (by omega)
    subst this
    simp [pick]

/-! ### Pairs are apart -/

/-- Rising by 2 at least, from a start on. -/
def Gap : Int → List Int → Prop
  | _, [] => True
  | o, z :: l => o ≤ z ∧ Gap (z + 2) l
theorem Gap.mono {o o' : Int} (h : o' ≤ o) : ∀ {l : List Int}, Gap o l → Gap o' l
  | [], _ => trivial
  | _ :: _, k => ⟨Int.le_trans h k.1, k.2⟩
theorem Gap.append : ∀ {l l' : List Int} {o q : Int}, Gap o l → (∀ z ∈ l, z + 2 ≤ q) → o ≤ q → Gap q l' → Gap o (l ++ l')
  | [], l', o, q, _, _, ho, h => Gap.mono ho h
  | z :: l, l', o, q, h, hz, ho, h' => ⟨h.1, Gap.append h.2 (fun z' hz' => hz z' (List.mem_cons_of_mem _ hz')) (hz z List.mem_cons_self) h'⟩
theorem Gap.get : ∀ {l : List Int} {o : Int} {k : Nat}, Gap o l → k < l.length → (if k = 0 then o else l.getD (k - 1) 0 + 2) ≤ l.getD k 0
  | z :: l, o, 0, h, _ => by simpa using h.1
  | z :: l, o, k + 1, h, hk => by
    have := Gap.get (k := k) h.2 (by simpa using hk)
    simp only [List.getD_cons_succ]
    by_cases h0 : k = 0
    · subst h0; simpa using this
    · simp only [h0, if_false] at this
      simp only [Nat.succ_ne_zero, Nat.add_one_ne_zero, if_false]
      obtain ⟨k, rfl⟩ : ∃ k', k = k' + 1 := ⟨k - 1, by omega⟩
      simpa using this

theorem pick_mem {p : Nat → Bool} : ∀ {n : Nat} {z : Int}, z ∈ pick p n → ∃ j : Nat, z = j ∧ j < n ∧ p j = true
  | 0, z, h => by cases h
  | n + 1, z, h => by
    simp only [pick, List.mem_append] at h
    rcases h with h | h
    · obtain ⟨j, h1, h2, h3⟩ := pick_mem h; exact ⟨j, h1, by omega, h3⟩
    · split at h
      · rename_i hp
        simp only [List.mem_singleton] at h
        exact ⟨n, h, by omega, hp⟩
      · cases h

theorem fits_once {x y z l : Int} (ht : tieF l = false) (h : fitsF x y l = true) : fitsF y z l = false := by
  have he : evenF l = true := by
    cases he : evenF l with
    | true => rfl
    | false => simp [fitsF, he] at h
  have hn : ¬ numF l = 122 := by unfold tieF at ht; simpa [he] using ht
  rw [fits_eq he hn] at h ⊢
  simp only [Bool.and_eq_true, decide_eq_true_eq, Bool.not_eq_true', decide_eq_false_iff_not] at h
  simp [h.2]

theorem pick_gap {p : Nat → Bool} (h : ∀ j, p j = true → p (j + 1) = false) : ∀ n, Gap 0 (pick p n) ∧ ∀ z ∈ pick p n, z + 2 ≤ n + (if n = 0 then 0 else if p (n - 1) = true then 1 else 0)
  | 0 => ⟨trivial, fun z hz => by cases hz⟩
  | n + 1 => by
    obtain ⟨h1, h2⟩ := pick_gap h n
    simp only [Nat.add_one_ne_zero, if_false, Nat.add_sub_cancel]
    simp only [pick]
    by_cases hp : p n = true
    · simp only [hp, if_true]
      have hb : ∀ z ∈ pick p n, z + 2 ≤ (n : Int) := fun z hz => by
        have := h2 z hz
        by_cases h0 : n = 0
        · subst h0; simp [pick] at hz
        · have hq : ¬ p (n - 1) = true := fun hq => by
            have := h (n - 1) hq
            rw [show n - 1 + 1 = n from by omega, hp] at this
            cases this
          rw [if_neg h0, if_neg hq] at this
          omega
      refine ⟨Gap.append h1 hb (by omega) ⟨by omega, trivial⟩, fun z hz => ?_⟩
      rcases List.mem_append.1 hz with hz | hz
      · have := hb z hz; omega
      · simp only [List.mem_singleton] at hz; omega
    · rw [if_neg hp, List.append_nil]
      refine ⟨h1, fun z hz => ?_⟩
      have := h2 z hz
      rw [if_neg hp]
      split at this
      · omega
      · split at this <;> omega

theorem tieTo_gap (g : Int × Int) : ∀ q : Nat, Gap g.1 (tieTo g q) ∧ ∀ z ∈ tieTo g q, z + 2 ≤ g.1 + 2 * (q : Int)
  | 0 => ⟨trivial, fun z hz => by simp [tieTo] at hz⟩
  | q + 1 => by
    obtain ⟨h1, h2⟩ := tieTo_gap g q
    rw [tieTo_succ]
    refine ⟨Gap.append h1 h2 (by omega) ⟨by omega, trivial⟩, fun z hz => ?_⟩
    rcases List.mem_append.1 hz with hz | hz
    · have := h2 z hz; omega
    · simp only [List.mem_singleton] at hz; omega
theorem ties_gap : ∀ (l : List (Int × Int)) (o : Int), (∀ g ∈ l, 1 ≤ g.2) → Gap o (ties (strs o l))
  | [], _, _ => trivial
  | (y, t) :: r, o, h => by
    have h0 := h (y, t) List.mem_cons_self
    have ih := ties_gap r (o + t) (fun g hg => h g (List.mem_cons_of_mem _ hg))
    simp only at h0
    simp only [strs, ties_append]
    split
    · have e : ties [(o, t)] = tieTo (o, t) (t / 2).toNat := by simp [ties, tieTo_all]; rfl
      rw [e]
      obtain ⟨h1, h2⟩ := tieTo_gap (o, t) (t / 2).toNat
      exact Gap.append h1 (fun z hz => by have := h2 z hz; simp only at this; omega) (by omega) ih
    · simp only [ties, List.flatMap_nil, List.nil_append]
      exact Gap.mono (by omega) ih

theorem pairs_gap (xs : List Int) (l : Int) : Gap 0 (pairsF xs l) := by
  by_cases ht : tieF l = true
  · have he : evenF l = true := by unfold tieF at ht; simp only [Bool.and_eq_true] at ht; exact ht.1
    have hn : numF l = 122 := by unfold tieF at ht; simpa [he] using ht
    simp only [pairsF, he, hn, if_true]
    exact ties_gap _ 0 (runs_pos xs)
  · have ht : tieF l = false := by simpa using ht
    rw [pairs_pick ht]
    exact (pick_gap (p := pF xs l) (fun j hj => fits_once ht hj) _).1

theorem pairs_fit {xs : List Int} {l z : Int} (h : z ∈ pairsF xs l) : 0 ≤ z ∧ z + 1 < xs.length ∧ fitsF (xs.getD z.toNat 0) (xs.getD (z + 1).toNat 0) l = true := by
  by_cases ht : tieF l = true
  · have he : evenF l = true := by unfold tieF at ht; simp only [Bool.and_eq_true] at ht; exact ht.1
    have hn : numF l = 122 := by unfold tieF at ht; simpa [he] using ht
    simp only [pairsF, he, hn, if_true] at h
    obtain ⟨h1, h2, h3⟩ := ties_good h
    refine ⟨h1, h2, ?_⟩
    simp only [fitsF, he, hn, if_true, Bool.true_and, decide_eq_true_eq]
    exact h3
  · have ht : tieF l = false := by simpa using ht
    rw [pairs_pick ht] at h
    obtain ⟨j, rfl, h1, h2⟩ := pick_mem h
    refine ⟨by omega, by omega, ?_⟩
    rw [Int.toNat_natCast, show ((j : Int) + 1).toNat = j + 1 from by omega]
    exact h2

/-- Which element of the row is index i. -/
theorem pick_at {p : Nat → Bool} {i n : Nat} (h : i < n) : ((pick p i).length < (pick p n).length ∧ (pick p n).getD (pick p i).length 0 = i) ↔ p i = true := by
  obtain ⟨m, rfl⟩ : ∃ m, n = i + 1 + m := ⟨n - (i + 1), by omega⟩
  rw [pick_split, pick]
  by_cases hp : p i = true
  · simp only [hp, if_true, iff_true]
    constructor
    · simp
    · simp [List.getD_eq_getElem?_getD, List.getElem?_append]
  · rw [if_neg hp, List.append_nil]
    refine ⟨fun ⟨h1, h2⟩ => ?_, fun h => absurd h hp⟩
    exfalso
    rw [List.length_append] at h1
    rw [List.getD_eq_getElem?_getD, List.getElem?_append_right (Nat.le_refl _), Nat.sub_self, List.getElem?_map] at h2
    cases hq : (pick (fun j => p (i + 1 + j)) m)[0]? with
    | none =>
      have := List.getElem?_eq_none_iff.1 hq
      simp at h1; omega
    | some z =>
      rw [hq] at h2
      have hz : z ∈ pick (fun j => p (i + 1 + j)) m := List.mem_of_getElem? hq
      obtain ⟨j, rfl, _, _⟩ := pick_mem hz
      simp at h2; omega
end Go.Proofs.Ytkekhgnbdhlmhaa
