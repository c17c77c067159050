/- What a rule derives, as a term; the store of rules, as plain data. Plain Lean: no program in sight. -/
import Derived.Test.YtagoedllflalpaaSWalks3
namespace Go.Proofs.Ytagoedllflalpaa
open Go.EG
set_option linter.unusedSimpArgs false
set_option linter.unusedVariables false

/-- What a rule derives. -/
inductive Tm where
  | nil
  | lt (l : Nat)
  | pr (a b : Tm)
  | pw (a : Tm) (k : Nat)
deriving DecidableEq

def Tm.txt : Tm → List Nat
  | .nil => []
  | .lt l => [l]
  | .pr a b => a.txt ++ b.txt
  | .pw a k => rep k a.txt
def Tm.dep : Tm → Nat
  | .nil => 0
  | .lt _ => 0
  | .pr a b => 1 + max a.dep b.dep
  | .pw a _ => 1 + a.dep
def Tm.evn : Tm → Bool
  | .nil => true
  | .lt _ => true
  | .pr a b => a.evn && b.evn && decide (a.dep ≤ b.dep + 1) && decide (b.dep ≤ a.dep + 1)
  | .pw _ _ => false
def Tm.len (m : Tm) : Nat := m.txt.length

/-- A rule of a store, and what it derives. -/
structure Entr where
  r : Rul
  m : Tm
def ent0 : Entr := ⟨⟨0, 0, 0, 0, 0⟩, .nil⟩

/-- The entry of a number; that of 0 is what is known of the empty text. -/
def atE (E : List Entr) (n : Int) : Entr := if n ≤ 0 then ent0 else E.getD (n.toNat - 1) ent0
def tm (E : List Entr) (n : Int) : Tm := (atE E n).m
def mkT (E : List Entr) (r : Rul) : Tm := if r.k = 1 then .lt r.l.toNat else if r.k = 2 then .pr (tm E r.a) (tm E r.b) else .pw (tm E r.a) r.t.toNat
def mkE (E : List Entr) (r : Rul) : Entr := ⟨r, mkT E r⟩

/-- The number of a rule; 0 if it is not there. -/
def idx (r : Rul) : Nat → List Entr → Nat
  | _, [] => 0
  | i, x :: E => if r = x.r then i + 1 else idx r (i + 1) E
abbrev idOf (r : Rul) (E : List Entr) : Nat := idx r 0 E

structure Sto where
  most : Nat
  E : List Entr
abbrev addS (S : Sto) (x : Entr) : Sto := ⟨S.most, S.E ++ [x]⟩

structure WF (S : Sto) : Prop where
  most : S.most ≤ 1048576
  len : S.E.length ≤ S.most
  rul : ∀ i, i < S.E.length → okR (S.E.getD i ent0).r (i + 1)
  let_ : ∀ i, i < S.E.length → 0 ≤ (S.E.getD i ent0).r.l ∧ (S.E.getD i ent0).r.l < 256
  tms : ∀ i, i < S.E.length → (S.E.getD i ent0).m = mkT S.E (S.E.getD i ent0).r
  leng : ∀ i, i < S.E.length → (S.E.getD i ent0).m.len ≤ LM
  uniq : ∀ i, i < S.E.length → idOf (S.E.getD i ent0).r S.E = i + 1

def known (S : Sto) (n : Int) : Prop := 0 ≤ n ∧ n ≤ S.E.length
instance (S : Sto) (n : Int) : Decidable (known S n) := by unfold known; exact inferInstance

/-! ### The functions of a store -/

/-- A rule is handed in: the store, its number, an error's number (0: none). -/
def stPut (S : Sto) (r : Rul) : Sto × Int × Nat :=
  if idOf r S.E = 0 then (if S.most ≤ S.E.length then (S, 0, 3) else (addS S (mkE S.E r), ((S.E.length + 1 : Nat) : Int), 0)) else (S, ((idOf r S.E : Nat) : Int), 0)
def letR (l : Nat) : Rul := ⟨1, l, 0, 0, 0⟩
def pairR (i j : Int) : Rul := ⟨2, 0, i, j, 0⟩
def powR (i k : Int) : Rul := ⟨3, 0, i, 0, k⟩
def stPair (S : Sto) (i j : Int) : Sto × Int × Nat :=
  if ¬ known S i ∨ ¬ known S j then (S, 0, 1)
  else if i = 0 then (S, j, 0)
  else if j = 0 then (S, i, 0)
  else if LM < (tm S.E i).len + (tm S.E j).len then (S, 0, 2)
  else stPut S (pairR i j)
def stPower (S : Sto) (i k : Int) : Sto × Int × Nat :=
  if ¬ known S i ∨ k < 0 then (S, 0, 1)
  else if k = 0 ∨ i = 0 then (S, 0, 0)
  else if k = 1 then (S, i, 0)
  else if LM < (tm S.E i).len * k.toNat then (S, 0, 2)
  else stPut S (powR i k)
def stRul (S : Sto) (r : Rul) (to : List Int) : Sto × Int × Nat :=
  if r.k = 1 then stPut S (letR r.l.toNat) else if r.k = 2 then stPair S (to.getD r.a.toNat 0) (to.getD r.b.toNat 0) else stPower S (to.getD r.a.toNat 0) r.t

/-! ### Laws -/

theorem atE_zero (E : List Entr) : atE E 0 = ent0 := rfl
theorem atE_succ (E : List Entr) (i : Nat) : atE E ((i : Int) + 1) = E.getD i ent0 := by
  unfold atE
  rw [if_neg (by omega), show ((i : Int) + 1).toNat - 1 = i by omega]
theorem atE_pos {E : List Entr} {n : Int} (h : 0 < n) : atE E n = E.getD (n.toNat - 1) ent0 := if_neg (by omega)
theorem tm_zero (E : List Entr) : tm E 0 = .nil := rfl
theorem getD_append_left {α : Type} {l l' : List α} {i : Nat} {d : α} (h : i < l.length) : (l ++ l').getD i d = l.getD i d := by
  simp [List.getD_eq_getElem?_getD, List.getElem?_append, h]
theorem atE_append {E E' : List Entr} {n : Int} (h : n ≤ E.length) : atE (E ++ E') n = atE E n := by
  unfold atE
  split
  · rfl
  · rw [getD_append_left (by omega)]
theorem tm_append {E E' : List Entr} {n : Int} (h : n ≤ E.length) : tm (E ++ E') n = tm E n := by unfold tm; rw [atE_append h]
theorem mkT_append {E E' : List Entr} {r : Rul} {n : Int} (h : okR r (n + 1)) (hn : n ≤ E.length) : mkT (E ++ E') r = mkT E r := by
  unfold mkT
  rcases h with h | ⟨h1, h2, h3, h4, h5, h6, h7⟩ | ⟨h1, h2, h3, h4, h5, h6⟩
  · rw [if_pos h.1, if_pos h.1]
  · rw [if_neg (by omega), if_pos h1, if_neg (by omega), if_pos h1, tm_append (by omega), tm_append (by omega)]
  · rw [if_neg (by omega), if_neg (by omega), if_neg (by omega), if_neg (by omega), tm_append (by omega)]

theorem idx_append {r : Rul} : ∀ {E : List Entr} {i : Nat}, idx r i E ≠ 0 → ∀ E', idx r i (E ++ E') = idx r i E
  | [], _, h, _ => absurd rfl h
  | x :: E, i, h, E' => by
    simp only [List.cons_append, idx] at h ⊢
    split
    · rfl
    · rename_i hr
      rw [if_neg hr] at h
      exact idx_append h E'
theorem idx_none {r : Rul} : ∀ {E : List Entr} {i : Nat}, idx r i E = 0 → ∀ {E' : List Entr}, idx r i (E ++ E') = idx r (i + E.length) E'
  | [], i, _, E' => by simp
  | x :: E, i, h, E' => by
    simp only [idx] at h
    split at h
    · omega
    · rename_i hr
      simp only [List.cons_append, idx, if_neg hr, List.length_cons]
      rw [idx_none h]
      congr 1
      omega
theorem idx_le {r : Rul} : ∀ {E : List Entr} {i : Nat}, idx r i E ≤ i + E.length
  | [], _ => by simp [idx]
  | x :: E, i => by
    simp only [idx, List.length_cons]
    split
    · omega
    · have := idx_le (r := r) (E := E) (i := i + 1); omega
theorem idx_spec {r : Rul} : ∀ {E : List Entr} {i : Nat}, idx r i E ≠ 0 → i < idx r i E ∧ (E.getD (idx r i E - 1 - i) ent0).r = r
  | [], _, h => absurd rfl h
  | x :: E, i, h => by
    by_cases hr : r = x.r
    · have e : idx r i (x :: E) = i + 1 := if_pos hr
      rw [e]
      refine ⟨by omega, ?_⟩
      rw [show i + 1 - 1 - i = 0 by omega]
      exact hr.symm
    · have e : idx r i (x :: E) = idx r (i + 1) E := if_neg hr
      rw [e] at h ⊢
      have ⟨h1, h2⟩ := idx_spec h
      refine ⟨by omega, ?_⟩
      rw [show idx r (i + 1) E - 1 - i = (idx r (i + 1) E - 1 - (i + 1)) + 1 by omega, List.getD_cons_succ]
      exact h2
theorem idOf_at {r : Rul} {E : List Entr} (h : idOf r E ≠ 0) : (atE E (idOf r E)).r = r ∧ idOf r E ≤ E.length := by
  have h1 := idx_spec h
  have h2 := idx_le (r := r) (E := E) (i := 0)
  refine ⟨?_, by unfold idOf; omega⟩
  rw [atE_pos (by unfold idOf; omega)]
  have : ((idOf r E : Nat) : Int).toNat - 1 = idx r 0 E - 1 - 0 := by unfold idOf; omega
  rw [this]
  exact h1.2

section
variable {S : Sto} (h : WF S)
theorem WF.at_ {n : Int} (h : WF S) (h0 : 1 ≤ n) (h1 : n ≤ S.E.length) : okR (atE S.E n).r n ∧ (0 ≤ (atE S.E n).r.l ∧ (atE S.E n).r.l < 256) ∧ tm S.E n = mkT S.E (atE S.E n).r ∧ (tm S.E n).len ≤ LM ∧ idOf (atE S.E n).r S.E = n.toNat := by
  rw [show tm S.E n = (atE S.E n).m from rfl, atE_pos (by omega)]
  have hi : n.toNat - 1 < S.E.length := by omega
  refine ⟨?_, h.let_ _ hi, h.tms _ hi, h.leng _ hi, ?_⟩
  · have := h.rul _ hi
    rwa [show ((n.toNat - 1 : Nat) : Int) + 1 = n by omega] at this
  · rw [h.uniq _ hi]; omega
theorem WF.le {n : Int} (h : WF S) (h1 : n ≤ S.E.length) : (tm S.E n).len ≤ LM := by
  by_cases h0 : n ≤ 0
  · rw [tm, atE, if_pos h0]; exact Nat.zero_le _
  · exact (h.at_ (by omega) h1).2.2.2.1
theorem len_rep (k : Nat) (t : List Nat) : (rep k t).length = k * t.length := rep_length k t
/-- Texts of numbers are not empty; depths are small. -/
theorem WF.pos (h : WF S) : ∀ (k : Nat) (n : Int), n = k → 1 ≤ n → n ≤ S.E.length → 1 ≤ (tm S.E n).len ∧ (tm S.E n).dep < k := by
  intro k
  induction k using Nat.strongRecOn with
  | ind k ih =>
    intro n hk h0 h1
    obtain ⟨hr, _, ht, _⟩ := h.at_ h0 h1
    rw [ht]
    unfold mkT
    rcases hr with hr | ⟨h1', h2', h3', h4', h5', h6', h7'⟩ | ⟨h1', h2', h3', h4', h5', h6'⟩
    · rw [if_pos hr.1]; exact ⟨Nat.le_refl 1, by simp only [Tm.dep]; omega⟩
    · rw [if_neg (by omega), if_pos h1']
      have i1 := ih (atE S.E n).r.a.toNat (by omega) (atE S.E n).r.a (by omega) h4' (by omega)
      have i2 := ih (atE S.E n).r.b.toNat (by omega) (atE S.E n).r.b (by omega) h6' (by omega)
      refine ⟨?_, ?_⟩
      · have := i1.1
        unfold Tm.len at this ⊢
        rw [Tm.txt, List.length_append]; omega
      · simp only [Tm.dep]; omega
    · rw [if_neg (by omega), if_neg (by omega)]
      have i1 := ih (atE S.E n).r.a.toNat (by omega) (atE S.E n).r.a (by omega) h5' (by omega)
      refine ⟨?_, ?_⟩
      · have := i1.1
        unfold Tm.len at this ⊢
        rw [Tm.txt, len_rep]
        exact Nat.mul_pos (by omega) this
      · simp only [Tm.dep]; omega
theorem WF.pos1 {n : Int} (h : WF S) (h0 : 1 ≤ n) (h1 : n ≤ S.E.length) : 1 ≤ (tm S.E n).len := (h.pos n.toNat n (by omega) h0 h1).1
theorem WF.dep {n : Int} (h : WF S) (h1 : n ≤ S.E.length) : (tm S.E n).dep ≤ 1048576 := by
  by_cases h0 : n ≤ 0
  · rw [tm, atE, if_pos h0]; exact Nat.zero_le _
  · have := (h.pos n.toNat n (by omega) (by omega) h1).2
    have := h.most
    have := h.len
    omega
theorem WF.small (h : WF S) : S.E.length ≤ 1048576 := Nat.le_trans h.len h.most
end

/-- A rule that may be added. -/
structure Fit (S : Sto) (r : Rul) : Prop where
  ok : okR r (S.E.length + 1)
  let_ : 0 ≤ r.l ∧ r.l < 256
  len : (mkT S.E r).len ≤ LM

theorem getD_snoc_lt {α : Type} {l : List α} {x d : α} {i : Nat} (h : i < l.length) : (l ++ [x]).getD i d = l.getD i d := getD_append_left h
theorem WF.add {S : Sto} {r : Rul} (h : WF S) (hr : Fit S r) (hn : idOf r S.E = 0) (hm : S.E.length < S.most) : WF (addS S (mkE S.E r)) := by
  have key : ∀ i, i < (S.E ++ [mkE S.E r]).length → (i < S.E.length ∧ (S.E ++ [mkE S.E r]).getD i ent0 = S.E.getD i ent0) ∨ (i = S.E.length ∧ (S.E ++ [mkE S.E r]).getD i ent0 = mkE S.E r) := fun i hi => by
    rw [List.length_append] at hi
    simp only [List.length_cons, List.length_nil] at hi
    by_cases h : i < S.E.length
    · exact .inl ⟨h, getD_snoc_lt h⟩
    · exact .inr ⟨by omega, getD_snoc (by omega)⟩
  refine ⟨h.most, by simp only [addS, List.length_append, List.length_cons, List.length_nil]; omega, fun i hi => ?_, fun i hi => ?_, fun i hi => ?_, fun i hi => ?_, fun i hi => ?_⟩
  · rcases key i hi with ⟨h1, h2⟩ | ⟨h1, h2⟩
    · simp only [addS, h2]; exact h.rul i h1
    · simp only [addS, h2]; rw [h1]; exact hr.ok
  · rcases key i hi with ⟨h1, h2⟩ | ⟨h1, h2⟩
    · simp only [addS, h2]; exact h.let_ i h1
    · simp only [addS, h2]; exact hr.let_
  · rcases key i hi with ⟨h1, h2⟩ | ⟨h1, h2⟩
    · simp only [addS, h2]
      rw [mkT_append (h.rul i h1) (by omega)]
      exact h.tms i h1
    · simp only [addS, h2]
      rw [show (mkE S.E r).r = r from rfl, mkT_append hr.ok (by omega)]; rfl
  · rcases key i hi with ⟨h1, h2⟩ | ⟨h1, h2⟩
    · simp only [addS, h2]; exact h.leng i h1
    · simp only [addS, h2]; exact hr.len
  · rcases key i hi with ⟨h1, h2⟩ | ⟨h1, h2⟩
    · simp only [addS, h2]
      have := h.uniq i h1
      unfold idOf at this ⊢
      rw [idx_append (by omega)]; exact this
    · simp only [addS, h2]
      rw [h1]
      unfold idOf at hn ⊢
      rw [show (mkE S.E r).r = r from rfl, idx_none hn]
      simp [idx, mkE]

theorem WF.new (most : Nat) (h : most ≤ 1048576) : WF ⟨most, []⟩ := by
  refine ⟨h, Nat.zero_le _, ?_, ?_, ?_, ?_, ?_⟩ <;> (intro i hi; exact absurd hi (Nat.not_lt_zero _))

/-- A store that grew. -/
def Grow (S S' : Sto) : Prop := ∃ E', S' = ⟨S.most, S.E ++ E'⟩
theorem Grow.refl (S : Sto) : Grow S S := ⟨[], by simp⟩
theorem Grow.trans {S S' S'' : Sto} (h : Grow S S') (k : Grow S' S'') : Grow S S'' := by
  obtain ⟨E', rfl⟩ := h
  obtain ⟨E'', rfl⟩ := k
  exact ⟨E' ++ E'', by simp⟩
theorem Grow.tm {S S' : Sto} (h : Grow S S') {n : Int} (hn : n ≤ S.E.length) : tm S'.E n = tm S.E n := by
  obtain ⟨E', rfl⟩ := h
  exact tm_append hn
theorem Grow.len {S S' : Sto} (h : Grow S S') : S.E.length ≤ S'.E.length := by
  obtain ⟨E', rfl⟩ := h
  simp
theorem Grow.most {S S' : Sto} (h : Grow S S') : S'.most = S.most := by
  obtain ⟨E', rfl⟩ := h
  rfl
theorem Grow.known {S S' : Sto} (h : Grow S S') {n : Int} (hn : known S n) : known S' n := ⟨hn.1, by have := h.len; have := hn.2; omega⟩

theorem known_iff {S : Sto} {n : Int} : known S n ↔ 0 ≤ n ∧ n ≤ S.E.length := Iff.rfl
/-- What handing in a rule does. -/
theorem stPut_spec {S : Sto} {r : Rul} (h : WF S) (hr : Fit S r) : WF (stPut S r).1 ∧ Grow S (stPut S r).1 ∧ ((stPut S r).2.2 = 0 → 1 ≤ (stPut S r).2.1 ∧ known (stPut S r).1 (stPut S r).2.1 ∧ tm (stPut S r).1.E (stPut S r).2.1 = mkT S.E r ∧ (atE (stPut S r).1.E (stPut S r).2.1).r = r) ∧ ((stPut S r).2.2 ≠ 0 → (stPut S r).2.2 = 3 ∧ S.most ≤ S.E.length ∧ (stPut S r).2.1 = 0) ∧ (stPut S r).1.E.length ≤ S.E.length + 1 := by
  unfold stPut
  by_cases h0 : idOf r S.E = 0
  · rw [if_pos h0]
    by_cases h1 : S.most ≤ S.E.length
    · rw [if_pos h1]
      exact ⟨h, Grow.refl S, fun (h : (3 : Nat) = 0) => absurd h (by decide), fun _ => ⟨rfl, h1, rfl⟩, Nat.le_succ _⟩
    · rw [if_neg h1]
      refine ⟨h.add hr h0 (by omega), ⟨_, rfl⟩, fun _ => ⟨by simp only; omega, ⟨by simp only; omega, by simp [addS]⟩, ?_, ?_⟩, fun hn => absurd rfl hn, by simp [addS]⟩
      · show tm (S.E ++ [mkE S.E r]) ((S.E.length + 1 : Nat) : Int) = _
        rw [tm, show ((S.E.length + 1 : Nat) : Int) = ((S.E.length : Nat) : Int) + 1 by omega, atE_succ, getD_snoc rfl]; rfl
      · show (atE (S.E ++ [mkE S.E r]) ((S.E.length + 1 : Nat) : Int)).r = _
        rw [show ((S.E.length + 1 : Nat) : Int) = ((S.E.length : Nat) : Int) + 1 by omega, atE_succ, getD_snoc rfl]; rfl
  · rw [if_neg h0]
    have h1 := idOf_at h0
    refine ⟨h, Grow.refl S, fun _ => ⟨by simp only; omega, ⟨by simp only; omega, by simp only; omega⟩, ?_, h1.1⟩, fun hn => absurd rfl hn, by simp⟩
    have h2 := (h.at_ (n := (idOf r S.E : Nat)) (by omega) (by omega)).2.2.1
    rw [h1.1] at h2
    exact h2

theorem fit_let (S : Sto) {l : Nat} (hl : l < 256) : Fit S (letR l) := by
  refine ⟨.inl ⟨rfl, rfl, rfl, rfl, by omega⟩, ⟨by simp [letR], by simp [letR]; omega⟩, ?_⟩
  show (Tm.lt _).len ≤ LM
  exact (by decide : 1 ≤ LM)
theorem fit_pair {S : Sto} {i j : Int} (h1 : 1 ≤ i) (h2 : i ≤ S.E.length) (h3 : 1 ≤ j) (h4 : j ≤ S.E.length) (h : (tm S.E i).len + (tm S.E j).len ≤ LM) : Fit S (pairR i j) := by
  refine ⟨.inr (.inl ⟨rfl, rfl, rfl, h1, by simp only [pairR]; omega, h3, by simp only [pairR]; omega⟩), ⟨by simp [pairR], by simp [pairR]⟩, ?_⟩
  show (Tm.pr (tm S.E i) (tm S.E j)).len ≤ LM
  unfold Tm.len at *
  rw [Tm.txt, List.length_append]; exact h
theorem fit_pow {S : Sto} {i k : Int} (h1 : 1 ≤ i) (h2 : i ≤ S.E.length) (h3 : 2 ≤ k) (h : (tm S.E i).len * k.toNat ≤ LM) : Fit S (powR i k) := by
  refine ⟨.inr (.inr ⟨rfl, rfl, rfl, h3, h1, by simp only [powR]; omega⟩), ⟨by simp [powR], by simp [powR]⟩, ?_⟩
  show (Tm.pw (tm S.E i) k.toNat).len ≤ LM
  unfold Tm.len at *
  rw [Tm.txt, len_rep, Nat.mul_comm]; exact h
theorem stLet_wf {S : Sto} {l : Nat} (h : WF S) (hl : l < 256) : WF (stPut S (letR l)).1 ∧ Grow S (stPut S (letR l)).1 :=
  ⟨(stPut_spec h (fit_let S hl)).1, (stPut_spec h (fit_let S hl)).2.1⟩
theorem stPair_wf {S : Sto} {i j : Int} (h : WF S) : WF (stPair S i j).1 ∧ Grow S (stPair S i j).1 := by
  unfold stPair
  split
  · exact ⟨h, Grow.refl S⟩
  · rename_i hu
    split
    · exact ⟨h, Grow.refl S⟩
    · split
      · exact ⟨h, Grow.refl S⟩
      · split
        · exact ⟨h, Grow.refl S⟩
        · have hi : known S i := Decidable.byContradiction fun h => hu (.inl h)
          have hj : known S j := Decidable.byContradiction fun h => hu (.inr h)
          have := stPut_spec h (fit_pair (i := i) (j := j) (by have := hi.1; omega) hi.2 (by have := hj.1; omega) hj.2 (by omega))
          exact ⟨this.1, this.2.1⟩
theorem stPower_wf {S : Sto} {i k : Int} (h : WF S) : WF (stPower S i k).1 ∧ Grow S (stPower S i k).1 := by
  unfold stPower
  split
  · exact ⟨h, Grow.refl S⟩
  · rename_i hu
    split
    · exact ⟨h, Grow.refl S⟩
    · split
      · exact ⟨h, Grow.refl S⟩
      · split
        · exact ⟨h, Grow.refl S⟩
        · have hi : known S i := Decidable.byContradiction fun h => hu (.inl h)
          have := stPut_spec h (fit_pow (i := i) (k := k) (by have := hi.1; omega) hi.2 (by omega) (by omega))
          exact ⟨this.1, this.2.1⟩
theorem stRul_wf {S : Sto} {r : Rul} {to : List Int} (h : WF S) (hl : r.l < 256) : WF (stRul S r to).1 ∧ Grow S (stRul S r to).1 := by
  unfold stRul
  split
  · exact stLet_wf h (by omega)
  · split
    · exact stPair_wf h
    · exact stPower_wf h

/-- A grammar is added, rule by rule. -/
def stImp : Sto → List Int → List Rul → Option (Sto × List Int)
  | S, to, [] => some (S, to)
  | S, to, r :: g => if (stRul S r to).2.2 = 0 then stImp (stRul S r to).1 (to ++ [(stRul S r to).2.1]) g else none
theorem stImp_cons {S : Sto} {to : List Int} {r : Rul} {g : List Rul} {x : Sto × List Int} (h : stImp S to (r :: g) = some x) : (stRul S r to).2.2 = 0 ∧ stImp (stRul S r to).1 (to ++ [(stRul S r to).2.1]) g = some x := by
  simp only [stImp] at h
  split at h
  · exact ⟨by assumption, h⟩
  · cases h
theorem stImp_wf : ∀ {g : List Rul} {S : Sto} {to : List Int} {x : Sto × List Int}, WF S → (∀ r ∈ g, r.l < 256) → stImp S to g = some x → WF x.1 ∧ Grow S x.1 ∧ x.2.length = to.length + g.length
  | [], S, to, x, h, _, hx => by
    simp only [stImp, Option.some.injEq] at hx
    subst hx
    exact ⟨h, Grow.refl S, rfl⟩
  | r :: g, S, to, x, h, hl, hx => by
    obtain ⟨_, h1⟩ := stImp_cons hx
    obtain ⟨w1, g1⟩ := stRul_wf (to := to) h (hl r List.mem_cons_self)
    obtain ⟨w2, g2, l2⟩ := stImp_wf w1 (fun r hr => hl r (List.mem_cons_of_mem _ hr)) h1
    refine ⟨w2, g1.trans g2, ?_⟩
    simp only [List.length_append, List.length_cons, List.length_nil] at l2 ⊢
    omega
end Go.Proofs.Ytagoedllflalpaa
