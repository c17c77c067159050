/- Grammars: when they are valid, what they derive, that a store takes them. Plain Lean: no program in sight. -/
import Derived.Test.YtagoedllflalpaaSTm
namespace Go.Proofs.Ytagoedllflalpaa
open Go.EG
set_option linter.unusedSimpArgs false
set_option linter.unusedVariables false

def rul0 : Rul := ⟨0, 0, 0, 0, 0⟩
def earl (i n : Int) : Bool := decide (1 ≤ i) && decide (i < n)
/-- The error's number of rule n. -/
def ruleCode (r : Rul) (n : Int) : Int :=
  if r.k = 1 then (if r.a ≠ 0 ∨ r.b ≠ 0 ∨ r.t ≠ 0 then 4 else if n < 1 then 1 else 0)
  else if r.k = 2 then (if r.l ≠ 0 ∨ r.t ≠ 0 then 4 else if n < 1 ∨ earl r.a n = false ∨ earl r.b n = false then 1 else 0)
  else if r.k = 3 then (if r.l ≠ 0 ∨ r.b ≠ 0 ∨ r.t < 2 then 4 else if n < 1 ∨ earl r.a n = false then 1 else 0)
  else 4
theorem earl_t {i n : Int} : earl i n = true ↔ 1 ≤ i ∧ i < n := by simp [earl]
theorem earl_f {i n : Int} : earl i n = false ↔ ¬ (1 ≤ i ∧ i < n) := by simp [earl]
theorem ruleCode_zero {r : Rul} {n : Int} : ruleCode r n = 0 ↔ okR r n := by
  unfold ruleCode okR
  constructor
  · intro h
    split at h
    · split at h
      · omega
      · split at h <;> omega
    · split at h
      · split at h
        · omega
        · split at h
          · omega
          · rename_i h1 h2 h3 h4
            have ha : earl r.a n = true := by cases he : earl r.a n <;> simp_all
            have hb : earl r.b n = true := by cases he : earl r.b n <;> simp_all
            rw [earl_t] at ha hb
            omega
      · split at h
        · split at h
          · omega
          · split at h
            · omega
            · rename_i h1 h2 h3 h4 h5
              have ha : earl r.a n = true := by cases he : earl r.a n <;> simp_all
              rw [earl_t] at ha
              omega
        · omega
  · rintro (h | h | h)
    · rw [if_pos h.1, if_neg (by omega), if_neg (by omega)]
    · have ha : earl r.a n = true := earl_t.2 ⟨by omega, by omega⟩
      have hb : earl r.b n = true := earl_t.2 ⟨by omega, by omega⟩
      rw [if_neg (by omega), if_pos h.1, if_neg (by omega), ha, hb, if_neg (by simp; omega)]
    · have ha : earl r.a n = true := earl_t.2 ⟨by omega, by omega⟩
      rw [if_neg (by omega), if_neg (by omega), if_pos h.1, if_neg (by omega), ha, if_neg (by simp; omega)]

def chk : Int → List Rul → Int
  | _, [] => 0
  | n, r :: g => if ruleCode r n ≠ 0 then ruleCode r n else chk (n + 1) g
theorem chk_zero : ∀ {g : List Rul} {n : Int}, chk n g = 0 ↔ ∀ i, i < g.length → okR (g.getD i rul0) (n + i)
  | [], n => by simp [chk]
  | r :: g, n => by
    simp only [chk]
    constructor
    · intro h i hi
      split at h
      · omega
      · rename_i h0
        have h0 : ruleCode r n = 0 := Decidable.byContradiction h0
        cases i with
        | zero => simpa using ruleCode_zero.1 h0
        | succ i =>
          have := (chk_zero.1 h) i (by simpa using hi)
          rw [List.getD_cons_succ, show n + ((i + 1 : Nat) : Int) = n + 1 + (i : Int) by omega]
          exact this
    · intro h
      have h0 := h 0 (by simp)
      rw [List.getD_cons_zero] at h0
      rw [if_neg (by rw [ruleCode_zero.2 (by simpa using h0)]; simp)]
      refine chk_zero.2 fun i hi => ?_
      have := h (i + 1) (by simpa using hi)
      rw [List.getD_cons_succ, show n + ((i + 1 : Nat) : Int) = n + 1 + (i : Int) by omega] at this
      exact this

/-- What number n derives. -/
def mAt (ms : List Tm) (n : Int) : Tm := if n ≤ 0 then .nil else ms.getD (n.toNat - 1) .nil
def gT (ms : List Tm) (r : Rul) : Tm := if r.k = 1 then .lt r.l.toNat else if r.k = 2 then .pr (mAt ms r.a) (mAt ms r.b) else .pw (mAt ms r.a) r.t.toNat
def gTs : List Tm → List Rul → List Tm
  | ms, [] => ms
  | ms, r :: g => gTs (ms ++ [gT ms r]) g
def gLen : List Tm → List Rul → Bool
  | _, [] => true
  | ms, r :: g => decide ((gT ms r).len ≤ LM) && gLen (ms ++ [gT ms r]) g
theorem gTs_length : ∀ {g : List Rul} {ms : List Tm}, (gTs ms g).length = ms.length + g.length
  | [], ms => rfl
  | r :: g, ms => by
    rw [gTs, gTs_length, List.length_append]
    simp only [List.length_cons, List.length_nil]; omega
theorem mAt_snoc {ms : List Tm} {m : Tm} {n : Int} (h : n ≤ ms.length) : mAt (ms ++ [m]) n = mAt ms n := by
  unfold mAt
  split
  · rfl
  · rw [getD_append_left (by omega)]
theorem mAt_last {ms : List Tm} {m : Tm} : mAt (ms ++ [m]) ((ms.length : Int) + 1) = m := by
  unfold mAt
  rw [if_neg (by omega), show ((ms.length : Int) + 1).toNat - 1 = ms.length by omega, getD_snoc rfl]

structure Rel (S : Sto) (to : List Int) (ms : List Tm) : Prop where
  len : to.length = ms.length + 1
  zero : to.getD 0 0 = 0
  at_ : ∀ i : Nat, 1 ≤ i → i ≤ ms.length → 1 ≤ to.getD i 0 ∧ to.getD i 0 ≤ S.E.length ∧ tm S.E (to.getD i 0) = mAt ms i
theorem Rel.start (S : Sto) : Rel S [0] [] := ⟨rfl, rfl, fun i h1 h2 => absurd h2 (by simp; omega)⟩
theorem Rel.grow {S S' : Sto} {to : List Int} {ms : List Tm} (h : Rel S to ms) (hg : Grow S S') : Rel S' to ms :=
  ⟨h.len, h.zero, fun i h1 h2 => by
    obtain ⟨a, b, c⟩ := h.at_ i h1 h2
    exact ⟨a, by have := hg.len; omega, by rw [hg.tm b]; exact c⟩⟩
theorem Rel.snoc {S : Sto} {to : List Int} {ms : List Tm} {x : Int} {m : Tm} (h : Rel S to ms) (h1 : 1 ≤ x) (h2 : x ≤ S.E.length) (h3 : tm S.E x = m) : Rel S (to ++ [x]) (ms ++ [m]) := by
  have hl := h.len
  refine ⟨by simp; exact hl, by rw [getD_append_left (by omega)]; exact h.zero, fun i k1 k2 => ?_⟩
  rw [List.length_append] at k2
  simp only [List.length_cons, List.length_nil] at k2
  by_cases hi : i ≤ ms.length
  · rw [getD_append_left (by omega), mAt_snoc (by omega)]
    exact h.at_ i k1 hi
  · have : i = ms.length + 1 := by omega
    subst this
    rw [getD_snoc (by omega), show ((ms.length + 1 : Nat) : Int) = (ms.length : Int) + 1 by omega, mAt_last]
    exact ⟨h1, h2, h3⟩

theorem putR {S : Sto} {r : Rul} (h : WF S) (hr : Fit S r) (hroom : S.E.length < S.most) : ∃ S' id, stPut S r = (S', id, 0) ∧ WF S' ∧ Grow S S' ∧ 1 ≤ id ∧ id ≤ S'.E.length ∧ tm S'.E id = mkT S.E r ∧ S'.E.length ≤ S.E.length + 1 := by
  obtain ⟨w1, g1, h0, hn, hl⟩ := stPut_spec h hr
  have hc : (stPut S r).2.2 = 0 := Decidable.byContradiction fun hc => by
    have := (hn hc).2.1
    omega
  obtain ⟨a, b, c, d⟩ := h0 hc
  exact ⟨(stPut S r).1, (stPut S r).2.1, by rw [← hc], w1, g1, a, b.2, c, hl⟩

/-- A valid rule is taken. -/
theorem stRul_ok {S : Sto} {to : List Int} {ms : List Tm} {r : Rul} (h : WF S) (hrel : Rel S to ms) (hr : okR r (ms.length + 1)) (hl : 0 ≤ r.l ∧ r.l < 256) (hlen : (gT ms r).len ≤ LM) (hroom : S.E.length < S.most) :
    ∃ S' id, stRul S r to = (S', id, 0) ∧ WF S' ∧ Grow S S' ∧ 1 ≤ id ∧ id ≤ S'.E.length ∧ tm S'.E id = gT ms r ∧ S'.E.length ≤ S.E.length + 1 := by
  unfold stRul gT at *
  rcases hr with hr | ⟨e1, e2, e3, e4, e5, e6, e7⟩ | ⟨e1, e2, e3, e4, e5, e6⟩
  · rw [if_pos hr.1] at hlen ⊢
    rw [if_pos hr.1]
    obtain ⟨S', id, q1, q2, q3, q4, q5, q6, q7⟩ := putR h (fit_let S (l := r.l.toNat) (by omega)) hroom
    exact ⟨S', id, q1, q2, q3, q4, q5, by rw [q6]; simp [mkT, letR]; omega, q7⟩
  · rw [if_neg (by omega), if_pos e1] at hlen ⊢
    rw [if_neg (by omega), if_pos e1]
    obtain ⟨a1, a2, a3⟩ := hrel.at_ r.a.toNat (by omega) (by omega)
    obtain ⟨b1, b2, b3⟩ := hrel.at_ r.b.toNat (by omega) (by omega)
    rw [show ((r.a.toNat : Nat) : Int) = r.a by omega] at a3
    rw [show ((r.b.toNat : Nat) : Int) = r.b by omega] at b3
    have hle : (tm S.E (to.getD r.a.toNat 0)).len + (tm S.E (to.getD r.b.toNat 0)).len ≤ LM := by
      rw [a3, b3]
      unfold Tm.len at hlen ⊢
      rw [Tm.txt, List.length_append] at hlen
      exact hlen
    obtain ⟨S', id, q1, q2, q3, q4, q5, q6, q7⟩ := putR h (fit_pair a1 a2 b1 b2 hle) hroom
    refine ⟨S', id, ?_, q2, q3, q4, q5, ?_, q7⟩
    · unfold stPair
      rw [if_neg (by simp only [known_iff]; omega), if_neg (by omega), if_neg (by omega), if_neg (by omega)]
      exact q1
    · rw [q6]
      show Tm.pr (tm S.E (to.getD r.a.toNat 0)) (tm S.E (to.getD r.b.toNat 0)) = _
      rw [a3, b3]
  · rw [if_neg (by omega), if_neg (by omega)] at hlen ⊢
    rw [if_neg (by omega), if_neg (by omega)]
    obtain ⟨a1, a2, a3⟩ := hrel.at_ r.a.toNat (by omega) (by omega)
    rw [show ((r.a.toNat : Nat) : Int) = r.a by omega] at a3
    have hle : (tm S.E (to.getD r.a.toNat 0)).len * r.t.toNat ≤ LM := by
      rw [a3]
      unfold Tm.len at hlen ⊢
      rw [Tm.txt, len_rep, Nat.mul_comm] at hlen
      exact hlen
    obtain ⟨S', id, q1, q2, q3, q4, q5, q6, q7⟩ := putR h (fit_pow (k := r.t) a1 a2 e4 hle) hroom
    refine ⟨S', id, ?_, q2, q3, q4, q5, ?_, q7⟩
    · unfold stPower
      rw [if_neg (by simp only [known_iff]; omega), if_neg (by omega), if_neg (by omega), if_neg (by omega)]
      exact q1
    · rw [q6]
      show Tm.pw (tm S.E (to.getD r.a.toNat 0)) r.t.toNat = _
      rw [a3]

/-- A valid grammar is taken. -/
theorem stImp_ok : ∀ {g : List Rul} {S : Sto} {to : List Int} {ms : List Tm}, WF S → Rel S to ms → (∀ i, i < g.length → okR (g.getD i rul0) (ms.length + 1 + i)) → (∀ i, i < g.length → 0 ≤ (g.getD i rul0).l ∧ (g.getD i rul0).l < 256) → gLen ms g = true → S.E.length + g.length ≤ S.most →
    ∃ S' to', stImp S to g = some (S', to') ∧ WF S' ∧ Grow S S' ∧ Rel S' to' (gTs ms g) ∧ S'.E.length ≤ S.E.length + g.length
  | [], S, to, ms, h, hrel, _, _, _, _ => ⟨S, to, rfl, h, Grow.refl S, hrel, Nat.le_refl _⟩
  | r :: g, S, to, ms, h, hrel, hr, hl, hg, hroom => by
    simp only [gLen, Bool.and_eq_true, decide_eq_true_eq] at hg
    rw [List.length_cons] at hroom
    obtain ⟨S1, id, q1, q2, q3, q4, q5, q6, q7⟩ := stRul_ok (r := r) h hrel (by simpa using hr 0 (by simp)) (by simpa using hl 0 (by simp)) hg.1 (by omega)
    have hm := q3.most
    obtain ⟨S', to', k1, k2, k3, k4, k5⟩ := stImp_ok (g := g) (S := S1) (to := to ++ [id]) (ms := ms ++ [gT ms r]) q2 ((hrel.grow q3).snoc q4 q5 q6)
      (fun i hi => by
        have := hr (i + 1) (by simpa using hi)
        rw [List.getD_cons_succ] at this
        rw [List.length_append]
        simp only [List.length_cons, List.length_nil]
        rwa [show ((ms.length : Int) + 1 + ((i + 1 : Nat) : Int)) = ((ms.length + (0 + 1) : Nat) : Int) + 1 + (i : Int) by omega] at this)
      (fun i hi => by simpa using hl (i + 1) (by simpa using hi)) hg.2 (by omega)
    refine ⟨S', to', ?_, k2, q3.trans k3, k4, by rw [List.length_cons]; omega⟩
    simp only [stImp]
    rw [q1]
    exact k1
end Go.Proofs.Ytagoedllflalpaa
