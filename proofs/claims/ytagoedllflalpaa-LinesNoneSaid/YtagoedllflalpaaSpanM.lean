/- Ranges that have yet to be divided. Plain Lean: no program in sight. -/
import Derived.Test.YtagoedllflalpaaAccM
namespace Go.Proofs.Ytagoedllflalpaa
open Go.EG
set_option linter.unusedSimpArgs false
set_option linter.unusedVariables false

structure Spn where
  id : Int
  fr : Nat
  n : Nat
  times : Nat
def spn0 : Spn := ⟨0, 0, 0, 0⟩
def spTx (E : List Entr) (s : Spn) : List Nat := rep s.times (sub (tm E s.id).txt s.fr s.n)
/-- Of a stack the last is taken first. -/
def stTx (E : List Entr) : List Spn → List Nat
  | [] => []
  | s :: st => stTx E st ++ spTx E s
theorem stTx_snoc (E : List Entr) : ∀ (st : List Spn) (x : Spn), stTx E (st ++ [x]) = spTx E x ++ stTx E st
  | [], x => by simp [stTx]
  | s :: st, x => by
    rw [List.cons_append, stTx, stTx_snoc E st x, stTx, List.append_assoc]

structure okSp (S : Sto) (d0 p : Nat) (s : Spn) : Prop where
  known : known S s.id
  fit : s.fr + s.n ≤ (tm S.E s.id).len
  tim : s.times = 1 ∨ (s.fr = 0 ∧ s.n = (tm S.E s.id).len)
  big : s.times ≤ 1152921504606846976
  pos : p + 2 * (tm S.E s.id).dep ≤ 2 * d0
def okSt (S : Sto) (d0 : Nat) (st : List Spn) : Prop := ∀ p, p < st.length → okSp S d0 p (st.getD p spn0)
theorem okSt.nil (S : Sto) (d0 : Nat) : okSt S d0 [] := fun p h => absurd h (Nat.not_lt_zero p)
theorem okSt.snoc {S : Sto} {d0 : Nat} {st : List Spn} {x : Spn} (h : okSt S d0 st) (hx : okSp S d0 st.length x) : okSt S d0 (st ++ [x]) := fun p hp => by
  rw [List.length_append] at hp
  simp only [List.length_cons, List.length_nil] at hp
  by_cases hl : p < st.length
  · rw [getD_append_left hl]; exact h p hl
  · have : p = st.length := by omega
    subst this
    rw [getD_snoc rfl]; exact hx
theorem okSt.init {S : Sto} {d0 : Nat} {st : List Spn} {x : Spn} (h : okSt S d0 (st ++ [x])) : okSt S d0 st := fun p hp => by
  have := h p (by simp; omega)
  rwa [getD_append_left hp] at this
theorem okSt.last {S : Sto} {d0 : Nat} {st : List Spn} {x : Spn} (h : okSt S d0 (st ++ [x])) : okSp S d0 st.length x := by
  have := h st.length (by simp)
  rwa [getD_snoc rfl] at this
theorem okSt.len {S : Sto} {d0 : Nat} {st : List Spn} (h : okSt S d0 st) : st.length ≤ 2 * d0 + 1 := by
  by_cases h0 : st.length = 0
  · omega
  · have := (h (st.length - 1) (by omega)).pos
    omega

/-- The work that is left. -/
def wkSp (E : List Entr) (s : Spn) : Nat := 4 ^ (tm E s.id).dep
def wkSt (E : List Entr) : List Spn → Nat
  | [] => 0
  | s :: st => wkSp E s + wkSt E st
theorem wkSt_append (E : List Entr) : ∀ (s t : List Spn), wkSt E (s ++ t) = wkSt E s + wkSt E t
  | [], t => by simp [wkSt]
  | x :: s, t => by rw [List.cons_append, wkSt, wkSt_append E s t, wkSt]; omega
theorem wkSp_pos (E : List Entr) (s : Spn) : 0 < wkSp E s := Nat.pow_pos (by decide)
theorem wk_le {d d' : Nat} (h : d < d') : 4 * 4 ^ d ≤ 4 ^ d' := by
  rw [← Nat.pow_succ']
  exact Nat.pow_le_pow_right (by decide) h

def halveL (r : Rul) (left : Nat) (x : Spn) : List Spn :=
  [⟨r.b, x.fr - left, x.n - min (left - x.fr) x.n, 1⟩, ⟨r.a, min x.fr left, min (left - x.fr) x.n, 1⟩]
def divideL (r : Rul) (left : Nat) (x : Spn) : List Spn :=
  if x.fr % left + x.n ≤ left then [⟨r.a, x.fr % left, x.n, 1⟩]
  else [⟨r.a, 0, (x.n - (left - x.fr % left) % left) % left, 1⟩, ⟨r.a, 0, left, (x.n - (left - x.fr % left) % left) / left⟩, ⟨r.a, x.fr % left, (left - x.fr % left) % left, 1⟩]

theorem halve_ok {S : Sto} (hw : WF S) {d0 : Nat} {st : List Spn} {x : Spn} (h : okSt S d0 (st ++ [x])) (h1 : x.times = 1) (hid : 1 ≤ x.id) (hk : (atE S.E x.id).r.k = 2) :
    okSt S d0 (st ++ halveL (atE S.E x.id).r (tm S.E (atE S.E x.id).r.a).len x) ∧ stTx S.E (st ++ halveL (atE S.E x.id).r (tm S.E (atE S.E x.id).r.a).len x) = spTx S.E x ++ stTx S.E st ∧
    wkSt S.E (st ++ halveL (atE S.E x.id).r (tm S.E (atE S.E x.id).r.a).len x) < wkSt S.E (st ++ [x]) := by
  have hx := h.last
  have hi := h.init
  obtain ⟨k1, k2⟩ := hx.known
  have hfit := hx.fit
  have hpos := hx.pos
  rcases hw.below hid k2 with ⟨hk', _⟩ | ⟨_, ht, a1, a2, b1, b2⟩ | ⟨hk', _⟩
  · omega
  · generalize (atE S.E x.id).r = r at *
    rw [ht, Tm.len_pr] at hfit
    have hd : (tm S.E x.id).dep = 1 + max (tm S.E r.a).dep (tm S.E r.b).dep := by rw [ht]; rfl
    have e : st ++ halveL r (tm S.E r.a).len x = (st ++ [⟨r.b, x.fr - (tm S.E r.a).len, x.n - min ((tm S.E r.a).len - x.fr) x.n, 1⟩]) ++ [⟨r.a, min x.fr (tm S.E r.a).len, min ((tm S.E r.a).len - x.fr) x.n, 1⟩] := by simp [halveL]
    refine ⟨?_, ?_, ?_⟩
    · rw [e]
      refine (hi.snoc ⟨⟨by dsimp only; omega, by dsimp only; omega⟩, by dsimp only; omega, .inl rfl, by dsimp only; omega, by dsimp only; omega⟩).snoc ⟨⟨by dsimp only; omega, by dsimp only; omega⟩, by dsimp only; omega, .inl rfl, by dsimp only; omega, ?_⟩
      rw [List.length_append]
      simp only [List.length_cons, List.length_nil]
      omega
    · rw [e, stTx_snoc, stTx_snoc, ← List.append_assoc]
      congr 1
      unfold spTx
      rw [h1, ht, Tm.txt]
      simp only [rep_one]
      unfold Tm.len at hfit
      rw [sub_pair (by unfold Tm.len at *; exact hfit)]
      rfl
    · rw [wkSt_append, wkSt_append]
      simp only [halveL, wkSt, wkSp, hd]
      have q1 := wk_le (d := (tm S.E r.a).dep) (d' := 1 + max (tm S.E r.a).dep (tm S.E r.b).dep) (by omega)
      have q2 := wk_le (d := (tm S.E r.b).dep) (d' := 1 + max (tm S.E r.a).dep (tm S.E r.b).dep) (by omega)
      have q3 : 0 < 4 ^ (tm S.E r.a).dep := Nat.pow_pos (by decide)
      omega
  · omega

theorem divide_ok {S : Sto} (hw : WF S) {d0 : Nat} {st : List Spn} {x : Spn} (h : okSt S d0 (st ++ [x])) (h1 : x.times = 1) (hn : 0 < x.n) (hid : 1 ≤ x.id) (hk : (atE S.E x.id).r.k = 3) :
    okSt S d0 (st ++ divideL (atE S.E x.id).r (tm S.E (atE S.E x.id).r.a).len x) ∧ stTx S.E (st ++ divideL (atE S.E x.id).r (tm S.E (atE S.E x.id).r.a).len x) = spTx S.E x ++ stTx S.E st ∧
    wkSt S.E (st ++ divideL (atE S.E x.id).r (tm S.E (atE S.E x.id).r.a).len x) < wkSt S.E (st ++ [x]) := by
  have hx := h.last
  have hi := h.init
  obtain ⟨k1, k2⟩ := hx.known
  have hfit := hx.fit
  have hpos := hx.pos
  have hlen := hw.le k2
  rcases hw.below hid k2 with ⟨hk', _⟩ | ⟨hk', _⟩ | ⟨_, ht, a1, a2, t2⟩
  · omega
  · omega
  · have hp := hw.pos1 a1 (by omega)
    generalize (atE S.E x.id).r = r at *
    rw [ht, Tm.len_pw] at hfit
    have hl2 : r.t.toNat * (tm S.E r.a).len ≤ LM := by rw [ht, Tm.len_pw] at hlen; exact hlen
    have hd : (tm S.E x.id).dep = 1 + (tm S.E r.a).dep := by rw [ht]; rfl
    have hmod := Nat.mod_lt x.fr (show 0 < (tm S.E r.a).len by omega)
    unfold divideL
    generalize hL : (tm S.E r.a).len = L at *
    have hxn : x.n ≤ 1152921504606846976 := by unfold LM at hl2; omega
    have htx : spTx S.E x = sub (rep r.t.toNat (tm S.E r.a).txt) x.fr x.n := by
      unfold spTx
      rw [h1, rep_one, ht, Tm.txt]
    have hLt : (tm S.E r.a).txt.length = L := hL
    have q3 : 0 < 4 ^ (tm S.E r.a).dep := Nat.pow_pos (by decide)
    have q1 := wk_le (d := (tm S.E r.a).dep) (d' := 1 + (tm S.E r.a).dep) (by omega)
    split
    · rename_i hin
      refine ⟨?_, ?_, ?_⟩
      · exact hi.snoc ⟨⟨by dsimp only; omega, by dsimp only; omega⟩, by dsimp only; rw [hL]; exact hin, .inl rfl, by dsimp only; omega, by dsimp only; omega⟩
      · rw [stTx_snoc, htx]
        congr 1
        unfold spTx
        rw [rep_one, sub_rep_in (by rw [hLt]; omega) (by rw [hLt]; exact hfit) (by rw [hLt]; exact hin) hn, hLt]
      · rw [wkSt_append, wkSt_append]
        simp only [wkSt, wkSp, hd]
        omega
    · rename_i hout
      have m1 := Nat.mod_lt (x.n - (L - x.fr % L) % L) (show 0 < L by omega)
      have m2 := Nat.mod_lt (L - x.fr % L) (show 0 < L by omega)
      have m3 : (x.n - (L - x.fr % L) % L) / L ≤ x.n - (L - x.fr % L) % L := Nat.div_le_self _ _
      have m4 : x.fr % L + (L - x.fr % L) % L ≤ L := by
        by_cases h0 : x.fr % L = 0
        · rw [h0, Nat.zero_add, Nat.sub_zero, Nat.mod_self]; exact Nat.zero_le _
        · rw [Nat.mod_eq_of_lt (show L - x.fr % L < L by omega)]; omega
      generalize hA : (x.n - (L - x.fr % L) % L) % L = A at *
      generalize hB : (x.n - (L - x.fr % L) % L) / L = B at *
      generalize hC : (L - x.fr % L) % L = C at *
      have e : st ++ [(⟨r.a, 0, A, 1⟩ : Spn), ⟨r.a, 0, L, B⟩, ⟨r.a, x.fr % L, C, 1⟩] = ((st ++ [(⟨r.a, 0, A, 1⟩ : Spn)]) ++ [⟨r.a, 0, L, B⟩]) ++ [⟨r.a, x.fr % L, C, 1⟩] := by simp
      refine ⟨?_, ?_, ?_⟩
      · rw [e]
        refine ((hi.snoc ⟨⟨by dsimp only; omega, by dsimp only; omega⟩, by dsimp only; omega, .inl rfl, by dsimp only; omega, by dsimp only; omega⟩).snoc ⟨⟨by dsimp only; omega, by dsimp only; omega⟩, by dsimp only; omega, .inr ⟨rfl, hL.symm⟩, by dsimp only; omega, ?_⟩).snoc ⟨⟨by dsimp only; omega, by dsimp only; omega⟩, by dsimp only; omega, .inl rfl, by dsimp only; omega, ?_⟩
        · simp only [List.length_append, List.length_cons, List.length_nil]; omega
        · simp only [List.length_append, List.length_cons, List.length_nil]; omega
      · rw [e, stTx_snoc, stTx_snoc, stTx_snoc, htx]
        unfold spTx
        simp only [rep_one]
        rw [sub_rep_out (by rw [hLt]; omega) (by rw [hLt]; exact hfit) (by rw [hLt]; omega), hLt, hC, hA, hB]
        have : sub (tm S.E r.a).txt 0 L = (tm S.E r.a).txt := by rw [← hLt, sub_all]
        rw [this]
        simp only [List.append_assoc]
      · rw [wkSt_append, wkSt_append]
        simp only [wkSt, wkSp, hd]
        omega
end Go.Proofs.Ytagoedllflalpaa
