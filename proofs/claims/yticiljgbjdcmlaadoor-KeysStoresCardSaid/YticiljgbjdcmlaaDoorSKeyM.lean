/- Keys and levels of what rules derive. Plain Lean: no program in sight. -/
import Derived.Test.YticiljgbjdcmlaaDoorSTm
import Derived.Test.YticiljgbjdcmlaaDoorDMath
namespace Go.Proofs.YticiljgbjdcmlaaDoor
open Go.EG
set_option linter.unusedSimpArgs false
set_option linter.unusedVariables false

def Tm.key : Tm → Nat
  | .nil => 0
  | .lt l => mixN 1 l 0
  | .pr a b => mixN 2 a.key b.key
  | .pw a k => mixN 3 a.key k
def Tm.level : Tm → Int
  | .nil => 0
  | .lt _ => 0
  | .pr a b => if a ≠ b ∧ 0 ≤ a.level ∧ 0 ≤ b.level then afterF (max a.level b.level) a.key b.key else -1
  | .pw a _ => if 0 ≤ a.level ∧ a.level % 2 = 0 then a.level + 1 else -1

theorem Tm.key_lt (m : Tm) : m.key < PP := by
  cases m
  · exact (by decide : 0 < PP)
  · exact mixN_lt _ _ _
  · exact mixN_lt _ _ _
  · exact mixN_lt _ _ _
theorem Tm.key_lt' (m : Tm) : m.key < 18446744073709551616 := Nat.lt_trans m.key_lt (by decide)

theorem afterF_le (low x y : Int) (h : 0 ≤ low) : 0 ≤ afterF low x y ∧ afterF low x y ≤ low + 246 := by
  have key : ∀ (n : Nat) (p : Int → Bool) (k : Int), 0 ≤ k → 0 ≤ srch p n k ∧ srch p n k ≤ k + n - 1 ∨ srch p n k = 0 := by
    intro n
    induction n with
    | zero => intro p k hk; exact .inr rfl
    | succ n ih =>
      intro p k hk
      have e : srch p (n + 1) k = if p k = true then k else srch p n (k + 1) := rfl
      rw [e]
      split
      · exact .inl ⟨hk, by omega⟩
      · rcases ih p (k + 1) (by omega) with h | h
        · exact .inl ⟨h.1, by omega⟩
        · exact .inr h
  rcases key 246 (fitsF x y) (low + 1) (by omega) with h1 | h1
  · have : afterF low x y = srch (fitsF x y) 246 (low + 1) := rfl
    omega
  · have : afterF low x y = srch (fitsF x y) 246 (low + 1) := rfl
    omega

theorem WF.lev {S : Sto} (h : WF S) : ∀ (k : Nat) (n : Int), n = k → 1 ≤ n → n ≤ S.E.length → -1 ≤ (tm S.E n).level ∧ (tm S.E n).level ≤ 246 * k := by
  intro k
  induction k using Nat.strongRecOn with
  | ind k ih =>
    intro n hk h0 h1
    obtain ⟨hr, _, ht, _⟩ := h.at_ h0 h1
    rw [ht]
    unfold mkT
    rcases hr with hr | ⟨h1', h2', h3', h4', h5', h6', h7'⟩ | ⟨h1', h2', h3', h4', h5', h6'⟩
    · rw [if_pos hr.1]; exact ⟨by simp [Tm.level], by simp [Tm.level]; omega⟩
    · rw [if_neg (by omega), if_pos h1']
      have i1 := ih (atE S.E n).r.a.toNat (by omega) (atE S.E n).r.a (by omega) h4' (by omega)
      have i2 := ih (atE S.E n).r.b.toNat (by omega) (atE S.E n).r.b (by omega) h6' (by omega)
      simp only [Tm.level]
      split
      · rename_i hc
        have := afterF_le (max (tm S.E (atE S.E n).r.a).level (tm S.E (atE S.E n).r.b).level) (tm S.E (atE S.E n).r.a).key (tm S.E (atE S.E n).r.b).key (by omega)
        omega
      · omega
    · rw [if_neg (by omega), if_neg (by omega)]
      have i1 := ih (atE S.E n).r.a.toNat (by omega) (atE S.E n).r.a (by omega) h5' (by omega)
      simp only [Tm.level]
      split <;> omega
theorem WF.lev' {S : Sto} (h : WF S) {n : Int} (h0 : 0 ≤ n) (h1 : n ≤ S.E.length) : -1 ≤ (tm S.E n).level ∧ (tm S.E n).level ≤ 257949696 := by
  by_cases hz : n = 0
  · subst hz; rw [tm_zero]; exact ⟨by decide, by decide⟩
  · have := h.lev n.toNat n (by omega) (by omega) h1
    have := h.small
    omega

/-- What is derived tells the rule. -/
theorem WF.inj {S : Sto} (h : WF S) : ∀ (k : Nat) (i j : Int), i = k → 1 ≤ i → i ≤ S.E.length → 1 ≤ j → j ≤ S.E.length → tm S.E i = tm S.E j → i = j := by
  intro k
  induction k using Nat.strongRecOn with
  | ind k ih =>
    intro i j hk h0 h1 k0 k1 he
    obtain ⟨hr, hl, ht, _, hu⟩ := h.at_ h0 h1
    obtain ⟨hr', hl', ht', _, hu'⟩ := h.at_ k0 k1
    rw [ht, ht'] at he
    have hrul : (atE S.E i).r = (atE S.E j).r := by
      unfold mkT at he
      generalize (atE S.E i).r = r at *
      generalize (atE S.E j).r = r' at *
      obtain ⟨rk, rl, ra, rb, rt⟩ := r
      obtain ⟨rk', rl', ra', rb', rt'⟩ := r'
      simp only [okR] at hr hr'
      dsimp only at he hl hl'
      rcases hr with ⟨e1, e2, e3, e4, _⟩ | ⟨e1, e2, e3, e4, e5, e6, e7⟩ | ⟨e1, e2, e3, e4, e5, e6⟩
      · rw [if_pos e1] at he
        rcases hr' with ⟨e1', e2', e3', e4', _⟩ | ⟨e1', e2', e3', e4', e5', e6', e7'⟩ | ⟨e1', e2', e3', e4', e5', e6'⟩
        · rw [if_pos e1'] at he
          injection he with he
          have : rl = rl' := by omega
          subst this e1 e2 e3 e4 e1' e2' e3' e4'
          rfl
        · rw [if_neg (by omega), if_pos e1'] at he; cases he
        · rw [if_neg (by omega), if_neg (by omega)] at he; cases he
      · rw [if_neg (by omega), if_pos e1] at he
        rcases hr' with ⟨e1', e2', e3', e4', _⟩ | ⟨e1', e2', e3', e4', e5', e6', e7'⟩ | ⟨e1', e2', e3', e4', e5', e6'⟩
        · rw [if_pos e1'] at he; cases he
        · rw [if_neg (by omega), if_pos e1'] at he
          injection he with he1 he2
          have q1 := ih ra.toNat (by omega) ra ra' (by omega) (by omega) (by omega) (by omega) (by omega) he1
          have q2 := ih rb.toNat (by omega) rb rb' (by omega) (by omega) (by omega) (by omega) (by omega) he2
          subst q1 q2 e1 e2 e3 e1' e2' e3'
          rfl
        · rw [if_neg (by omega), if_neg (by omega)] at he; cases he
      · rw [if_neg (by omega), if_neg (by omega)] at he
        rcases hr' with ⟨e1', e2', e3', e4', _⟩ | ⟨e1', e2', e3', e4', e5', e6', e7'⟩ | ⟨e1', e2', e3', e4', e5', e6'⟩
        · rw [if_pos e1'] at he; cases he
        · rw [if_neg (by omega), if_pos e1'] at he; cases he
        · rw [if_neg (by omega), if_neg (by omega)] at he
          injection he with he1 he2
          have q1 := ih ra.toNat (by omega) ra ra' (by omega) (by omega) (by omega) (by omega) (by omega) he1
          have q2 : rt = rt' := by omega
          subst q1 q2 e1 e2 e3 e1' e2' e3'
          rfl
    rw [hrul] at hu
    rw [hu] at hu'
    omega
theorem WF.inj_iff {S : Sto} (h : WF S) {i j : Int} (h0 : 1 ≤ i) (h1 : i ≤ S.E.length) (k0 : 1 ≤ j) (k1 : j ≤ S.E.length) : tm S.E i = tm S.E j ↔ i = j :=
  ⟨h.inj i.toNat i j (by omega) h0 h1 k0 k1, fun h => by rw [h]⟩

/-! ### The rows of a table -/

abbrev Krow : Type := Nat × Int × Bool
def row0 : Krow := (0, 0, false)
def rowT (m : Tm) : Krow := (m.key, m.level, true)
abbrev krC (x : Krow) : List Value := [.int .u64 x.1, .int .i64 x.2.1, .bool x.2.2]
def krsC (l : List Krow) : List Value := l.flatMap krC
theorem krsC_length : ∀ g : List Krow, (krsC g).length = g.length * 3
  | [] => rfl
  | x :: g => by
    have := krsC_length g
    simp only [krsC, List.flatMap_cons, List.length_append, List.length_cons, List.length_nil] at this ⊢
    omega
theorem krsC_at : ∀ {g : List Krow} {i : Nat}, i < g.length → ((krsC g).drop (i * 3)).take 3 = krC (g.getD i row0)
  | x :: g, 0, _ => by simp [krsC, krC]
  | x :: g, i + 1, h => by
    have ih := krsC_at (g := g) (i := i) (by simpa using h)
    have e1 : krsC (x :: g) = krC x ++ krsC g := by simp [krsC]
    rw [e1, show (i + 1) * 3 = (krC x).length + i * 3 by simp [krC]; omega, ← List.drop_drop, List.drop_left]
    simpa using ih
theorem krsC_known {g : List Krow} {i : Nat} (h : i < g.length) : (krsC g)[i * 3 + 2]? = some (.bool (g.getD i row0).2.2) := by
  have := congrArg (fun l => l[2]?) (krsC_at h)
  simpa [krC] using this
theorem krsC_zeros (g : List Krow) (m : Nat) : krsC g ++ (List.replicate m [Value.int .u64 0, .int .i64 0, .bool false]).flatten = krsC (g ++ List.replicate m row0) := by
  have e : (List.replicate m [Value.int .u64 0, .int .i64 0, .bool false]).flatten = krsC (List.replicate m row0) := by
    induction m with
    | zero => rfl
    | succ m ih => rw [List.replicate_succ, List.replicate_succ, List.flatten_cons, ih]; rfl
  rw [e]
  simp [krsC]
theorem krsC_set : ∀ {g : List Krow} {i : Nat} {x : Krow}, i < g.length → splice (krsC g) (i * 3) (krC x) = krsC (g.set i x)
  | y :: g, 0, x, _ => by simp [krsC, krC, splice]
  | y :: g, i + 1, x, h => by
    have ih := krsC_set (g := g) (i := i) (x := x) (by simpa using h)
    have e1 : krsC (y :: g) = krC y ++ krsC g := by simp [krsC]
    have e2 : krsC ((y :: g).set (i + 1) x) = krC y ++ krsC (g.set i x) := by simp [krsC]
    rw [e1, e2, ← ih]
    unfold splice
    rw [show (i + 1) * 3 = i * 3 + 1 + 1 + 1 by omega, show i * 3 + 1 + 1 + 1 + (krC x).length = (i * 3 + (krC x).length) + 1 + 1 + 1 by omega]
    rfl

/-- The rows are those of the rules. -/
def TI (E : List Entr) (rows : List Krow) : Prop :=
  rows.length ≤ E.length + 1 ∧ ∀ i, i < rows.length → rows.getD i row0 = row0 ∨ (1 ≤ i ∧ rows.getD i row0 = rowT (tm E i))
theorem TI.nil (E : List Entr) : TI E [] := ⟨Nat.zero_le _, fun i h => absurd h (Nat.not_lt_zero i)⟩
theorem TI.mono {E E' : List Entr} {rows : List Krow} (h : TI E rows) : TI (E ++ E') rows := by
  refine ⟨by rw [List.length_append]; have := h.1; omega, fun i hi => ?_⟩
  rcases h.2 i hi with h1 | ⟨h1, h2⟩
  · exact .inl h1
  · exact .inr ⟨h1, by rw [tm_append (by have := h.1; omega)]; exact h2⟩
theorem TI.zeros {E : List Entr} {rows : List Krow} (h : TI E rows) {m : Nat} (hm : rows.length + m ≤ E.length + 1) : TI E (rows ++ List.replicate m row0) := by
  refine ⟨by simp; exact hm, fun i hi => ?_⟩
  by_cases hl : i < rows.length
  · rw [getD_append_left hl]; exact h.2 i hl
  · left
    rw [List.getD_eq_getElem?_getD, List.getElem?_append_right (by omega), List.getElem?_replicate]
    split <;> rfl
theorem getD_set {α : Type} {l : List α} {i j : Nat} {x d : α} (h : i < l.length) : (l.set i x).getD j d = if i = j then x else l.getD j d := by
  rw [List.getD_eq_getElem?_getD, List.getElem?_set, List.getD_eq_getElem?_getD]
  split
  · rfl
  · rfl
theorem TI.set {E : List Entr} {rows : List Krow} (h : TI E rows) {x : Nat} (h1 : 1 ≤ x) (h2 : x < rows.length) : TI E (rows.set x (rowT (tm E x))) := by
  refine ⟨by simpa using h.1, fun i hi => ?_⟩
  rw [List.length_set] at hi
  rw [getD_set h2]
  split
  · rename_i he
    subst he
    exact .inr ⟨h1, rfl⟩
  · exact h.2 i hi
theorem TI.at0 {E : List Entr} {rows : List Krow} (h : TI E rows) (h0 : 0 < rows.length) : rows.getD 0 row0 = row0 := by
  rcases h.2 0 h0 with h | h
  · exact h
  · omega
/-- How many rows are not known. -/
def unk (rows : List Krow) : Nat := rows.countP fun r => !r.2.2
theorem unk_set {rows : List Krow} {x : Nat} {m : Tm} (h : x < rows.length) (hu : rows.getD x row0 = row0) : unk (rows.set x (rowT m)) + 1 = unk rows := by
  unfold unk
  rw [List.countP_set h]
  have h1 : rows[x] = row0 := by
    rw [List.getD_eq_getElem?_getD, List.getElem?_eq_getElem h] at hu
    exact hu
  rw [h1]
  have hp : 0 < rows.countP fun r => !r.2.2 := List.countP_pos_iff.2 ⟨rows[x], List.getElem_mem h, by rw [h1]; rfl⟩
  simp [row0, rowT]
  omega
end Go.Proofs.YticiljgbjdcmlaaDoor
