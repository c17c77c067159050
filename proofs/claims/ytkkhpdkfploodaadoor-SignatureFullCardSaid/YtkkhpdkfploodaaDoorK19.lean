/- The symbols that a symbol is made of, in order of first completion. Plain Lean: no program in sight. -/
import Derived.Test.YtkkhpdkfploodaaDoorK5
import Derived.Test.YtkkhpdkfploodaaDoorK13
import Derived.Test.YtkkhpdkfploodaaDoorK18
import Derived.Test.YtkkhpdkfploodaaDoorK7
import Derived.Test.YtkkhpdkfploodaaDoorK17
import Derived.Test.YtkkhpdkfploodaaDoorK15
namespace Go.Proofs.YtkkhpdkfploodaaDoor
open Go.EG
set_option linter.unusedSimpArgs false
set_option linter.unusedVariables false

def compT : Tm → List Tm → List Tm
  | .nil, d => d
  | .lt x, d => if Tm.lt x ∈ d then d else d ++ [.lt x]
  | .pr a b, d => if Tm.pr a b ∈ d then d else compT b (compT a d) ++ [.pr a b]
  | .pw a k, d => if Tm.pw a k ∈ d then d else compT a d ++ [.pw a k]
def posT (d : List Tm) (m : Tm) : Int := if m ∈ d then (d.idxOf m : Int) + 1 else 0
def rulT (d : List Tm) : Tm → Rul
  | .nil => rul0
  | .lt x => letR x
  | .pr a b => pairR (posT d a) (posT d b)
  | .pw a k => powR (posT d a) k
/-- The rules of a symbol, in order of first completion, numbered from 1 on. -/
def canT (m : Tm) : List Rul := (compT m []).map (rulT (compT m []))
def kids : Tm → List Tm
  | .pr a b => [a, b]
  | .pw a _ => [a]
  | _ => []
def Cl (d : List Tm) : Prop := ∀ p x q, d = p ++ x :: q → ∀ c ∈ kids x, c ∈ p
theorem Cl.nil : Cl [] := fun p x q e => by simp at e
theorem Cl.snoc {d : List Tm} {m : Tm} (h : Cl d) (hk : ∀ c ∈ kids m, c ∈ d) : Cl (d ++ [m]) := fun p x q e c hc => by
  rcases List.eq_nil_or_concat q with rfl | ⟨q', z, rfl⟩
  · have := List.append_inj' e rfl
    have hx : m = x := by simpa using this.2
    rw [← this.1]
    exact hk c (by rw [hx]; exact hc)
  · have e2 : d ++ [m] = (p ++ x :: q') ++ [z] := by rw [e]; simp
    have := List.append_inj' e2 rfl
    exact h p x q' this.1 c hc
theorem Sub.size {x m : Tm} (h : Sub x m) : SizeOf.sizeOf x ≤ SizeOf.sizeOf m := by
  induction h with
  | refl => exact Nat.le_refl _
  | left _ ih => simp only [Tm.pr.sizeOf_spec]; omega
  | right _ ih => simp only [Tm.pr.sizeOf_spec]; omega
  | pow _ ih => simp only [Tm.pw.sizeOf_spec]; omega
structure Comp (m : Tm) (d d' : List Tm) : Prop where
  cl : Cl d'
  nodup : d'.Nodup
  pre : ∃ e, d' = d ++ e
  mem : m ∈ d'
  sub : ∀ x ∈ d', x ∈ d ∨ Sub x m
theorem Comp.same {m : Tm} {d : List Tm} (h1 : Cl d) (h2 : d.Nodup) (h : m ∈ d) : Comp m d d := ⟨h1, h2, ⟨[], by simp⟩, h, fun x hx => .inl hx⟩
theorem snoc_nodup {d : List Tm} {m : Tm} (h : d.Nodup) (hm : m ∉ d) : (d ++ [m]).Nodup :=
  List.nodup_append.2 ⟨h, by simp, fun a ha b hb => by
    rw [List.mem_singleton] at hb
    subst hb
    exact fun he => hm (he ▸ ha)⟩
theorem comp_spec : ∀ {m : Tm}, Pos m → ∀ {d : List Tm}, Cl d → d.Nodup → Comp m d (compT m d)
  | .nil, h, _, _, _ => h.elim
  | .lt x, _, d, h1, h2 => by
    rw [compT]
    split
    · rename_i h; exact .same h1 h2 h
    · rename_i h
      exact ⟨h1.snoc (by simp [kids]), snoc_nodup h2 h, ⟨_, rfl⟩, by simp, fun y hy => by
        rcases List.mem_append.1 hy with hy | hy
        · exact .inl hy
        · rw [List.mem_singleton.1 hy]; exact .inr (.refl _)⟩
  | .pr a b, hp, d, h1, h2 => by
    rw [compT]
    split
    · rename_i h; exact .same h1 h2 h
    · rename_i h
      have ca := comp_spec hp.1 h1 h2
      have cb := comp_spec hp.2 ca.cl ca.nodup
      obtain ⟨e1, q1⟩ := ca.pre
      obtain ⟨e2, q2⟩ := cb.pre
      have hn : Tm.pr a b ∉ compT b (compT a d) := fun hm => by
        rcases cb.sub _ hm with hm | hm
        · rcases ca.sub _ hm with hm | hm
          · exact h hm
          · have := hm.size; simp only [Tm.pr.sizeOf_spec] at this; omega
        · have := hm.size; simp only [Tm.pr.sizeOf_spec] at this; omega
      refine ⟨cb.cl.snoc fun c hc => ?_, snoc_nodup cb.nodup hn, ⟨e1 ++ e2 ++ [.pr a b], by rw [q2, q1]; simp⟩, by simp, fun y hy => ?_⟩
      · simp only [kids, List.mem_cons, List.not_mem_nil, or_false] at hc
        rcases hc with rfl | rfl
        · rw [q2]; exact List.mem_append_left _ ca.mem
        · exact cb.mem
      · rcases List.mem_append.1 hy with hy | hy
        · rcases cb.sub y hy with hy | hy
          · rcases ca.sub y hy with hy | hy
            · exact .inl hy
            · exact .inr (.left hy)
          · exact .inr (.right hy)
        · rw [List.mem_singleton.1 hy]; exact .inr (.refl _)
  | .pw a k, hp, d, h1, h2 => by
    rw [compT]
    split
    · rename_i h; exact .same h1 h2 h
    · rename_i h
      have ca := comp_spec hp.2 h1 h2
      obtain ⟨e1, q1⟩ := ca.pre
      have hn : Tm.pw a k ∉ compT a d := fun hm => by
        rcases ca.sub _ hm with hm | hm
        · exact h hm
        · have := hm.size; simp only [Tm.pw.sizeOf_spec] at this; omega
      refine ⟨ca.cl.snoc fun c hc => ?_, snoc_nodup ca.nodup hn, ⟨e1 ++ [.pw a k], by rw [q1]; simp⟩, by simp, fun y hy => ?_⟩
      · simp only [kids, List.mem_cons, List.not_mem_nil, or_false] at hc
        rw [hc]; exact ca.mem
      · rcases List.mem_append.1 hy with hy | hy
        · rcases ca.sub y hy with hy | hy
          · exact .inl hy
          · exact .inr (.pow hy)
        · rw [List.mem_singleton.1 hy]; exact .inr (.refl _)
theorem canT_length (m : Tm) : (canT m).length = (compT m []).length := by simp [canT]

/-! ### In a grammar -/

/-- A grammar in which no two numbers derive by the same rules. -/
structure Grn (g : List Rul) (ms : List Tm) : Prop where
  gr : Gr g ms
  inj : ∀ i j : Nat, i < g.length → j < g.length → ms.getD i .nil = ms.getD j .nil → i = j
theorem mAt_succ (ms : List Tm) (i : Nat) : mAt ms ((i : Int) + 1) = ms.getD i .nil := by
  unfold mAt
  rw [if_neg (by omega), show ((i : Int) + 1).toNat - 1 = i by omega]
theorem Gr.pos {g : List Rul} {ms : List Tm} (h : Gr g ms) : ∀ {i : Nat}, i < g.length → Pos (mAt ms ((i : Int) + 1)) := fun {i} => by
  induction i using Nat.strongRecOn with
  | ind i ih =>
    intro hi
    obtain ⟨hc, _⟩ := h.cases hi
    rcases hc with ⟨_, _, _, l, _, _, e⟩ | ⟨_, p, q, h1, h2, _, _, e, _⟩ | ⟨_, _, p, k, h1, h2, _, _, e, _⟩
    · rw [e]; trivial
    · rw [e]; exact ⟨ih p h1 (by omega), ih q h2 (by omega)⟩
    · rw [e]; exact ⟨by omega, ih p h1 (by omega)⟩
theorem Grn.inj' {g : List Rul} {ms : List Tm} (h : Grn g ms) {i j : Int} (h1 : 0 ≤ i) (h2 : i ≤ g.length) (h3 : 1 ≤ j) (h4 : j ≤ g.length) (e : mAt ms i = mAt ms j) : i = j := by
  obtain ⟨b, rfl⟩ : ∃ b : Nat, j = (b : Int) + 1 := ⟨(j - 1).toNat, by omega⟩
  by_cases h0 : i = 0
  · subst h0
    have := h.gr.pos (i := b) (by omega)
    rw [← e] at this
    exact this.elim
  · obtain ⟨a, rfl⟩ : ∃ a : Nat, i = (a : Int) + 1 := ⟨(i - 1).toNat, by omega⟩
    rw [mAt_succ, mAt_succ] at e
    have := h.inj a b (by omega) (by omega) e
    omega
/-- What is done. -/
def dnL (ms : List Tm) (n : Nat) (d : List Tm) : List Bool := (List.range (n + 1)).map fun j : Nat => decide (mAt ms (j : Int) ∈ d)
theorem dnL_length (ms : List Tm) (n : Nat) (d : List Tm) : (dnL ms n d).length = n + 1 := by simp [dnL]
theorem dnL_nil (ms : List Tm) (n : Nat) : dnL ms n [] = List.replicate (n + 1) false := by
  simp only [dnL, List.not_mem_nil, decide_false, List.map_const', List.length_range]
theorem dnL_at {ms : List Tm} {n : Nat} {d : List Tm} {j : Nat} (h : j ≤ n) : (dnL ms n d)[j]? = some (decide (mAt ms (j : Int) ∈ d)) := by
  simp [dnL, List.getElem?_range (by omega : j < n + 1)]
theorem dnL_set {g : List Rul} {ms : List Tm} (hg : Grn g ms) {d : List Tm} {j : Nat} (h1 : 1 ≤ j) (h2 : j ≤ g.length) : (dnL ms g.length d).set j true = dnL ms g.length (d ++ [mAt ms (j : Int)]) := by
  refine List.ext_getElem? fun i => ?_
  rw [List.getElem?_set]
  by_cases hi : i ≤ g.length
  · rw [dnL_at hi, dnL_at hi, dnL_length]
    by_cases hij : j = i
    · subst hij
      rw [if_pos rfl, if_pos (by omega)]
      simp
    · rw [if_neg hij]
      congr 1
      rw [decide_eq_decide, List.mem_append, List.mem_singleton]
      constructor
      · exact .inl
      · rintro (h | h)
        · exact h
        · have := hg.inj' (i := (i : Int)) (j := (j : Int)) (by omega) (by omega) (by omega) (by omega) h
          omega
  · rw [if_neg (by omega), List.getElem?_eq_none (by rw [dnL_length]; omega), List.getElem?_eq_none (by rw [dnL_length]; omega)]
/-- The numbers found so far. -/
structure Ord (g : List Rul) (ms : List Tm) (o : List Int) (d : List Tm) : Prop where
  ids : ∀ x ∈ o, 1 ≤ x ∧ x ≤ g.length
  tms : o.map (mAt ms) = d
  nodup : d.Nodup
  cl : Cl d
theorem Ord.nil (g : List Rul) (ms : List Tm) : Ord g ms [] [] := ⟨by simp, rfl, .nil, .nil⟩
theorem Ord.length {g : List Rul} {ms : List Tm} {o : List Int} {d : List Tm} (h : Ord g ms o d) : o.length = d.length := by rw [← h.tms]; simp
theorem Ord.small {g : List Rul} {ms : List Tm} {o : List Int} {d : List Tm} (h : Ord g ms o d) : o.length ≤ g.length := by
  have h1 : o.Nodup := by
    have := h.nodup
    rw [← h.tms] at this
    exact List.Pairwise.of_map (mAt ms) (fun a b hab he => hab (by rw [he])) this
  exact nodup_len h1 h.ids
theorem Ord.snoc {g : List Rul} {ms : List Tm} {o : List Int} {d : List Tm} (h : Ord g ms o d) {x : Int} (h1 : 1 ≤ x) (h2 : x ≤ g.length) (hc : Cl (d ++ [mAt ms x])) (hn : (d ++ [mAt ms x]).Nodup) : Ord g ms (o ++ [x]) (d ++ [mAt ms x]) := by
  refine ⟨fun y hy => ?_, by rw [List.map_append, h.tms]; rfl, hn, hc⟩
  rcases List.mem_append.1 hy with hy | hy
  · exact h.ids y hy
  · rw [List.mem_singleton.1 hy]; exact ⟨h1, h2⟩
theorem Ord.get {g : List Rul} {ms : List Tm} {o : List Int} {d : List Tm} (h : Ord g ms o d) {i : Nat} (hi : i < o.length) : 1 ≤ o.getD i 0 ∧ o.getD i 0 ≤ g.length ∧ mAt ms (o.getD i 0) = d.getD i .nil := by
  have hm : o.getD i 0 ∈ o := getD_mem hi
  obtain ⟨h1, h2⟩ := h.ids _ hm
  refine ⟨h1, h2, ?_⟩
  rw [← h.tms, getD_map (d := 0) hi]
/-- The new numbers, some of which are given. -/
def toL (ms : List Tm) (n : Nat) (d : List Tm) (i : Nat) : List Int := (List.range (n + 1)).map fun j : Nat => posT (d.take i) (mAt ms (j : Int))
theorem toL_length (ms : List Tm) (n : Nat) (d : List Tm) (i : Nat) : (toL ms n d i).length = n + 1 := by simp [toL]
theorem toL_zero (ms : List Tm) (n : Nat) (d : List Tm) : toL ms n d 0 = List.replicate (n + 1) 0 := by
  simp only [toL, List.take_zero, posT, List.not_mem_nil, if_false, List.map_const', List.length_range]
theorem toL_at {ms : List Tm} {n : Nat} {d : List Tm} {i j : Nat} (h : j ≤ n) : (toL ms n d i).getD j 0 = posT (d.take i) (mAt ms (j : Int)) := by
  simp [toL, List.getD_eq_getElem?_getD, List.getElem?_range (by omega : j < n + 1)]
theorem posT_take {d : List Tm} (hd : d.Nodup) {i : Nat} {m : Tm} (h : m ∈ d.take i) : posT (d.take i) m = posT d m := by
  have h2 := List.mem_of_mem_take h
  unfold posT
  rw [if_pos h, if_pos h2]
  congr 2
  conv => rhs; rw [← List.take_append_drop i d]
  rw [List.idxOf_append, if_pos h]
theorem toL_set {g : List Rul} {ms : List Tm} (hg : Grn g ms) {o : List Int} {d : List Tm} (h : Ord g ms o d) {i : Nat} (hi : i < o.length) : (toL ms g.length d i).set (o.getD i 0).toNat ((i : Int) + 1) = toL ms g.length d (i + 1) := by
  obtain ⟨h1, h2, h3⟩ := h.get hi
  have hid : i < d.length := by rw [← h.length]; exact hi
  have htk : d.take (i + 1) = d.take i ++ [d.getD i .nil] := take_snoc hid
  have hnot : d.getD i .nil ∉ d.take i := fun hm => by
    have hnd := h.nodup
    rw [← List.take_append_drop (i + 1) d, htk] at hnd
    have h4 := (List.nodup_append.1 hnd).1
    exact (List.nodup_append.1 h4).2.2 _ hm _ (by simp) rfl
  have hlen : (d.take i).length = i := by rw [List.length_take]; omega
  refine List.ext_getElem? fun j => ?_
  rw [List.getElem?_set, toL_length]
  by_cases hj : j ≤ g.length
  · have e1 : ∀ k, (toL ms g.length d k)[j]? = some (posT (d.take k) (mAt ms (j : Int))) := fun k => by
      simp [toL, List.getElem?_range (by omega : j < g.length + 1)]
    rw [e1, e1]
    by_cases hij : (o.getD i 0).toNat = j
    · rw [if_pos hij, if_pos (by omega)]
      have : (j : Int) = o.getD i 0 := by omega
      rw [this, h3, htk]
      congr 1
      unfold posT
      rw [if_pos (by simp), List.idxOf_append, if_neg hnot, hlen]
      simp
    · rw [if_neg hij, htk]
      congr 1
      have hne : mAt ms (j : Int) ≠ d.getD i .nil := fun he => by
        rw [← h3] at he
        have := hg.inj' (i := (j : Int)) (j := o.getD i 0) (by omega) (by omega) h1 h2 he
        omega
      unfold posT
      by_cases hm : mAt ms (j : Int) ∈ d.take i
      · rw [if_pos hm, if_pos (List.mem_append_left _ hm), List.idxOf_append, if_pos hm]
      · rw [if_neg hm, if_neg]
        rw [List.mem_append, List.mem_singleton]
        rintro (h | h)
        · exact hm h
        · exact hne h
  · rw [if_neg (by omega), List.getElem?_eq_none (by rw [toL_length]; omega), List.getElem?_eq_none (by rw [toL_length]; omega)]
theorem mem_take_of_split {d : List Tm} {i : Nat} (h : i < d.length) (hc : Cl d) {c : Tm} (hk : c ∈ kids (d.getD i .nil)) : c ∈ d.take i := by
  refine hc (d.take i) (d.getD i .nil) (d.drop (i + 1)) ?_ c hk
  conv => lhs; rw [← List.take_append_drop i d, List.drop_eq_getElem_cons h]
  rw [List.getD_eq_getElem?_getD, List.getElem?_eq_getElem h]; rfl
/-- The rule that stands for a number, with its new references. -/
theorem Ord.rule {g : List Rul} {ms : List Tm} (hg : Grn g ms) {o : List Int} {d : List Tm} (h : Ord g ms o d) {i : Nat} (hi : i < o.length) :
    let r := g.getD ((o.getD i 0).toNat - 1) rul0
    (r.k = 1 ∧ rulT d (d.getD i .nil) = r) ∨ (r.k = 2 ∧ 0 ≤ r.a ∧ r.a ≤ g.length ∧ 0 ≤ r.b ∧ r.b ≤ g.length ∧ rulT d (d.getD i .nil) = ⟨2, r.l, (toL ms g.length d i).getD r.a.toNat 0, (toL ms g.length d i).getD r.b.toNat 0, r.t⟩) ∨ (r.k = 3 ∧ 0 ≤ r.a ∧ r.a ≤ g.length ∧ rulT d (d.getD i .nil) = ⟨3, r.l, (toL ms g.length d i).getD r.a.toNat 0, r.b, r.t⟩) := by
  obtain ⟨h1, h2, h3⟩ := h.get hi
  have hid : i < d.length := by rw [← h.length]; exact hi
  obtain ⟨n, hn⟩ : ∃ n : Nat, o.getD i 0 = (n : Int) + 1 := ⟨(o.getD i 0 - 1).toNat, by omega⟩
  have hnl : n < g.length := by omega
  rw [hn] at h3
  rw [hn, show ((n : Int) + 1).toNat - 1 = n by omega]
  obtain ⟨hc, _⟩ := hg.gr.cases hnl
  have hok := hg.gr.ok n hnl
  have hcl := fun c => mem_take_of_split (c := c) hid h.cl
  rw [← h3] at hcl ⊢
  dsimp only
  generalize g.getD n rul0 = r at *
  have hto : ∀ c : Nat, c < n → mAt ms ((c : Int) + 1) ∈ d.take i → (toL ms g.length d i).getD ((c : Int) + 1).toNat 0 = posT d (mAt ms ((c : Int) + 1)) := fun c hcn hm => by
    rw [show ((c : Int) + 1).toNat = c + 1 by omega, toL_at (by omega), show ((c + 1 : Nat) : Int) = (c : Int) + 1 by omega]
    exact posT_take h.nodup hm
  rcases hc with ⟨e1, e2, e3, l, hl, e4, e⟩ | ⟨e1, p, q, p1, q1, e2, e3, e, _⟩ | ⟨e1, e2, p, k, p1, k2, e3, e4, e, _⟩
  · refine .inl ⟨e1, ?_⟩
    rw [e, rulT, letR]
    have ht : r.t = 0 := by rcases hok with h | h | h <;> omega
    obtain ⟨_, _, _, _, _⟩ := r
    simp only at *
    subst e1 e2 e3 e4 ht; rfl
  · refine .inr (.inl ⟨e1, by omega, by omega, by omega, by omega, ?_⟩)
    rw [e] at hcl ⊢
    have hl : r.l = 0 ∧ r.t = 0 := by rcases hok with h | h | h <;> omega
    rw [rulT, pairR, e2, e3, hto p p1 (hcl _ (by simp [kids])), hto q q1 (hcl _ (by simp [kids])), hl.1, hl.2]
  · refine .inr (.inr ⟨e1, by omega, by omega, ?_⟩)
    rw [e] at hcl ⊢
    have hl : r.l = 0 := by rcases hok with h | h | h <;> omega
    rw [rulT, powR, e3, hto p p1 (hcl _ (by simp [kids])), hl, e2, e4]
end Go.Proofs.YtkkhpdkfploodaaDoor
/- The rules of an ID in order of first completion: the program. -/
namespace Go.Proofs.YtkkhpdkfploodaaDoor
open Go.EG
attribute [local irreducible] CallK QCall Go.Calls
set_option linter.unusedSimpArgs false
set_option linter.unusedVariables false
set_option maxRecDepth 20000
set_option maxHeartbeats 4000000

def bls (l : List Bool) : List Value := l.map .bool
theorem bls_length (l : List Bool) : (bls l).length = l.length := by simp [bls]
theorem bls_at {l : List Bool} {i : Nat} {b : Bool} (h : l[i]? = some b) : (bls l)[i]? = some (.bool b) := by simp [bls, h]
theorem splice_bls {l : List Bool} {i : Nat} {b : Bool} (h : i < l.length) : splice (bls l) i [.bool b] = bls (l.set i b) := by
  unfold splice bls
  rw [List.map_set, List.set_eq_take_append_cons_drop, if_pos (by simpa using h)]
  simp
abbrev cpL (g : List Rul) (ms : List Tm) (d : List Tm) (o : List Int) (ad : Option Addr) (cd bo : Nat) (ao : Option Addr) (co : Nat) : List Ent :=
  [.own 871 ad (g.length + 1) cd ty_bool 1 (bls (dnL ms g.length d)), .box 872 bo [.slice ao o.length co] ty_Sl_api_ID, .own 873 ao o.length co ty_api_ID 1 (ints .i64 o)]
def cpQ (g : List Rul) (ms : List Tm) (d : List Tm) (ad : Option Addr) (cd bo : Nat) (v : Value) (L1 : List Ent) : Prop :=
  ∃ o ao co, Ord g ms o d ∧ v = .tuple #[] ∧ L1 = cpL g ms d o ad cd bo ao co
theorem calls_complete (g : List Rul) (ms : List Tm) (hg : Grn g ms) (a : Option Addr) (c : Nat) : ∀ (k : Nat), k ≤ g.length → ∀ (o : List Int) (d : List Tm), Ord g ms o d → ∀ (ad : Option Addr) (cd bo : Nat) (ao : Option Addr) (co : Nat) (fp : List Nat) (w : World), R w fp (cpL g ms d o ad cd bo ao co) w → In w fp a (rulsC (rul0 :: g)) →
    Calls Tryd.prog fn_evergreenref17_complete #[.slice a (g.length + 1) c, .int .i64 k, .slice ad (g.length + 1) cd, .pointer (some ⟨bo, 0, none⟩)] w fun e w' => ∃ v L1, e = .returned v ∧ R w fp L1 w' ∧ cpQ g ms (compT (mAt ms k) d) ad cd bo v L1 := by
  intro k
  induction k using Nat.strongRecOn with
  | ind k ih =>
  intro hk o d hO ad cd bo ao co fp w hR hin
  refine part_call [.v (.slice a (g.length + 1) c), .v (.int .i64 k), .sl 871 ad (g.length + 1) cd, .ptr 872 bo 0] ok_evergreenref17_complete (by simp) hR ?_
  have hmost := hg.gr.most
  have hne := hin.ne' (k := 0) (by rw [rulsC_length]; simp)
  have hned := own_ne (key := 871) hR rfl (by omega)
  by_cases hk0 : k = 0
  · subst hk0
    have e0 : compT (mAt ms ((0 : Nat) : Int)) d = d := rfl
    rw [e0]
    (repeat' ((conv => whnf); first | (refine bcase_prop (fun h => ?_) (fun h => ?_) <;> try (exfalso; omega)) | (refine bcase_nprop (fun h => ?_) (fun h => ?_) <;> try (exfalso; omega)) | (refine bcase_intro (fun h => ?_) (fun h => ?_) <;> (try simp only [Bool.not_eq_true', Bool.not_eq_false', decide_eq_true_eq, decide_eq_false_iff_not, Bool.not_eq_true, Bool.not_eq_false, Decidable.not_not] at h)) | refine And.intro (by first | omega | exact rfl | assumption | exact ⟨rfl, rfl, rfl, rfl, rfl⟩ | exact ⟨rfl, rfl, rfl, rfl⟩ | exact ⟨rfl, by omega⟩ | exact oneAll_of rfl | exact ⟨rfl, oneAll_of rfl⟩ | exact Ref.refl _ | exact Thin.ref (.skip (Thin.refl _)) | exact Thin.ref (.skip (.skip (Thin.refl _))) | exact ⟨rfl, Nat.le_of_ble_eq_true rfl⟩ | ((try unfold maxLen); (try simp only [List.length_nil, List.length_cons, List.length_append]); omega) | (refine ⟨rfl, ?_⟩; (try simp only [List.length_nil, List.length_cons, List.length_append]); omega)) ?_ | intro _)); (all_goals (conv => whnf))
    all_goals first | (exfalso; omega) | skip
    exact ⟨⟨_, Ref.refl _, o, ao, co, hO, rfl, rfl⟩⟩
  · obtain ⟨n, rfl⟩ : ∃ n, k = n + 1 := ⟨k - 1, by omega⟩
    have hn : n < g.length := by omega
    have hP := hg.gr.pos hn
    obtain ⟨hc, _⟩ := hg.gr.cases hn
    have hat := bls_at (dnL_at (ms := ms) (d := d) hk)
    have hset := splice_bls (l := dnL ms g.length d) (i := n + 1) (b := true) (by rw [dnL_length]; omega)
    have hrow := rulsC_at (g := rul0 :: g) (i := n + 1) (by simp; omega)
    rw [List.getD_cons_succ] at hrow
    have hr1 := fun {L : List Ent} => hin.rdn (L := L) (vs := ruC (g.getD n rul0)) (k := (n + 1) * 5) (Nat.succ_pos _) hrow
    have hos := hO.small
    rw [show ((n + 1 : Nat) : Int) = (n : Int) + 1 by omega] at *
    have hnn : ((n : Int) + 1).toNat = n + 1 := by omega
    by_cases hm : mAt ms ((n : Int) + 1) ∈ d
    · rw [decide_eq_true hm] at hat
      have e1 : compT (mAt ms ((n : Int) + 1)) d = d := by
        generalize mAt ms ((n : Int) + 1) = m at *
        cases m with
        | nil => exact hP.elim
        | lt x => rw [compT, if_pos hm]
        | pr x y => rw [compT, if_pos hm]
        | pw x y => rw [compT, if_pos hm]
      rw [e1]
      (repeat' ((conv => whnf); first | rw [hnn] | refine ldCell hat ?_ | (refine bcase_prop (fun h => ?_) (fun h => ?_) <;> try (exfalso; omega)) | (refine bcase_nprop (fun h => ?_) (fun h => ?_) <;> try (exfalso; omega)) | (refine bcase_intro (fun h => ?_) (fun h => ?_) <;> (try simp only [Bool.not_eq_true', Bool.not_eq_false', decide_eq_true_eq, decide_eq_false_iff_not, Bool.not_eq_true, Bool.not_eq_false, Decidable.not_not] at h)) | refine And.intro (by first | omega | exact rfl | assumption | exact ⟨rfl, rfl, rfl, rfl, rfl⟩ | exact ⟨rfl, rfl, rfl, rfl⟩ | exact ⟨rfl, by omega⟩ | exact oneAll_of rfl | exact ⟨rfl, oneAll_of rfl⟩ | exact Ref.refl _ | exact Thin.ref (.skip (Thin.refl _)) | exact Thin.ref (.skip (.skip (Thin.refl _))) | exact hned | exact ⟨rfl, Nat.le_of_ble_eq_true rfl⟩ | ((try unfold maxLen); (try simp only [List.length_nil, List.length_cons, List.length_append]); omega) | (refine ⟨rfl, ?_⟩; (try simp only [List.length_nil, List.length_cons, List.length_append]); omega)) ?_ | intro _)); (all_goals (conv => whnf))
      all_goals first | (exfalso; omega) | skip
      exact ⟨⟨_, Ref.refl _, o, ao, co, hO, rfl, rfl⟩⟩
    · rw [decide_eq_false hm] at hat
      rcases hc with ⟨q1, _, _, l, hl, q2, q3⟩ | ⟨q1, p, q, p1, p2, p3, p4, q3, _⟩ | ⟨q1, _, p, t, p1, t2, p3, p4, q3, _⟩
      · have ed : compT (mAt ms ((n : Int) + 1)) d = d ++ [mAt ms ((n : Int) + 1)] := by rw [q3] at hm ⊢; rw [compT, if_neg hm]
        have hcs := comp_spec hP hO.cl hO.nodup
        rw [ed] at hcs ⊢
        have hO' := hO.snoc (x := (n : Int) + 1) (by omega) (by omega) hcs.cl hcs.nodup
        have hdn := dnL_set hg (d := d) (j := n + 1) (by omega) hk
        rw [show ((n + 1 : Nat) : Int) = (n : Int) + 1 by omega] at hdn
        rw [hdn] at hset
        have hsn := Go.EG.ints_snoc (k := .i64) (zs := o) (z := (n : Int) + 1)
        have hln : (o ++ [(n : Int) + 1]).length = o.length + 1 := by simp
        (repeat' ((conv => whnf); first | rw [hnn] | rw [hset] | rw [hsn] | refine ldCell hat ?_ | refine ⟨ruC (g.getD n rul0), rfl, hr1, ?_⟩ | refine ⟨.sl 873 _ _ _, ⟨rfl, rfl, rfl, rfl⟩, ?_⟩ | refine ⟨_, ⟨rfl, trivial⟩, ?_⟩ | (refine bcase_prop (fun h => ?_) (fun h => ?_) <;> try (exfalso; omega)) | (refine bcase_nprop (fun h => ?_) (fun h => ?_) <;> try (exfalso; omega)) | (refine bcase_intro (fun h => ?_) (fun h => ?_) <;> (try simp only [Bool.not_eq_true', Bool.not_eq_false', decide_eq_true_eq, decide_eq_false_iff_not, Bool.not_eq_true, Bool.not_eq_false, Decidable.not_not] at h)) | refine And.intro (by first | omega | exact rfl | assumption | exact ⟨rfl, rfl, rfl, rfl, rfl⟩ | exact ⟨rfl, rfl, rfl, rfl⟩ | exact ⟨rfl, by omega⟩ | exact oneAll_of rfl | exact ⟨rfl, oneAll_of rfl⟩ | exact Ref.refl _ | exact Thin.ref (.skip (Thin.refl _)) | exact Thin.ref (.skip (.skip (Thin.refl _))) | exact hned | exact hne | exact ⟨by unfold maxLen; omega, by omega⟩ | (refine ⟨rfl, ?_⟩; rw [bls_length, dnL_length]; omega) | exact ⟨rfl, Nat.le_of_ble_eq_true rfl⟩ | ((try unfold maxLen); (try simp only [List.length_nil, List.length_cons, List.length_append]); omega) | (refine ⟨rfl, ?_⟩; (try simp only [List.length_nil, List.length_cons, List.length_append]); omega)) ?_ | intro _)); (all_goals (conv => whnf))
        all_goals first | (exfalso; omega) | skip
        rename_i b8 b47 a2 c2
        exact ⟨⟨_, Ref.takes [871, 872, 873] rfl (.keep rfl (fun _ h => h) (.box (by rw [hln]) (.own hln.symm rfl (.nil _)))), _, a2, c2, hO', rfl, rfl⟩⟩
      · have ed : compT (mAt ms ((n : Int) + 1)) d = compT (mAt ms ((q : Int) + 1)) (compT (mAt ms ((p : Int) + 1)) d) ++ [mAt ms ((n : Int) + 1)] := by rw [q3] at hm ⊢; rw [compT, if_neg hm]
        have hcs := comp_spec hP hO.cl hO.nodup
        have c1 := ih (p + 1) (by omega) (by omega) o d hO ad cd bo
        have c2 := fun o1 h => ih (q + 1) (by omega) (by omega) o1 (compT (mAt ms ((p : Int) + 1)) d) h ad cd bo
        rw [show ((p + 1 : Nat) : Int) = (p : Int) + 1 by omega, ← p3] at c1
        rw [show ((q + 1 : Nat) : Int) = (q : Int) + 1 by omega, ← p4] at c2
        rw [← p3, ← p4] at ed
        rw [← p3] at c2
        rw [ed] at hcs ⊢
        have hset := splice_bls (l := dnL ms g.length (compT (mAt ms (g.getD n rul0).b) (compT (mAt ms (g.getD n rul0).a) d))) (i := n + 1) (b := true) (by rw [dnL_length]; omega)
        have hdn := dnL_set hg (d := compT (mAt ms (g.getD n rul0).b) (compT (mAt ms (g.getD n rul0).a) d)) (j := n + 1) (by omega) hk
        rw [show ((n + 1 : Nat) : Int) = (n : Int) + 1 by omega] at hdn
        rw [hdn] at hset
        generalize g.getD n rul0 = r at *
        (repeat' ((conv => whnf); first | rw [hnn] | rw [hset] | refine ldCell hat ?_ | refine ⟨ruC r, rfl, hr1, ?_⟩ | (refine CallK_sub [871, 872, 873] rfl (fun w hR h0 => c1 _ _ _ w h0 (hin.castL hR)) ?_; rintro _ _ ⟨o1, a1, k1, hO1, rfl, rfl⟩; have c2 := c2 o1 hO1; refine ⟨.v _, rfl, ?_⟩) | (refine CallK_sub [871, 872, 873] rfl (fun w hR h0 => c2 _ _ _ w h0 (hin.castL hR)) ?_; rintro _ _ ⟨o2, a2, k2, hO2, rfl, rfl⟩; have hos2 := hO2.small; refine ⟨.v _, rfl, ?_⟩) | refine ⟨.sl 873 _ _ _, ⟨rfl, rfl, rfl, rfl⟩, ?_⟩ | refine ⟨_, ⟨rfl, trivial⟩, ?_⟩ | (refine bcase_prop (fun h => ?_) (fun h => ?_) <;> try (exfalso; omega)) | (refine bcase_nprop (fun h => ?_) (fun h => ?_) <;> try (exfalso; omega)) | (refine bcase_intro (fun h => ?_) (fun h => ?_) <;> (try simp only [Bool.not_eq_true', Bool.not_eq_false', decide_eq_true_eq, decide_eq_false_iff_not, Bool.not_eq_true, Bool.not_eq_false, Decidable.not_not] at h)) | refine And.intro (by first | omega | exact rfl | assumption | exact ⟨rfl, rfl, rfl, rfl, rfl⟩ | exact ⟨rfl, rfl, rfl, rfl⟩ | exact ⟨rfl, by omega⟩ | exact oneAll_of rfl | exact ⟨rfl, oneAll_of rfl⟩ | exact Ref.refl _ | exact Thin.ref (.skip (Thin.refl _)) | exact Thin.ref (.skip (.skip (Thin.refl _))) | exact hned | exact hne | exact ⟨by unfold maxLen; omega, by omega⟩ | (refine ⟨rfl, ?_⟩; rw [bls_length, dnL_length]; omega) | exact ⟨rfl, Nat.le_of_ble_eq_true rfl⟩ | ((try unfold maxLen); (try simp only [List.length_nil, List.length_cons, List.length_append]); omega) | (refine ⟨rfl, ?_⟩; (try simp only [List.length_nil, List.length_cons, List.length_append]); omega)) ?_ | intro _)); (all_goals (conv => whnf))
        all_goals first | (exfalso; omega) | skip
        rename_i b8 b47 a4 c4
        have hln : (o2 ++ [(n : Int) + 1]).length = o2.length + 1 := by simp
        exact ⟨⟨_, Ref.takes [871, 872, 873] rfl (.keep rfl (fun _ h => h) (.box (by rw [hln]) (.own hln.symm Go.EG.ints_snoc (.nil _)))), _, a4, c4, hO2.snoc (by omega) (by omega) hcs.cl hcs.nodup, rfl, rfl⟩⟩
      · have ed : compT (mAt ms ((n : Int) + 1)) d = compT (mAt ms ((p : Int) + 1)) d ++ [mAt ms ((n : Int) + 1)] := by rw [q3] at hm ⊢; rw [compT, if_neg hm]
        have hcs := comp_spec hP hO.cl hO.nodup
        have c1 := ih (p + 1) (by omega) (by omega) o d hO ad cd bo
        rw [show ((p + 1 : Nat) : Int) = (p : Int) + 1 by omega, ← p3] at c1
        rw [← p3] at ed
        rw [ed] at hcs ⊢
        have hset := splice_bls (l := dnL ms g.length (compT (mAt ms (g.getD n rul0).a) d)) (i := n + 1) (b := true) (by rw [dnL_length]; omega)
        have hdn := dnL_set hg (d := compT (mAt ms (g.getD n rul0).a) d) (j := n + 1) (by omega) hk
        rw [show ((n + 1 : Nat) : Int) = (n : Int) + 1 by omega] at hdn
        rw [hdn] at hset
        generalize g.getD n rul0 = r at *
        (repeat' ((conv => whnf); first | rw [hnn] | rw [hset] | refine ldCell hat ?_ | refine ⟨ruC r, rfl, hr1, ?_⟩ | (refine CallK_sub [871, 872, 873] rfl (fun w hR h0 => c1 _ _ _ w h0 (hin.castL hR)) ?_; rintro _ _ ⟨o1, a1, k1, hO1, rfl, rfl⟩; have hos1 := hO1.small; refine ⟨.v _, rfl, ?_⟩) | refine ⟨.sl 873 _ _ _, ⟨rfl, rfl, rfl, rfl⟩, ?_⟩ | refine ⟨_, ⟨rfl, trivial⟩, ?_⟩ | (refine bcase_prop (fun h => ?_) (fun h => ?_) <;> try (exfalso; omega)) | (refine bcase_nprop (fun h => ?_) (fun h => ?_) <;> try (exfalso; omega)) | (refine bcase_intro (fun h => ?_) (fun h => ?_) <;> (try simp only [Bool.not_eq_true', Bool.not_eq_false', decide_eq_true_eq, decide_eq_false_iff_not, Bool.not_eq_true, Bool.not_eq_false, Decidable.not_not] at h)) | refine And.intro (by first | omega | exact rfl | assumption | exact ⟨rfl, rfl, rfl, rfl, rfl⟩ | exact ⟨rfl, rfl, rfl, rfl⟩ | exact ⟨rfl, by omega⟩ | exact oneAll_of rfl | exact ⟨rfl, oneAll_of rfl⟩ | exact Ref.refl _ | exact Thin.ref (.skip (Thin.refl _)) | exact Thin.ref (.skip (.skip (Thin.refl _))) | exact hned | exact hne | exact ⟨by unfold maxLen; omega, by omega⟩ | (refine ⟨rfl, ?_⟩; rw [bls_length, dnL_length]; omega) | exact ⟨rfl, Nat.le_of_ble_eq_true rfl⟩ | ((try unfold maxLen); (try simp only [List.length_nil, List.length_cons, List.length_append]); omega) | (refine ⟨rfl, ?_⟩; (try simp only [List.length_nil, List.length_cons, List.length_append]); omega)) ?_ | intro _)); (all_goals (conv => whnf))
        all_goals first | (exfalso; omega) | skip
        rename_i b8 b47 a4 c4
        have hln : (o1 ++ [(n : Int) + 1]).length = o1.length + 1 := by simp
        exact ⟨⟨_, Ref.takes [871, 872, 873] rfl (.keep rfl (fun _ h => h) (.box (by rw [hln]) (.own hln.symm Go.EG.ints_snoc (.nil _)))), _, a4, c4, hO1.snoc (by omega) (by omega) hcs.cl hcs.nodup, rfl, rfl⟩⟩

/-! ### Order and Canon -/

def orQ0 (g : List Rul) (ms : List Tm) (d : List Tm) (v : Value) (L1 : List Ent) : Prop :=
  ∃ o a c, Ord g ms o d ∧ v = .slice a o.length c ∧ L1 = [.own 873 a o.length c ty_api_ID 1 (ints .i64 o)]
def orQ (g : List Rul) (ms : List Tm) (d : List Tm) (v : Value) (L1 : List Ent) : Prop :=
  ∃ o a c, Ord g ms o d ∧ (0 < o.length → a ≠ none) ∧ v = .slice a o.length c ∧ L1 = [.own 873 a o.length c ty_api_ID 1 (ints .i64 o)]
theorem bls_rep (n : Nat) : (List.replicate n [Value.bool false]).flatten = bls (List.replicate n false) := by
  induction n with
  | zero => rfl
  | succ n ih => rw [List.replicate_succ, List.flatten_cons, ih, List.replicate_succ]; rfl
theorem ints_rep (k : IntKind) (n : Nat) : (List.replicate n [Value.int k 0]).flatten = ints k (List.replicate n 0) := by
  induction n with
  | zero => rfl
  | succ n ih => rw [List.replicate_succ, List.flatten_cons, ih, List.replicate_succ]; rfl
theorem calls_Order0 (g : List Rul) (ms : List Tm) (hg : Grn g ms) (a : Option Addr) (c : Nat) (k : Nat) (hk : k ≤ g.length) (w : World) (hin : In w [] a (rulsC (rul0 :: g))) :
    Calls Tryd.prog fn_evergreenref17_Order #[.slice a (g.length + 1) c, .int .i64 k] w fun e w' => ∃ v L1, e = .returned v ∧ R w [] L1 w' ∧ orQ0 g ms (compT (mAt ms k) []) v L1 := by
  refine new_call [.v (.slice a (g.length + 1) c), .v (.int .i64 k)] ok_evergreenref17_Order (by simp) ?_
  have hmost := hg.gr.most
  have hrep : (List.replicate (g.length + 1) [Value.bool false]).flatten = bls (dnL ms g.length []) := by rw [dnL_nil, bls_rep]
  have hnn : (((g.length + 1 : Nat) : Int)).toNat = g.length + 1 := by omega
  (repeat' ((conv => whnf); first | rw [hnn] | (refine bcase_prop (fun h => ?_) (fun h => ?_) <;> try (exfalso; omega)) | (refine bcase_nprop (fun h => ?_) (fun h => ?_) <;> try (exfalso; omega)) | (refine bcase_intro (fun h => ?_) (fun h => ?_) <;> (try simp only [Bool.not_eq_true', Bool.not_eq_false', decide_eq_true_eq, decide_eq_false_iff_not, Bool.not_eq_true, Bool.not_eq_false, Decidable.not_not] at h)) | refine And.intro (by first | omega | exact rfl | assumption | exact ⟨rfl, rfl, rfl, rfl, rfl⟩ | exact ⟨rfl, rfl, rfl, rfl⟩ | exact ⟨rfl, by omega⟩ | exact oneAll_of rfl | exact ⟨rfl, oneAll_of rfl⟩ | exact Ref.refl _ | exact Thin.ref (.skip (Thin.refl _)) | exact Thin.ref (.skip (.skip (Thin.refl _))) | exact ⟨rfl, Nat.le_of_ble_eq_true rfl⟩ | ((try unfold maxLen); (try simp only [List.length_nil, List.length_cons, List.length_append]); omega) | (refine ⟨rfl, ?_⟩; (try simp only [List.length_nil, List.length_cons, List.length_append]); omega)) ?_ | intro _)); (all_goals (conv => whnf))
  all_goals first | (exfalso; omega) | skip
  rename_i b9 b6
  refine CallK_post ?_
  refine CallK_ref (L' := cpL g ms [] [] (some ⟨b9, 0, none⟩) (g.length + 1) b6 none 0) ((Ref.ownNil 873 ty_api_ID 1).trans (Ref.takes [9, 6, 873] rfl (.own rfl hrep (.keep rfl (fun _ h => h) (.keep rfl (fun _ h => h) (.nil _)))))) ?_
  refine CallK_sub [871, 872, 873] rfl (fun w hR h0 => calls_complete g ms hg a c k hk [] [] (Ord.nil g ms) _ _ _ _ _ _ w h0 (hin.cast hR (by simp))) ?_
  rintro _ _ ⟨o, ao, co, hO, rfl, rfl⟩
  refine ⟨.v _, rfl, [.box 6 b6 [.slice ao o.length co] ty_Sl_api_ID, .own 873 ao o.length co ty_api_ID 1 (ints .i64 o)], Ref.takes [872, 873] rfl (.keep rfl (fun _ h => h) (.keep rfl (fun _ h => h) (.nil _))), ?_⟩
  have hos := hO.small
  (repeat' ((conv => whnf); first | refine ⟨.sl 873 _ _ _, ⟨rfl, rfl, rfl, rfl⟩, ?_⟩ | refine ⟨_, ⟨rfl, trivial⟩, ?_⟩ | (refine bcase_prop (fun h => ?_) (fun h => ?_) <;> try (exfalso; omega)) | (refine bcase_nprop (fun h => ?_) (fun h => ?_) <;> try (exfalso; omega)) | (refine bcase_intro (fun h => ?_) (fun h => ?_) <;> (try simp only [Bool.not_eq_true', Bool.not_eq_false', decide_eq_true_eq, decide_eq_false_iff_not, Bool.not_eq_true, Bool.not_eq_false, Decidable.not_not] at h)) | refine And.intro (by first | omega | exact rfl | assumption | exact ⟨rfl, rfl, rfl, rfl, rfl⟩ | exact ⟨rfl, rfl, rfl, rfl⟩ | exact ⟨rfl, by omega⟩ | exact oneAll_of rfl | exact ⟨rfl, oneAll_of rfl⟩ | exact Ref.refl _ | exact Thin.ref (.skip (Thin.refl _)) | exact Thin.ref (.skip (.skip (Thin.refl _))) | exact ⟨rfl, Nat.le_of_ble_eq_true rfl⟩ | ((try unfold maxLen); (try simp only [List.length_nil, List.length_cons, List.length_append]); omega) | (refine ⟨rfl, ?_⟩; (try simp only [List.length_nil, List.length_cons, List.length_append]); omega)) ?_ | intro _)); (all_goals (conv => whnf))
  exact ⟨⟨_, Ref.takes [873] rfl (Thin.refl _), o, ao, co, hO, rfl, rfl⟩⟩
theorem calls_Order (g : List Rul) (ms : List Tm) (hg : Grn g ms) (a : Option Addr) (c : Nat) (k : Nat) (hk : k ≤ g.length) (w : World) (hin : In w [] a (rulsC (rul0 :: g))) :
    Calls Tryd.prog fn_evergreenref17_Order #[.slice a (g.length + 1) c, .int .i64 k] w fun e w' => ∃ v L1, e = .returned v ∧ R w [] L1 w' ∧ orQ g ms (compT (mAt ms k) []) v L1 :=
  (calls_Order0 g ms hg a c k hk w hin).mono fun e w' ⟨v, L1, he, hR', o, a1, c1, hO, hv, hL⟩ => by
    subst hL
    exact ⟨v, _, he, hR', o, a1, c1, hO, fun h => own_ne hR' (key := 873) rfl h, hv, rfl⟩
structure CnG where
  i : Nat
  a : Option Addr
  c : Nat
def cnQ (m : Tm) (v : Value) (L1 : List Ent) : Prop := (canT m).length ≤ 1048576 ∧ ∃ a c, v = .slice a (canT m).length c ∧ L1 = [.own 880 a (canT m).length c ty_api_Rule 5 (rulsC (canT m))]
theorem calls_refCanon (g : List Rul) (ms : List Tm) (hg : Grn g ms) (a : Option Addr) (c : Nat) (k : Nat) (hk : k ≤ g.length) (w : World) (hin : In w [] a (rulsC (rul0 :: g))) :
    Calls Tryd.prog fn_evergreenref22_Canon #[.slice a (g.length + 1) c, .int .i64 k] w fun e w' => ∃ v L1, e = .returned v ∧ R w [] L1 w' ∧ cnQ (mAt ms k) v L1 := by
  refine new_call [.v (.slice a (g.length + 1) c), .v (.int .i64 k)] ok_evergreenref22_Canon (by simp) ?_
  have hmost := hg.gr.most
  have hne := hin.ne' (k := 0) (by rw [rulsC_length]; simp)
  have hnn : (((g.length + 1 : Nat) : Int)).toNat = g.length + 1 := by omega
  have hcl := canT_length (mAt ms k)
  have hcan : canT (mAt ms k) = (compT (mAt ms k) []).map (rulT (compT (mAt ms k) [])) := rfl
  unfold cnQ
  generalize canT (mAt ms k) = can at *
  have cO := fun w h => calls_Order g ms hg a c k hk w h
  generalize compT (mAt ms k) [] = d at *
  (repeat' ((conv => whnf); first | rw [hnn] | (refine CallK_new (fun w' hR => cO w' (hin.cast hR (by simp))) ?_; rintro _ _ ⟨o, ao, co, hO, hno, rfl, rfl⟩; refine ⟨.v _, rfl, ?_⟩) | (refine bcase_prop (fun h => ?_) (fun h => ?_) <;> try (exfalso; omega)) | (refine bcase_nprop (fun h => ?_) (fun h => ?_) <;> try (exfalso; omega)) | (refine bcase_intro (fun h => ?_) (fun h => ?_) <;> (try simp only [Bool.not_eq_true', Bool.not_eq_false', decide_eq_true_eq, decide_eq_false_iff_not, Bool.not_eq_true, Bool.not_eq_false, Decidable.not_not] at h)) | refine And.intro (by first | omega | exact rfl | assumption | exact ⟨rfl, rfl, rfl, rfl, rfl⟩ | exact ⟨rfl, rfl, rfl, rfl⟩ | exact ⟨rfl, by omega⟩ | exact oneAll_of rfl | exact ⟨rfl, oneAll_of rfl⟩ | exact Ref.refl _ | exact Thin.ref (.skip (Thin.refl _)) | exact Thin.ref (.skip (.skip (Thin.refl _))) | exact ⟨rfl, Nat.le_of_ble_eq_true rfl⟩ | ((try unfold maxLen); (try simp only [List.length_nil, List.length_cons, List.length_append]); omega) | (refine ⟨rfl, ?_⟩; (try simp only [List.length_nil, List.length_cons, List.length_append]); omega)) ?_ | intro _)); (all_goals (conv => whnf))
  all_goals first | (exfalso; omega) | skip
  rename_i b15
  have hos := hO.small
  have hod := hO.length
  have hrep : (List.replicate (g.length + 1) [Value.int .i64 0]).flatten = ints .i64 (toL ms g.length d 0) := by rw [toL_zero, ints_rep]
  refine VC_loop CnG (fun y => [(0, .v (.slice a (g.length + 1) c)), (5, .v (.slice ao o.length co)), (6, .sl 15 (some ⟨b15, 0, none⟩) (g.length + 1) (g.length + 1)), (7, .sl 880 y.a y.i y.c), (8, .v (.int .i64 y.i))])
    (fun y => [.own 873 ao o.length co ty_api_ID 1 (ints .i64 o), .own 15 (some ⟨b15, 0, none⟩) (g.length + 1) (g.length + 1) ty_api_ID 1 (ints .i64 (toL ms g.length d y.i)), .own 880 y.a y.i y.c ty_api_Rule 5 (rulsC (can.take y.i))])
    (fun y => y.i ≤ o.length) (fun y => o.length - y.i) ⟨0, none, 0⟩ (Nat.zero_le _) (by (repeat ((conv => whnf); refine And.intro (by first | exact rfl | exact vint_eq (by omega) | exact vint_eq (by (dsimp only; omega)) | exact vsl_eq (by omega) | exact vsl_eq (by first | (dsimp only; omega) | (simp; done) | (simp; omega))) ?_)); exact trivial) ((Ref.ownNil 880 ty_api_Rule 5).trans (Ref.takes [873, 15, 880] rfl (.keep rfl (fun _ h => h) (.own rfl hrep (.keep rfl (fun _ h => h) (.nil _)))))) ?_
  rintro ⟨i, a7, c7⟩ hi
  dsimp only at hi ⊢
  by_cases hlt : i < o.length
  · obtain ⟨x1, x2, x3⟩ := hO.get hlt
    have hrule := hO.rule hg hlt
    have hset := toL_set hg hO hlt
    have htk : can.take (i + 1) = can.take i ++ [rulT d (d.getD i .nil)] := by
      rw [take_snoc (d := rul0) (by omega)]
      congr 2
      rw [hcan, getD_map (d := .nil) (by omega)]
    have hsn := rulsC_snoc (can.take i) (rulT d (d.getD i .nil))
    rw [← htk] at hsn
    have ro := ints_getD (k := .i64) hlt
    have hn2 := hno (by omega)
    dsimp only at hrule
    generalize o.getD i 0 = x at *
    have hrow := rulsC_at (g := rul0 :: g) (i := x.toNat) (by simp; omega)
    have hgx : (rul0 :: g).getD x.toNat rul0 = g.getD (x.toNat - 1) rul0 := by
      obtain ⟨m, hm⟩ : ∃ m, x.toNat = m + 1 := ⟨x.toNat - 1, by omega⟩
      rw [hm, List.getD_cons_succ]; rfl
    rw [hgx] at hrow
    generalize g.getD (x.toNat - 1) rul0 = r at *
    have hr1 := fun {L : List Ent} => hin.rdn (L := L) (vs := ruC r) (k := x.toNat * 5) (Nat.succ_pos _) hrow
    have hsp : splice (ints .i64 (toL ms g.length d i)) x.toNat [.int .i64 ((i : Int) + 1)] = ints .i64 (toL ms g.length d (i + 1)) := by
      rw [splice_ints (by rw [toL_length]; omega), hset]
    generalize rulT d (d.getD i .nil) = r2 at *
    have hb : x.toNat + 1 ≤ (ints .i64 (toL ms g.length d i)).length := by rw [ints_length, toL_length]; omega
    rcases hrule with ⟨k1, he⟩ | ⟨k1, k2, k3, k4, k5, he⟩ | ⟨k1, k2, k3, he⟩
    · rw [he] at hsn htk
      (repeat' ((conv => whnf); first | rw [Int.toNat_natCast] | rw [Nat.mul_one] | rw [hsp] | rw [hsn] | refine ⟨_, rdO 873 rfl ro, ?_⟩ | refine ⟨ruC r, rfl, hr1, ?_⟩  | (refine bcase_prop (fun h => ?_) (fun h => ?_) <;> try (exfalso; omega)) | (refine bcase_nprop (fun h => ?_) (fun h => ?_) <;> try (exfalso; omega)) | (refine bcase_intro (fun h => ?_) (fun h => ?_) <;> (try simp only [Bool.not_eq_true', Bool.not_eq_false', decide_eq_true_eq, decide_eq_false_iff_not, Bool.not_eq_true, Bool.not_eq_false, Decidable.not_not] at h)) | refine And.intro (by first | omega | exact rfl | assumption | exact ⟨rfl, rfl, rfl, rfl, rfl⟩ | exact ⟨rfl, rfl, rfl, rfl⟩ | exact ⟨rfl, by omega⟩ | exact oneAll_of rfl | exact ⟨rfl, oneAll_of rfl⟩ | exact Ref.refl _ | exact Thin.ref (.skip (Thin.refl _)) | exact Thin.ref (.skip (.skip (Thin.refl _))) | exact hne | exact hn2 | exact ⟨rfl, hb⟩ | exact ⟨by unfold maxLen; omega, by omega⟩ | exact ⟨rfl, Nat.le_of_ble_eq_true rfl⟩ | ((try unfold maxLen); (try simp only [List.length_nil, List.length_cons, List.length_append]); omega) | (refine ⟨rfl, ?_⟩; (try simp only [List.length_nil, List.length_cons, List.length_append]); omega)) ?_ | intro _)); (all_goals (conv => whnf))
      all_goals first | (exfalso; omega) | skip
      all_goals (rename_i b9 b57 a8 c8; exact loop_next ⟨i + 1, a8, c8⟩ (by ((try dsimp only); omega)) (by ((try dsimp only); omega)) (by (repeat ((conv => whnf); refine And.intro (by first | exact rfl | exact vint_eq (by omega) | exact vint_eq (by (dsimp only; omega)) | exact vsl_eq (by omega) | exact vsl_eq (by first | (dsimp only; omega) | (simp; done) | (simp; omega))) ?_)); exact trivial) (Ref.takes [873, 15, 880] rfl (.keep rfl (fun _ h => h) (.keep rfl (fun _ h => h) (.keep rfl (fun _ h => h) (.nil _))))))
    · have ra : (ints .i64 (toL ms g.length d i))[r.a.toNat]? = some (.int .i64 ((toL ms g.length d i).getD r.a.toNat 0)) := ints_getD (by rw [toL_length]; omega)
      have rb : (ints .i64 (toL ms g.length d i))[r.b.toNat]? = some (.int .i64 ((toL ms g.length d i).getD r.b.toNat 0)) := ints_getD (by rw [toL_length]; omega)
      rw [← k1] at he
      rw [he] at hsn htk
      (repeat' ((conv => whnf); first | rw [Int.toNat_natCast] | rw [Nat.mul_one] | rw [hsp] | rw [hsn] | refine ⟨_, rdO 873 rfl ro, ?_⟩ | refine ldCell ra ?_ | refine ldCell rb ?_ | refine ⟨ruC r, rfl, hr1, ?_⟩  | (refine bcase_prop (fun h => ?_) (fun h => ?_) <;> try (exfalso; omega)) | (refine bcase_nprop (fun h => ?_) (fun h => ?_) <;> try (exfalso; omega)) | (refine bcase_intro (fun h => ?_) (fun h => ?_) <;> (try simp only [Bool.not_eq_true', Bool.not_eq_false', decide_eq_true_eq, decide_eq_false_iff_not, Bool.not_eq_true, Bool.not_eq_false, Decidable.not_not] at h)) | refine And.intro (by first | omega | exact rfl | assumption | exact ⟨rfl, rfl, rfl, rfl, rfl⟩ | exact ⟨rfl, rfl, rfl, rfl⟩ | exact ⟨rfl, by omega⟩ | exact oneAll_of rfl | exact ⟨rfl, oneAll_of rfl⟩ | exact Ref.refl _ | exact Thin.ref (.skip (Thin.refl _)) | exact Thin.ref (.skip (.skip (Thin.refl _))) | exact hne | exact hn2 | exact ⟨rfl, hb⟩ | exact ⟨by unfold maxLen; omega, by omega⟩ | exact ⟨rfl, Nat.le_of_ble_eq_true rfl⟩ | ((try unfold maxLen); (try simp only [List.length_nil, List.length_cons, List.length_append]); omega) | (refine ⟨rfl, ?_⟩; (try simp only [List.length_nil, List.length_cons, List.length_append]); omega)) ?_ | intro _)); (all_goals (conv => whnf))
      all_goals first | (exfalso; omega) | skip
      all_goals (rename_i b9 b57 a8 c8; exact loop_next ⟨i + 1, a8, c8⟩ (by ((try dsimp only); omega)) (by ((try dsimp only); omega)) (by (repeat ((conv => whnf); refine And.intro (by first | exact rfl | exact vint_eq (by omega) | exact vint_eq (by (dsimp only; omega)) | exact vsl_eq (by omega) | exact vsl_eq (by first | (dsimp only; omega) | (simp; done) | (simp; omega))) ?_)); exact trivial) (Ref.takes [873, 15, 880] rfl (.keep rfl (fun _ h => h) (.keep rfl (fun _ h => h) (.keep rfl (fun _ h => h) (.nil _))))))
    · have ra : (ints .i64 (toL ms g.length d i))[r.a.toNat]? = some (.int .i64 ((toL ms g.length d i).getD r.a.toNat 0)) := ints_getD (by rw [toL_length]; omega)
      rw [← k1] at he
      rw [he] at hsn htk
      (repeat' ((conv => whnf); first | rw [Int.toNat_natCast] | rw [Nat.mul_one] | rw [hsp] | rw [hsn] | refine ⟨_, rdO 873 rfl ro, ?_⟩ | refine ldCell ra ?_ | refine ⟨ruC r, rfl, hr1, ?_⟩  | (refine bcase_prop (fun h => ?_) (fun h => ?_) <;> try (exfalso; omega)) | (refine bcase_nprop (fun h => ?_) (fun h => ?_) <;> try (exfalso; omega)) | (refine bcase_intro (fun h => ?_) (fun h => ?_) <;> (try simp only [Bool.not_eq_true', Bool.not_eq_false', decide_eq_true_eq, decide_eq_false_iff_not, Bool.not_eq_true, Bool.not_eq_false, Decidable.not_not] at h)) | refine And.intro (by first | omega | exact rfl | assumption | exact ⟨rfl, rfl, rfl, rfl, rfl⟩ | exact ⟨rfl, rfl, rfl, rfl⟩ | exact ⟨rfl, by omega⟩ | exact oneAll_of rfl | exact ⟨rfl, oneAll_of rfl⟩ | exact Ref.refl _ | exact Thin.ref (.skip (Thin.refl _)) | exact Thin.ref (.skip (.skip (Thin.refl _))) | exact hne | exact hn2 | exact ⟨rfl, hb⟩ | exact ⟨by unfold maxLen; omega, by omega⟩ | exact ⟨rfl, Nat.le_of_ble_eq_true rfl⟩ | ((try unfold maxLen); (try simp only [List.length_nil, List.length_cons, List.length_append]); omega) | (refine ⟨rfl, ?_⟩; (try simp only [List.length_nil, List.length_cons, List.length_append]); omega)) ?_ | intro _)); (all_goals (conv => whnf))
      all_goals first | (exfalso; omega) | skip
      all_goals (rename_i b9 b57 a8 c8; exact loop_next ⟨i + 1, a8, c8⟩ (by ((try dsimp only); omega)) (by ((try dsimp only); omega)) (by (repeat ((conv => whnf); refine And.intro (by first | exact rfl | exact vint_eq (by omega) | exact vint_eq (by (dsimp only; omega)) | exact vsl_eq (by omega) | exact vsl_eq (by first | (dsimp only; omega) | (simp; done) | (simp; omega))) ?_)); exact trivial) (Ref.takes [873, 15, 880] rfl (.keep rfl (fun _ h => h) (.keep rfl (fun _ h => h) (.keep rfl (fun _ h => h) (.nil _))))))
  · have hil : i = can.length := by omega
    have hct : can.take i = can := by rw [hil, List.take_length]
    rw [hct, hil]
    (repeat' ((conv => whnf); first | refine ⟨.sl 880 _ _ _, ⟨rfl, rfl, rfl, rfl⟩, ?_⟩ | (refine bcase_prop (fun h => ?_) (fun h => ?_) <;> try (exfalso; omega)) | (refine bcase_nprop (fun h => ?_) (fun h => ?_) <;> try (exfalso; omega)) | (refine bcase_intro (fun h => ?_) (fun h => ?_) <;> (try simp only [Bool.not_eq_true', Bool.not_eq_false', decide_eq_true_eq, decide_eq_false_iff_not, Bool.not_eq_true, Bool.not_eq_false, Decidable.not_not] at h)) | refine And.intro (by first | omega | exact rfl | assumption | exact ⟨rfl, rfl, rfl, rfl, rfl⟩ | exact ⟨rfl, rfl, rfl, rfl⟩ | exact ⟨rfl, by omega⟩ | exact oneAll_of rfl | exact ⟨rfl, oneAll_of rfl⟩ | exact Ref.refl _ | exact Thin.ref (.skip (Thin.refl _)) | exact Thin.ref (.skip (.skip (Thin.refl _))) | exact ⟨rfl, Nat.le_of_ble_eq_true rfl⟩ | ((try unfold maxLen); (try simp only [List.length_nil, List.length_cons, List.length_append]); omega) | (refine ⟨rfl, ?_⟩; (try simp only [List.length_nil, List.length_cons, List.length_append]); omega)) ?_ | intro _)); (all_goals (conv => whnf))
    all_goals first | (exfalso; omega) | skip
    exact ⟨⟨[.own 880 a7 can.length c7 ty_api_Rule 5 (rulsC can)], Ref.takes [880] rfl (Thin.refl _), by omega, a7, c7, rfl, rfl⟩⟩

/-! ### The statement's Canon -/

theorem Rch.grn {S : Sto} (hw : WF S) {id : Int} {L : List Int} (h : Rch S id L) (hk : id ≤ S.E.length) : Grn (xg S L) (L.map (tm S.E)) := by
  refine ⟨h.gr hw hk, fun i j hi hj he => ?_⟩
  rw [xg_length] at hi hj
  rw [getD_map (d := 0) hi, getD_map (d := 0) hj] at he
  obtain ⟨p1, p2⟩ := h.pos _ (getD_mem hi)
  obtain ⟨q1, q2⟩ := h.pos _ (getD_mem hj)
  have := (hw.inj_iff p1 (by omega) q1 (by omega)).1 he
  rcases Nat.lt_trichotomy i j with hc | hc | hc
  · have := asc_get h.asc hc hj; omega
  · exact hc
  · have := asc_get h.asc hc hi; omega
theorem oneAll_ruls : ∀ g : List Rul, oneAll (rulsC g)
  | [] => trivial
  | r :: g => ⟨trivial, trivial, trivial, trivial, trivial, oneAll_ruls g⟩
theorem rdsW {w0 : World} {fp0 : List Nat} {L : List Ent} (key : Nat) {a : Option Addr} {n c T sz m : Nat} {xs : List Value} (h : ownAt key L = some ⟨a, n, c, T, sz, xs⟩) (hm : m = xs.length) : RdS w0 fp0 L a m xs := by
  refine ⟨hm, ?_⟩
  by_cases hx : xs = []
  · exact .inl hx
  · refine .inr fun w hR => ?_
    obtain ⟨v0, hv0⟩ : ∃ v, xs[0]? = some v := ⟨xs[0]'(List.length_pos_iff.2 hx), by simp⟩
    obtain ⟨g, ha, _⟩ := cell_own hR h hv0
    refine ⟨g, 0, ha, fun j v hv => ?_⟩
    obtain ⟨g', ha', hc⟩ := cell_own hR h hv
    rw [ha] at ha'
    simp only [Option.some.injEq, Addr.mk.injEq, and_true] at ha'
    subst ha'
    rw [Nat.zero_add]; exact hc
def lcQ (bs : Nat) (S : Sto) (m : Tm) (v : Value) (L1 : List Ent) : Prop := (canT m).length ≤ 1048576 ∧ ∃ a c fp', v = .tuple #[.slice a (canT m).length c, .bool true] ∧ L1 = [packE 77 fp' (fS bs S), .own 880 a (canT m).length c ty_api_Rule 5 (rulsC (canT m))]
theorem calls_lCanon (hs : SortsI Tryd.prog fn_slices_Sort_Sl_api_ID_api_ID) (b : Nat) (S : Sto) (hw : WF S) (id : Int) (hk : known S id) (f fp : List Nat) (w : World) (hR : R w fp [packE 77 f (fS b S)] w) :
    Calls Tryd.prog fn_evergreenlaw22_Canon #[pS b, .int .i64 id] w fun e w' => ∃ v L1, e = .returned v ∧ R w fp L1 w' ∧ lcQ b S (tm S.E id) v L1 := by
  refine part_call [.v (pS b), .v (.int .i64 id)] ok_evergreenlaw22_Canon (by simp) hR ?_
  have c5 := calls_ExportN hs b S hw id hk
  have hsm := hw.small
  have hcm : ∀ L, 1 + (xg S L).length = (xg S L).length + 1 := fun L => Nat.add_comm _ _
  have hgn : ∀ L, Rch S id L → Grn (xg S L) (L.map (tm S.E)) := fun L hL => hL.grn hw hk.2
  have htx : ∀ L, Rch S id L → mAt (L.map (tm S.E)) ((xg S L).length : Nat) = tm S.E id := fun L hL => by rw [xg_length]; exact hL.top_ hk.1
  have hcz : ∀ L, Rch S id L → chk 1 (xg S L) = 0 := fun L hL => chk_zero.2 fun i hi => by
    have := (hgn L hL).gr.ok i hi
    rwa [show (1 : Int) + (i : Int) = (i : Int) + 1 by omega]
  have c6 := fun (L : List Int) (hL : Rch S id L) a c w h => calls_r11Check (xg S L) a c (by have := (hgn L hL).gr.most; omega) w h
  have c7 := fun (L : List Int) (hL : Rch S id L) a c w h => calls_refCanon (xg S L) _ (hgn L hL) a c (xg S L).length (Nat.le_refl _) w h
  unfold lcQ
  (repeat' ((conv => whnf); first | (refine CallK_pack (key := 77) rfl (fun w hR h0 => c5 _ _ _ h0) ?_; rintro _ _ ⟨L, aL, cL, fp', hL, hne, rfl, rfl⟩; have cK := c6 L hL; have cC := c7 L hL; have hm1 := (hgn L hL).gr.most; rw [hcz L hL] at cK; rw [htx L hL] at cC; refine ⟨.v _, rfl, ?_⟩) | (refine CallK_pure (.v _) (fun w hR => cK _ _ w (In.ownR (key := 812) hR rfl)) ?_) | refine ⟨_, rdsW 812 rfl (rulsC_length _).symm, oneAll_ruls _, ?_⟩ | rw [hcm L] | (refine CallK_new (fun w' hR => cC _ _ w' (In.ownR (key := 22) hR rfl)) ?_; rintro _ _ ⟨hsz, a9, c9, rfl, rfl⟩; refine ⟨.v _, rfl, ?_⟩) | (refine bcase_prop (fun h => ?_) (fun h => ?_) <;> try (exfalso; omega)) | (refine bcase_nprop (fun h => ?_) (fun h => ?_) <;> try (exfalso; omega)) | (refine bcase_intro (fun h => ?_) (fun h => ?_) <;> (try simp only [Bool.not_eq_true', Bool.not_eq_false', decide_eq_true_eq, decide_eq_false_iff_not, Bool.not_eq_true, Bool.not_eq_false, Decidable.not_not] at h)) | refine And.intro (by first | omega | exact rfl | assumption | exact ⟨rfl, rfl, rfl, rfl, rfl⟩ | exact ⟨rfl, rfl, rfl, rfl⟩ | exact ⟨rfl, by omega⟩ | exact oneAll_of rfl | exact ⟨rfl, oneAll_of rfl⟩ | exact Ref.refl _ | exact Thin.ref (.skip (Thin.refl _)) | exact Thin.ref (.skip (.skip (Thin.refl _))) | exact ⟨rfl, Nat.le_of_ble_eq_true rfl⟩ | ((try unfold maxLen); (try simp only [List.length_nil, List.length_cons, List.length_append]); omega) | (refine ⟨rfl, ?_⟩; (try simp only [List.length_nil, List.length_cons, List.length_append]); omega)) ?_ | intro _)); (all_goals (conv => whnf))
  all_goals first | (exfalso; omega) | skip
  exact ⟨⟨_, Ref.takes [77, 880] rfl (Thin.refl _), hsz, a9, c9, _, rfl, rfl⟩⟩
end Go.Proofs.YtkkhpdkfploodaaDoor
/- Signatures in two stores: the program. -/
namespace Go.Proofs.YtkkhpdkfploodaaDoor
open Go.EG
attribute [local irreducible] CallK QCall Go.Calls
set_option linter.unusedSimpArgs false
set_option linter.unusedVariables false
set_option maxRecDepth 20000
set_option maxHeartbeats 4000000

theorem calls_Same (g : List Rul) (hl : g.length ≤ 1048576) (a a' : Option Addr) (c c' : Nat) (w : World) (h1 : In w [] a (rulsC g)) (h2 : In w [] a' (rulsC g)) :
    Calls Tryd.prog fn_evergreenref11_Same #[.slice a g.length c, .slice a' g.length c'] w fun e w' => e = .returned (.bool true) ∧ Ext w w' := by
  refine pure_call [.v (.slice a g.length c), .v (.slice a' g.length c')] w ok_evergreenref11_Same (by simp) ?_
  (repeat' ((conv => whnf); first | (refine bcase_prop (fun h => ?_) (fun h => ?_) <;> try (exfalso; omega)) | (refine bcase_nprop (fun h => ?_) (fun h => ?_) <;> try (exfalso; omega)) | (refine bcase_intro (fun h => ?_) (fun h => ?_) <;> (try simp only [Bool.not_eq_true', Bool.not_eq_false', decide_eq_true_eq, decide_eq_false_iff_not, Bool.not_eq_true, Bool.not_eq_false, Decidable.not_not] at h)) | refine And.intro (by first | omega | exact rfl | assumption | exact ⟨rfl, rfl, rfl, rfl, rfl⟩ | exact ⟨rfl, rfl, rfl, rfl⟩ | exact ⟨rfl, by omega⟩ | exact oneAll_of rfl | exact ⟨rfl, oneAll_of rfl⟩ | exact Ref.refl _ | exact Thin.ref (.skip (Thin.refl _)) | exact Thin.ref (.skip (.skip (Thin.refl _))) | exact ⟨rfl, Nat.le_of_ble_eq_true rfl⟩ | ((try unfold maxLen); (try simp only [List.length_nil, List.length_cons, List.length_append]); omega) | (refine ⟨rfl, ?_⟩; (try simp only [List.length_nil, List.length_cons, List.length_append]); omega)) ?_ | intro _)); (all_goals (conv => whnf))
  all_goals first | (exfalso; omega) | skip
  refine VC_loop Nat (fun i => [(0, .v (.slice a g.length c)), (1, .v (.slice a' g.length c')), (5, .v (.int .i64 i))]) (fun _ => []) (fun i => i ≤ g.length) (fun i => g.length - i) 0 (Nat.zero_le _) (by (repeat ((conv => whnf); refine And.intro (by first | exact rfl | exact vint_eq (by omega) | exact vint_eq (by (dsimp only; omega)) | exact vsl_eq (by omega) | exact vsl_eq (by first | (dsimp only; omega) | (simp; done) | (simp; omega))) ?_)); exact trivial) (Ref.refl _) ?_
  intro i hi
  by_cases hlt : i < g.length
  · have hrow := rulsC_at hlt
    have r1 := fun {L : List Ent} => h1.rdn (L := L) (vs := ruC (g.getD i rul0)) (k := i * 5) (Nat.succ_pos _) hrow
    have r2 := fun {L : List Ent} => h2.rdn (L := L) (vs := ruC (g.getD i rul0)) (k := i * 5) (Nat.succ_pos _) hrow
    have n1 := h1.ne' (k := i * 5) (by rw [rulsC_length]; omega)
    have n2 := h2.ne' (k := i * 5) (by rw [rulsC_length]; omega)
    generalize g.getD i rul0 = r at *
    (repeat' ((conv => whnf); first | rw [Int.toNat_natCast] | refine ⟨ruC r, rfl, r1, ?_⟩ | refine ⟨ruC r, rfl, r2, ?_⟩ | (refine bcase_prop (fun h => ?_) (fun h => ?_) <;> try (exfalso; omega)) | (refine bcase_nprop (fun h => ?_) (fun h => ?_) <;> try (exfalso; omega)) | (refine bcase_intro (fun h => ?_) (fun h => ?_) <;> (try simp only [Bool.not_eq_true', Bool.not_eq_false', decide_eq_true_eq, decide_eq_false_iff_not, Bool.not_eq_true, Bool.not_eq_false, Decidable.not_not] at h)) | refine And.intro (by first | omega | exact rfl | assumption | exact ⟨rfl, rfl, rfl, rfl, rfl⟩ | exact ⟨rfl, rfl, rfl, rfl⟩ | exact ⟨rfl, by omega⟩ | exact oneAll_of rfl | exact ⟨rfl, oneAll_of rfl⟩ | exact Ref.refl _ | exact Thin.ref (.skip (Thin.refl _)) | exact Thin.ref (.skip (.skip (Thin.refl _))) | exact n1 | exact n2 | exact ⟨rfl, Nat.le_of_ble_eq_true rfl⟩ | ((try unfold maxLen); (try simp only [List.length_nil, List.length_cons, List.length_append]); omega) | (refine ⟨rfl, ?_⟩; (try simp only [List.length_nil, List.length_cons, List.length_append]); omega)) ?_ | intro _)); (all_goals (conv => whnf))
    all_goals first | (exfalso; omega) | skip
    exact loop_next (i + 1) (by ((try dsimp only); omega)) (by ((try dsimp only); omega)) (by (repeat ((conv => whnf); refine And.intro (by first | exact rfl | exact vint_eq (by omega) | exact vint_eq (by (dsimp only; omega)) | exact vsl_eq (by omega) | exact vsl_eq (by first | (dsimp only; omega) | (simp; done) | (simp; omega))) ?_)); exact trivial) (Ref.refl _)
  · (repeat' ((conv => whnf); first | (refine bcase_prop (fun h => ?_) (fun h => ?_) <;> try (exfalso; omega)) | (refine bcase_nprop (fun h => ?_) (fun h => ?_) <;> try (exfalso; omega)) | (refine bcase_intro (fun h => ?_) (fun h => ?_) <;> (try simp only [Bool.not_eq_true', Bool.not_eq_false', decide_eq_true_eq, decide_eq_false_iff_not, Bool.not_eq_true, Bool.not_eq_false, Decidable.not_not] at h)) | refine And.intro (by first | omega | exact rfl | assumption | exact ⟨rfl, rfl, rfl, rfl, rfl⟩ | exact ⟨rfl, rfl, rfl, rfl⟩ | exact ⟨rfl, by omega⟩ | exact oneAll_of rfl | exact ⟨rfl, oneAll_of rfl⟩ | exact Ref.refl _ | exact Thin.ref (.skip (Thin.refl _)) | exact Thin.ref (.skip (.skip (Thin.refl _))) | exact ⟨rfl, Nat.le_of_ble_eq_true rfl⟩ | ((try unfold maxLen); (try simp only [List.length_nil, List.length_cons, List.length_append]); omega) | (refine ⟨rfl, ?_⟩; (try simp only [List.length_nil, List.length_cons, List.length_append]); omega)) ?_ | intro _)); (all_goals (conv => whnf))
    all_goals first | (exfalso; omega) | exact ⟨rfl⟩

/-! ### Parsers and stores under other keys -/

def fPk (k1 k2 k3 : Nat) (bp bt bs : Nat) (S : Sto) (f1 f2 : List Nat) : List Ent := [packE k1 f1 (fT bt bs S.E), packE k2 f2 (fS bs S), .box k3 bp [pS bs, pS bt] ty_signature_Parser]
theorem fPk_thin (k1 k2 k3 j1 j2 j3 bp bt bs : Nat) (S : Sto) (f1 f2 : List Nat) : Thin (fPk k1 k2 k3 bp bt bs S f1 f2) (fPk j1 j2 j3 bp bt bs S f1 f2) := .keep rfl (fun _ h => h) (.keep rfl (fun _ h => h) (.keep rfl (fun _ h => h) (.nil _)))
def ofK (k1 k2 k3 bp bt bs : Nat) (S0 : Sto) (t : List Nat) (v : Value) (L1 : List Ent) : Prop :=
  ∃ (S : Sto) (x : Int) (f1 f2 : List Nat), WF S ∧ Grow S0 S ∧ (0 ≤ x ∧ x ≤ S.E.length) ∧ (t = [] → x = 0) ∧ (t ≠ [] → 1 ≤ x ∧ Sig t (tm S.E x)) ∧ S.E.length ≤ S0.E.length + 2 * t.length ∧ Out S0 S t ∧ v = .tuple #[.int .i64 x, .nilIface] ∧ L1 = fPk k1 k2 k3 bp bt bs S f1 f2
theorem calls_OfK (k1 k2 k3 : Nat) (bp bt bs : Nat) (S0 : Sto) (hw : WF S0) (t : List Nat) (hb : ∀ x ∈ t, x < 256) (hl : t.length ≤ 1000) (hroom : S0.E.length + 2 * t.length ≤ S0.most) (at_ : Option Addr) (ct : Nat) (f1 f2 fp : List Nat) (w : World)
    (hR : R w fp (fPk k1 k2 k3 bp bt bs S0 f1 f2) w) (hG : TabF w fp) (hin : In w fp at_ (bytesV t)) :
    Calls Tryd.prog fn_P_signature_Parser_Of #[pS bp, .slice at_ t.length ct] w fun e w' => ∃ v L1, e = .returned v ∧ R w fp L1 w' ∧ ofK k1 k2 k3 bp bt bs S0 t v L1 :=
  (calls_OfG bp bt bs S0 hw t hb hl hroom at_ ct f1 f2 fp w ((fPk_thin k1 k2 k3 78 77 3000 bp bt bs S0 f1 f2).ref w hR) hG hin).mono fun e w' ⟨v, L1, he, hR', S, x, g1, g2, q1, q2, q3, q4, q5, q6, q7, q8, hL⟩ => by
    subst hL
    exact ⟨v, _, he, (fPk_thin 78 77 3000 k1 k2 k3 bp bt bs S g1 g2).ref w' hR', S, x, g1, g2, q1, q2, q3, q4, q5, q6, q7, q8, rfl⟩
theorem nwK_thin (k1 k3 j1 j3 bp bt bs : Nat) (S : Sto) (f1 : List Nat) : Thin [packE k1 f1 (fT bt bs S.E), .box k3 bp [pS bs, pS bt] ty_signature_Parser] [packE j1 f1 (fT bt bs S.E), .box j3 bp [pS bs, pS bt] ty_signature_Parser] := .keep rfl (fun _ h => h) (.keep rfl (fun _ h => h) (.nil _))
theorem lcK_thin (k k2 j j2 b : Nat) (S : Sto) (f : List Nat) (a : Option Addr) (n c : Nat) (xs : List Value) : Thin [packE k f (fS b S), .own k2 a n c ty_api_Rule 5 xs] [packE j f (fS b S), .own j2 a n c ty_api_Rule 5 xs] := .keep rfl (fun _ h => h) (.keep rfl (fun _ h => h) (.nil _))
def nwK (k1 k3 bs : Nat) (S : Sto) (v : Value) (L1 : List Ent) : Prop := ∃ bp bt f1, v = pS bp ∧ L1 = [packE k1 f1 (fT bt bs S.E), .box k3 bp [pS bs, pS bt] ty_signature_Parser]
theorem calls_newK (k1 k3 : Nat) (bs : Nat) (S : Sto) (w : World) : Calls Tryd.prog fn_signature_New #[pS bs] w fun e w' => ∃ v L1, e = .returned v ∧ R w [] L1 w' ∧ nwK k1 k3 bs S v L1 :=
  (calls_newP bs S w).mono fun e w' ⟨v, L1, he, hR', bp, bt, f1, hv, hL⟩ => by
    subst hL
    exact ⟨v, [packE k1 f1 (fT bt bs S.E), .box k3 bp [pS bs, pS bt] ty_signature_Parser], he, (nwK_thin 78 3000 k1 k3 bp bt bs S f1).ref w' hR', bp, bt, f1, hv, rfl⟩
def lcK (k k2 : Nat) (bs : Nat) (S : Sto) (m : Tm) (v : Value) (L1 : List Ent) : Prop := (canT m).length ≤ 1048576 ∧ ∃ a c fp', v = .tuple #[.slice a (canT m).length c, .bool true] ∧ L1 = [packE k fp' (fS bs S), .own k2 a (canT m).length c ty_api_Rule 5 (rulsC (canT m))]
theorem calls_lCanonK (k k2 : Nat) (hs : SortsI Tryd.prog fn_slices_Sort_Sl_api_ID_api_ID) (b : Nat) (S : Sto) (hw : WF S) (id : Int) (hk : known S id) (f fp : List Nat) (w : World) (hR : R w fp [packE k f (fS b S)] w) :
    Calls Tryd.prog fn_evergreenlaw22_Canon #[pS b, .int .i64 id] w fun e w' => ∃ v L1, e = .returned v ∧ R w fp L1 w' ∧ lcK k k2 b S (tm S.E id) v L1 :=
  (calls_lCanon hs b S hw id hk f fp w ((Thin.packE (.nil [])).ref w hR)).mono fun e w' ⟨v, L1, he, hR', hz, a, c, fp', hv, hL⟩ => by
    subst hL
    exact ⟨v, [packE k fp' (fS b S), .own k2 a (canT (tm S.E id)).length c ty_api_Rule 5 (rulsC (canT (tm S.E id)))], he, (lcK_thin 77 880 k k2 b S fp' a _ c _).ref w' hR', hz, a, c, fp', hv, rfl⟩
theorem law_SignatureStores (hs : SortsI Tryd.prog fn_slices_Sort_Sl_api_ID_api_ID) (w : World) (hG : TabF w []) (t u : List Nat) (hbt : ∀ x ∈ t, x < 256) (hbu : ∀ x ∈ u, x < 256) (htl : t.length ≤ 4611686018427387904) (hul : u.length ≤ 4611686018427387904) (a b : Option Addr) (c d : Nat) (hia : In w [] a (bytesV t)) (hib : In w [] b (bytesV u)) :
    Calls Tryd.prog fn_evergreenlaw22_SignatureStores #[.slice a t.length c, .slice b u.length d] w fun e w' => e = .returned (.bool true) ∧ Ext w w' := by
  refine pure_call [.v (.slice a t.length c), .v (.slice b u.length d)] w ok_evergreenlaw22_SignatureStores (by simp) ?_
  by_cases hsz : t.length ≤ 500 ∧ u.length ≤ 500
  case neg =>
    (repeat' ((conv => whnf); first | (refine bcase_prop (fun h => ?_) (fun h => ?_) <;> try (exfalso; omega)) | (refine bcase_nprop (fun h => ?_) (fun h => ?_) <;> try (exfalso; omega)) | (refine bcase_intro (fun h => ?_) (fun h => ?_) <;> (try simp only [Bool.not_eq_true', Bool.not_eq_false', decide_eq_true_eq, decide_eq_false_iff_not, Bool.not_eq_true, Bool.not_eq_false, Decidable.not_not] at h)) | refine And.intro (by first | omega | exact rfl | assumption | exact ⟨rfl, rfl, rfl, rfl, rfl⟩ | exact ⟨rfl, rfl, rfl, rfl⟩ | exact ⟨rfl, by omega⟩ | exact oneAll_of rfl | exact ⟨rfl, oneAll_of rfl⟩ | exact Ref.refl _ | exact Thin.ref (.skip (Thin.refl _)) | exact Thin.ref (.skip (.skip (Thin.refl _))) | exact ⟨rfl, Nat.le_of_ble_eq_true rfl⟩ | ((try unfold maxLen); (try simp only [List.length_nil, List.length_cons, List.length_append]); omega) | (refine ⟨rfl, ?_⟩; (try simp only [List.length_nil, List.length_cons, List.length_append]); omega)) ?_ | intro _)); (all_goals (conv => whnf))
    all_goals first | (exfalso; omega) | exact ⟨rfl⟩
  have c0 := fun w h => calls_awake22 w h
  have hw1 : WF ⟨10000, []⟩ := WF.new 10000 (by decide)
  have hw2 : WF ⟨20000, []⟩ := WF.new 20000 (by decide)
  have cT := fun w h => calls_copied t (by omega) a c w h
  have cU := fun w h => calls_copied u (by omega) b d w h
  (repeat' ((conv => whnf); first | (refine CallK_new (fun w hR => calls_New 10000 77 w) ?_; rintro _ _ ⟨bs, fps, rfl, rfl⟩; refine ⟨.v _, rfl, ?_⟩) | (refine CallK_new (fun w hR => calls_New 20000 177 w) ?_; rintro _ _ ⟨bu, fpu, rfl, rfl⟩; refine ⟨.v _, rfl, ?_⟩) | (refine CallK_new (fun w hR => calls_newK 178 3001 bu ⟨20000, []⟩ w) ?_; rintro _ _ ⟨bv, btu, f1, rfl, rfl⟩; refine ⟨.v _, rfl, ?_⟩) | (refine CallK_new (fun w hR => calls_newP bs ⟨10000, []⟩ w) ?_; rintro _ _ ⟨bp, bts, f2, rfl, rfl⟩; refine ⟨.v _, rfl, ?_⟩) | refine CallK_slice 902 (fun w' hR => cU w' (hib.cast hR (by simp))) ?_ | (refine CallK_sub [178, 177, 3001] rfl (fun w hR h0 => calls_OfK 178 177 3001 bv btu bu ⟨20000, []⟩ hw2 u hbu (by omega) (by dsimp only [List.length_nil]; omega) _ _ _ _ _ w h0 (hG.castL hR) (In.besideL (key := 902) hR rfl)) ?_; rintro _ _ ⟨U, y, g1, g2, hwU, hgU, hy, hy0, hy1, hln, hout, rfl, rfl⟩; have hmU := hgU.most; refine ⟨.v _, rfl, ?_⟩) | (refine bcase_prop (fun h => ?_) (fun h => ?_) <;> try (exfalso; omega)) | (refine bcase_nprop (fun h => ?_) (fun h => ?_) <;> try (exfalso; omega)) | (refine bcase_intro (fun h => ?_) (fun h => ?_) <;> (try simp only [Bool.not_eq_true', Bool.not_eq_false', decide_eq_true_eq, decide_eq_false_iff_not, Bool.not_eq_true, Bool.not_eq_false, Decidable.not_not] at h)) | refine And.intro (by first | omega | exact rfl | assumption | exact ⟨rfl, rfl, rfl, rfl, rfl⟩ | exact ⟨rfl, rfl, rfl, rfl⟩ | exact ⟨rfl, by omega⟩ | exact oneAll_of rfl | exact ⟨rfl, oneAll_of rfl⟩ | exact Ref.refl _ | exact Thin.ref (.skip (Thin.refl _)) | exact Thin.ref (.skip (.skip (Thin.refl _))) | exact ⟨rfl, Nat.le_of_ble_eq_true rfl⟩ | ((try unfold maxLen); (try simp only [List.length_nil, List.length_cons, List.length_append]); omega) | (refine ⟨rfl, ?_⟩; (try simp only [List.length_nil, List.length_cons, List.length_append]); omega)) ?_ | intro _)); (all_goals (conv => whnf))
  all_goals first | (exfalso; omega) | skip
  (repeat' ((conv => whnf); first | refine CallK_slice 901 (fun w' hR => cT w' (hia.cast hR (by simp))) ?_ | (refine CallK_sub [78, 77, 3000] rfl (fun w hR h0 => calls_OfG bp bts bs ⟨10000, []⟩ hw1 t hbt (by omega) (by dsimp only [List.length_nil]; omega) _ _ _ _ _ w h0 (hG.castL hR) (In.besideL (key := 901) hR rfl)) ?_; rintro _ _ ⟨S, x, g3, g4, hwS, hgS, hx, hx0, hx1, hln1, hout1, rfl, rfl⟩; refine ⟨.v _, rfl, ?_⟩) | (refine bcase_prop (fun h => ?_) (fun h => ?_) <;> try (exfalso; omega)) | (refine bcase_nprop (fun h => ?_) (fun h => ?_) <;> try (exfalso; omega)) | (refine bcase_intro (fun h => ?_) (fun h => ?_) <;> (try simp only [Bool.not_eq_true', Bool.not_eq_false', decide_eq_true_eq, decide_eq_false_iff_not, Bool.not_eq_true, Bool.not_eq_false, Decidable.not_not] at h)) | refine And.intro (by first | omega | exact rfl | assumption | exact ⟨rfl, rfl, rfl, rfl, rfl⟩ | exact ⟨rfl, rfl, rfl, rfl⟩ | exact ⟨rfl, by omega⟩ | exact oneAll_of rfl | exact ⟨rfl, oneAll_of rfl⟩ | exact Ref.refl _ | exact Thin.ref (.skip (Thin.refl _)) | exact Thin.ref (.skip (.skip (Thin.refl _))) | exact ⟨rfl, Nat.le_of_ble_eq_true rfl⟩ | ((try unfold maxLen); (try simp only [List.length_nil, List.length_cons, List.length_append]); omega) | (refine ⟨rfl, ?_⟩; (try simp only [List.length_nil, List.length_cons, List.length_append]); omega)) ?_ | intro _)); (all_goals (conv => whnf))
  all_goals first | (exfalso; omega) | skip
  dsimp only [List.length_nil] at hln hmU
  (repeat' ((conv => whnf); first | (refine CallK_sub [178, 177, 3001] rfl (fun w hR h0 => calls_OfK 178 177 3001 bv btu bu U hwU t hbt (by omega) (by omega) _ _ _ _ _ w h0 (hG.castL hR) (In.besideL (key := 901) hR rfl)) ?_; rintro _ _ ⟨V, z, g5, g6, hwV, hgV, hz, hz0, hz1, hln2, hout2, rfl, rfl⟩; refine ⟨.v _, rfl, ?_⟩) | (refine CallK_pure (.v _) (fun w hR => c0 w (hG.cast hR (by simp))) ?_) | (refine bcase_prop (fun h => ?_) (fun h => ?_) <;> try (exfalso; omega)) | (refine bcase_nprop (fun h => ?_) (fun h => ?_) <;> try (exfalso; omega)) | (refine bcase_intro (fun h => ?_) (fun h => ?_) <;> (try simp only [Bool.not_eq_true', Bool.not_eq_false', decide_eq_true_eq, decide_eq_false_iff_not, Bool.not_eq_true, Bool.not_eq_false, Decidable.not_not] at h)) | refine And.intro (by first | omega | exact rfl | assumption | exact ⟨rfl, rfl, rfl, rfl, rfl⟩ | exact ⟨rfl, rfl, rfl, rfl⟩ | exact ⟨rfl, by omega⟩ | exact oneAll_of rfl | exact ⟨rfl, oneAll_of rfl⟩ | exact Ref.refl _ | exact Thin.ref (.skip (Thin.refl _)) | exact Thin.ref (.skip (.skip (Thin.refl _))) | exact ⟨rfl, Nat.le_of_ble_eq_true rfl⟩ | ((try unfold maxLen); (try simp only [List.length_nil, List.length_cons, List.length_append]); omega) | (refine ⟨rfl, ?_⟩; (try simp only [List.length_nil, List.length_cons, List.length_append]); omega)) ?_ | intro _)); (all_goals (conv => whnf))
  all_goals first | (exfalso; omega) | skip
  have hkx : known S x := hx
  have hkz : known V z := hz
  have hsame : tm V.E z = tm S.E x := by
    by_cases ht : t = []
    · rw [hx0 ht, hz0 ht]; rfl
    · exact (hz1 ht).2.det (hx1 ht).2
  have c6 := fun f fp w h => calls_lCanonK 77 880 hs bs S hwS x hkx f fp w h
  have c7 := fun f fp w h => calls_lCanonK 177 881 hs bu V hwV z hkz f fp w h
  rw [hsame] at c7
  unfold lcK at c6 c7
  generalize canT (tm S.E x) = can at *
  have c8 := fun h a a' c c' w h1 h2 => calls_Same can h a a' c c' w h1 h2
  (repeat' ((conv => whnf); first | (refine CallK_sub [77] rfl (fun w hR h0 => c6 _ _ w h0) ?_; rintro _ _ ⟨hz9, a9, c9, f9, rfl, rfl⟩; refine ⟨.v _, rfl, ?_⟩) | (refine CallK_sub [177] rfl (fun w hR h0 => c7 _ _ w h0) ?_; rintro _ _ ⟨hz8, a8, c8', f8, rfl, rfl⟩; refine ⟨.v _, rfl, ?_⟩) | (refine CallK_pure (.v _) (fun w hR => c8 hz9 _ _ _ _ w (In.ownR (key := 880) hR rfl) (In.ownR (key := 881) hR rfl)) ?_) | (refine bcase_prop (fun h => ?_) (fun h => ?_) <;> try (exfalso; omega)) | (refine bcase_nprop (fun h => ?_) (fun h => ?_) <;> try (exfalso; omega)) | (refine bcase_intro (fun h => ?_) (fun h => ?_) <;> (try simp only [Bool.not_eq_true', Bool.not_eq_false', decide_eq_true_eq, decide_eq_false_iff_not, Bool.not_eq_true, Bool.not_eq_false, Decidable.not_not] at h)) | refine And.intro (by first | omega | exact rfl | assumption | exact ⟨rfl, rfl, rfl, rfl, rfl⟩ | exact ⟨rfl, rfl, rfl, rfl⟩ | exact ⟨rfl, by omega⟩ | exact oneAll_of rfl | exact ⟨rfl, oneAll_of rfl⟩ | exact Ref.refl _ | exact Thin.ref (.skip (Thin.refl _)) | exact Thin.ref (.skip (.skip (Thin.refl _))) | exact ⟨rfl, Nat.le_of_ble_eq_true rfl⟩ | ((try unfold maxLen); (try simp only [List.length_nil, List.length_cons, List.length_append]); omega) | (refine ⟨rfl, ?_⟩; (try simp only [List.length_nil, List.length_cons, List.length_append]); omega)) ?_ | intro _)); (all_goals (conv => whnf))
  all_goals first | (exfalso; omega) | skip
  all_goals exact ⟨rfl⟩
theorem law_SignatureStoresI (w : World) (hG : TabF w []) (xs ys : List Int) (hx : ∀ n ∈ xs, (Lit.int .u8 n).wf = true) (hy : ∀ n ∈ ys, (Lit.int .u8 n).wf = true) (hxl : xs.length ≤ 140737488351232) (hyl : ys.length ≤ 140737488351232) (a b : Option Addr) (c d : Nat) (hia : In w [] a (ints .u8 xs)) (hib : In w [] b (ints .u8 ys)) :
    Calls Tryd.prog fn_evergreenlaw22_SignatureStores #[.slice a xs.length c, .slice b ys.length d] w fun e w' => e = .returned (.bool true) ∧ Ext w w' := by
  obtain ⟨e1, b1⟩ := bytes_ints hx
  obtain ⟨e2, b2⟩ := bytes_ints hy
  rw [e1] at hia
  rw [e2] at hib
  have := law_SignatureStores sortsI w hG (xs.map Int.toNat) (ys.map Int.toNat) b1 b2 (by simp; omega) (by simp; omega) a b c d hia hib
  rwa [List.length_map, List.length_map] at this
end Go.Proofs.YtkkhpdkfploodaaDoor
/- The parser in a store that may become full: the program. (Written by a program from the walks of a store with room.) -/
namespace Go.Proofs.YtkkhpdkfploodaaDoor
open Go.EG
attribute [local irreducible] CallK QCall Go.Calls
set_option linter.unusedSimpArgs false
set_option linter.unusedVariables false
set_option maxRecDepth 20000
set_option maxHeartbeats 4000000

theorem find_let {S : Sto} (hw : WF S) {y : Int} {l : Nat} (h1 : 1 ≤ y) (h2 : y ≤ S.E.length) (h : tm S.E y = .lt l) : idOf (letR l) S.E = y.toNat := by
  obtain ⟨hr, hl, ht, _, hid⟩ := hw.at_ h1 h2
  rw [h] at ht
  unfold mkT at ht
  rcases hr with ⟨k1, k2, k3, k4, _⟩ | ⟨k1, _⟩ | ⟨k1, _⟩
  · rw [if_pos k1] at ht
    injection ht with hl2
    rw [← hid]
    congr 1
    generalize (atE S.E y).r = r at *
    obtain ⟨_, v, _, _, _⟩ := r
    simp only at *
    have : v = (l : Int) := by omega
    subst k1 k2 k3 k4 this
    rfl
  · rw [if_neg (by omega), if_pos k1] at ht; cases ht
  · rw [if_neg (by omega), if_neg (by omega)] at ht; cases ht
theorem putCase {S : Sto} {r : Rul} (h : WF S) (hr : Fit S r) : (stPut S r = (S, 0, 3) ∧ S.most ≤ S.E.length ∧ idOf r S.E = 0) ∨ ∃ S' x, stPut S r = (S', x, 0) ∧ Made S S' x (mkT S.E r) := by
  by_cases hroom : S.E.length < S.most
  · exact .inr (putMade h hr hroom)
  · by_cases h0 : idOf r S.E = 0
    · left
      unfold stPut
      rw [if_pos h0, if_pos (by omega)]
      exact ⟨rfl, by omega, h0⟩
    · right
      have hs := stPut_spec h hr
      have e : stPut S r = (S, ((idOf r S.E : Nat) : Int), 0) := by unfold stPut; rw [if_neg h0]
      rw [e] at hs
      obtain ⟨h1, h2, h3, _, h5⟩ := hs
      obtain ⟨k1, k2, k3, k4⟩ := h3 rfl
      exact ⟨S, _, e, h1, h2, k1, k2.2, k3, by simp, .inl rfl⟩
theorem letCase {S : Sto} (h : WF S) {l : Nat} (hl : l < 256) : (stPut S (letR l) = (S, 0, 3) ∧ S.most ≤ S.E.length ∧ ∀ y : Int, 1 ≤ y → y ≤ S.E.length → tm S.E y ≠ .lt l) ∨ ∃ S' x, stPut S (letR l) = (S', x, 0) ∧ Made S S' x (.lt l) := by
  rcases putCase h (fit_let S hl) with ⟨e, h1, h2⟩ | ⟨S', x, e, hm⟩
  · exact .inl ⟨e, h1, fun y k1 k2 he => by have := find_let h k1 k2 he; omega⟩
  · have he : mkT S.E (letR l) = .lt l := by simp [mkT, letR]
    rw [he] at hm
    exact .inr ⟨S', x, e, hm⟩
theorem powCase {S : Sto} (h : WF S) {i k : Int} (h1 : 1 ≤ i) (h2 : i ≤ S.E.length) (hk : 2 ≤ k) (hl : (tm S.E i).len * k.toNat ≤ LM) : (stPower S i k = (S, 0, 3) ∧ S.most ≤ S.E.length ∧ ∀ y : Int, 1 ≤ y → y ≤ S.E.length → tm S.E y ≠ .pw (tm S.E i) k.toNat) ∨ ∃ S' x, stPower S i k = (S', x, 0) ∧ Made S S' x (.pw (tm S.E i) k.toNat) := by
  have e0 : stPower S i k = stPut S (powR i k) := by
    unfold stPower
    rw [if_neg (by simp [known]; omega), if_neg (by omega), if_neg (by omega), if_neg (by omega)]
  rw [e0]
  rcases putCase h (fit_pow h1 h2 hk hl) with ⟨e, q1, q2⟩ | ⟨S', x, e, hm⟩
  · exact .inl ⟨e, q1, fun y k1 k2 he => by have := find_pow h k1 k2 ⟨h1, h2⟩ (by omega) he; omega⟩
  · have he : mkT S.E (powR i k) = .pw (tm S.E i) k.toNat := by simp [mkT, powR]
    rw [he] at hm
    exact .inr ⟨S', x, e, hm⟩
theorem pairCase {S : Sto} (h : WF S) {i j : Int} (h1 : 1 ≤ i) (h2 : i ≤ S.E.length) (h3 : 1 ≤ j) (h4 : j ≤ S.E.length) (hl : (tm S.E i).len + (tm S.E j).len ≤ LM) : (stPair S i j = (S, 0, 3) ∧ S.most ≤ S.E.length ∧ ∀ y : Int, 1 ≤ y → y ≤ S.E.length → tm S.E y ≠ .pr (tm S.E i) (tm S.E j)) ∨ ∃ S' x, stPair S i j = (S', x, 0) ∧ Made S S' x (.pr (tm S.E i) (tm S.E j)) := by
  have e0 : stPair S i j = stPut S (pairR i j) := by
    unfold stPair
    rw [if_neg (by simp [known]; omega), if_neg (by omega), if_neg (by omega), if_neg (by omega)]
  rw [e0]
  rcases putCase h (fit_pair h1 h2 h3 h4 hl) with ⟨e, q1, q2⟩ | ⟨S', x, e, hm⟩
  · exact .inl ⟨e, q1, fun y k1 k2 he => by have := find_pair h k1 k2 ⟨h1, h2⟩ ⟨h3, h4⟩ he; omega⟩
  · have he : mkT S.E (pairR i j) = .pr (tm S.E i) (tm S.E j) := by simp [mkT, pairR]
    rw [he] at hm
    exact .inr ⟨S', x, e, hm⟩
/-- What is new derives symbols of a list. -/
def NewT (S S' : Sto) (ts : List Tm) : Prop := ∀ y : Int, S.E.length < y → y ≤ S'.E.length → tm S'.E y ∈ ts
theorem News.terms {S S' : Sto} {ids : List Int} {ts : List Tm} (h : News S S' ids) (k : ∀ m ∈ tms S' ids, m ∈ ts) : NewT S S' ts := fun y h1 h2 => k _ (List.mem_map.2 ⟨y, h y h1 h2, rfl⟩)
def flQ (bp bt bs : Nat) (S0 : Sto) (ts : List Tm) (v : Value) (L1 : List Ent) : Prop :=
  ∃ S f1 f2 m, WF S ∧ Grow S0 S ∧ S.most ≤ S.E.length ∧ NewT S0 S ts ∧ m ∈ ts ∧ (∀ y : Int, 1 ≤ y → y ≤ S.E.length → tm S.E y ≠ m) ∧ v = .tuple #[sqV none none 0 0 0, errV 3] ∧ L1 = fP bp bt bs S f1 f2
def ofFl (bp bt bs : Nat) (S0 : Sto) (t : List Nat) (v : Value) (L1 : List Ent) : Prop :=
  ∃ S f1 f2 k m, WF S ∧ Grow S0 S ∧ S.most ≤ S.E.length ∧ Out S0 S t ∧ m ∈ seqT t k ∧ (∀ y : Int, 1 ≤ y → y ≤ S.E.length → tm S.E y ≠ m) ∧ v = .tuple #[.int .i64 0, errV 3] ∧ L1 = fP bp bt bs S f1 f2
theorem Out.nextT {S0 S1 S2 : Sto} {t : List Nat} {k : Nat} (h : Out S0 S1 t) (hg : Grow S1 S2) (hn : NewT S1 S2 (seqT t k)) : Out S0 S2 t := fun y h1 h2 => by
  by_cases hy : y ≤ S1.E.length
  · obtain ⟨j, hj⟩ := h y h1 hy
    exact ⟨j, by rw [hg.tm hy]; exact hj⟩
  · exact ⟨k, hn y (by omega) h2⟩
--LET
theorem calls_lettersF (bp bt bs : Nat) (S0 : Sto) (hw : WF S0) (t : List Nat) (hb : ∀ x ∈ t, x < 256) (hl : t.length ≤ 65536) (at_ : Option Addr) (ct : Nat) (f1 f2 fp : List Nat) (w : World)
    (hR : R w fp (fP bp bt bs S0 f1 f2) w) (hG : TabF w fp) (hin : In w fp at_ (bytesV t)) :
    Calls Tryd.prog fn_P_signature_Parser_letters #[pS bp, .slice at_ t.length ct] w fun e w' => ∃ v L1, e = .returned v ∧ R w fp L1 w' ∧ (rowQ bp bt bs S0 (S0.E.length + 2 * t.length) (t.map .lt) v L1 ∨ flQ bp bt bs S0 (t.map .lt) v L1) := by
  refine part_call [.ptr 3000 bp 0, .v (.slice at_ t.length ct)] ok_P_signature_Parser_letters (by simp) hR ?_
  have hI0 : ∀ a a' c c' b6, LtI S0 t ⟨0, S0, [], a, a', c, c', f1, f2, b6⟩ := fun a a' c c' b6 => ⟨Nat.zero_le _, ⟨hw, Grow.refl _, fun x hx => by simp at hx, rfl, News.refl _ _⟩, rfl, Nat.le_refl _⟩
  (repeat' ((conv => whnf); first | (refine bcase_prop (fun h => ?_) (fun h => ?_) <;> try (exfalso; omega)) | (refine bcase_nprop (fun h => ?_) (fun h => ?_) <;> try (exfalso; omega)) | (refine bcase_intro (fun h => ?_) (fun h => ?_) <;> (try simp only [Bool.not_eq_true', Bool.not_eq_false', decide_eq_true_eq, decide_eq_false_iff_not, Bool.not_eq_true, Bool.not_eq_false, Decidable.not_not] at h)) | refine And.intro (by first | omega | exact rfl | assumption | exact ⟨rfl, rfl, rfl, rfl, rfl⟩ | exact ⟨rfl, rfl, rfl, rfl⟩ | exact ⟨rfl, by omega⟩ | exact oneAll_of rfl | exact ⟨rfl, oneAll_of rfl⟩ | exact Ref.refl _ | exact Thin.ref (.skip (Thin.refl _)) | exact Thin.ref (.skip (.skip (Thin.refl _))) | exact ⟨rfl, Nat.le_of_ble_eq_true rfl⟩ | ((try unfold maxLen); (try simp only [List.length_nil, List.length_cons, List.length_append]); omega) | (refine ⟨rfl, ?_⟩; (try simp only [List.length_nil, List.length_cons, List.length_append]); omega)) ?_ | intro _)); (all_goals (conv => whnf))
  rename_i b4
  refine VC_cut LtG (fun x => [(0, .ptr 3000 bp 0), (1, .v (.slice at_ t.length ct)), (4, .ptr 4 b4 0), (6, .ptr 861 x.b6 0)]) (ltH bp bt bs b4) (fun x => LtI S0 t x ∧ x.i = 0) ?_ ?_
  · (repeat' ((conv => whnf); first | refine stop_and ?_ ?_ | (refine bcase_prop (fun h => ?_) (fun h => ?_) <;> try (exfalso; omega)) | (refine bcase_nprop (fun h => ?_) (fun h => ?_) <;> try (exfalso; omega)) | (refine bcase_intro (fun h => ?_) (fun h => ?_) <;> (try simp only [Bool.not_eq_true', Bool.not_eq_false', decide_eq_true_eq, decide_eq_false_iff_not, Bool.not_eq_true, Bool.not_eq_false, Decidable.not_not] at h)) | refine And.intro (by first | omega | exact rfl | assumption | exact ⟨rfl, rfl, rfl, rfl, rfl⟩ | exact ⟨rfl, rfl, rfl, rfl⟩ | exact ⟨rfl, by omega⟩ | exact oneAll_of rfl | exact ⟨rfl, oneAll_of rfl⟩ | exact Ref.refl _ | exact Thin.ref (.skip (Thin.refl _)) | exact Thin.ref (.skip (.skip (Thin.refl _))) | exact ⟨by omega, by omega, by omega, by unfold maxLen; omega⟩ | exact fun _ => Ref.refl _ | exact fun _ => Thin.ref (by (repeat (first | exact Thin.nil _ | exact Thin.refl _ | refine Thin.keep rfl (fun _ h => h) ?_ | refine Thin.skip ?_))) | exact Thin.ref (by (repeat (first | exact Thin.nil _ | exact Thin.refl _ | refine Thin.keep rfl (fun _ h => h) ?_ | refine Thin.skip ?_))) | exact ⟨rfl, Nat.le_of_ble_eq_true rfl⟩ | ((try unfold maxLen); (try simp only [List.length_nil, List.length_cons, List.length_append]); omega) | (refine ⟨rfl, ?_⟩; (try simp only [List.length_nil, List.length_cons, List.length_append]); omega)) ?_ | intro _)); (all_goals (conv => whnf))
    all_goals
      rename_i p q r
      first
      | (refine cut_next ⟨0, S0, [], some ⟨p, 0, none⟩, some ⟨q, 0, none⟩, t.length, t.length, f1, f2, r⟩ ⟨hI0 _ _ _ _ _, rfl⟩ ?_ (Ref.takes [78, 77, 3000, 6, 14, 17, 4] rfl ?_); ((repeat ((conv => whnf); refine And.intro (by first | exact rfl | exact vint_eq (by omega) | exact vint_eq (by (dsimp only; omega)) | exact vsl_eq (by omega) | exact vsl_eq (by first | (dsimp only; omega) | (simp; done) | (simp; omega))) ?_)); exact trivial); (refine .keep rfl (fun _ h => h) ?_; refine .keep rfl (fun _ h => h) ?_; refine .keep rfl (fun _ h => h) ?_; refine .keep rfl (fun _ h => h) ?_; refine .keep rfl (fun _ h => h) ?_; refine .keep rfl (fun _ h => h) ?_; refine .keep rfl (fun _ h => h) ?_; exact .nil _))
      | (refine cut_next ⟨0, S0, [], some ⟨p, 0, none⟩, some ⟨r, 0, none⟩, t.length, t.length, f1, f2, q⟩ ⟨hI0 _ _ _ _ _, rfl⟩ ?_ (Ref.takes [78, 77, 3000, 6, 14, 17, 4] rfl ?_); ((repeat ((conv => whnf); refine And.intro (by first | exact rfl | exact vint_eq (by omega) | exact vint_eq (by (dsimp only; omega)) | exact vsl_eq (by omega) | exact vsl_eq (by first | (dsimp only; omega) | (simp; done) | (simp; omega))) ?_)); exact trivial); (refine .keep rfl (fun _ h => h) ?_; refine .keep rfl (fun _ h => h) ?_; refine .keep rfl (fun _ h => h) ?_; refine .keep rfl (fun _ h => h) ?_; refine .keep rfl (fun _ h => h) ?_; refine .keep rfl (fun _ h => h) ?_; refine .keep rfl (fun _ h => h) ?_; exact .nil _))
      | (refine cut_next ⟨0, S0, [], some ⟨q, 0, none⟩, some ⟨p, 0, none⟩, t.length, t.length, f1, f2, r⟩ ⟨hI0 _ _ _ _ _, rfl⟩ ?_ (Ref.takes [78, 77, 3000, 6, 14, 17, 4] rfl ?_); ((repeat ((conv => whnf); refine And.intro (by first | exact rfl | exact vint_eq (by omega) | exact vint_eq (by (dsimp only; omega)) | exact vsl_eq (by omega) | exact vsl_eq (by first | (dsimp only; omega) | (simp; done) | (simp; omega))) ?_)); exact trivial); (refine .keep rfl (fun _ h => h) ?_; refine .keep rfl (fun _ h => h) ?_; refine .keep rfl (fun _ h => h) ?_; refine .keep rfl (fun _ h => h) ?_; refine .keep rfl (fun _ h => h) ?_; refine .keep rfl (fun _ h => h) ?_; refine .keep rfl (fun _ h => h) ?_; exact .nil _))
      | (refine cut_next ⟨0, S0, [], some ⟨q, 0, none⟩, some ⟨r, 0, none⟩, t.length, t.length, f1, f2, p⟩ ⟨hI0 _ _ _ _ _, rfl⟩ ?_ (Ref.takes [78, 77, 3000, 6, 14, 17, 4] rfl ?_); ((repeat ((conv => whnf); refine And.intro (by first | exact rfl | exact vint_eq (by omega) | exact vint_eq (by (dsimp only; omega)) | exact vsl_eq (by omega) | exact vsl_eq (by first | (dsimp only; omega) | (simp; done) | (simp; omega))) ?_)); exact trivial); (refine .keep rfl (fun _ h => h) ?_; refine .keep rfl (fun _ h => h) ?_; refine .keep rfl (fun _ h => h) ?_; refine .keep rfl (fun _ h => h) ?_; refine .keep rfl (fun _ h => h) ?_; refine .keep rfl (fun _ h => h) ?_; refine .keep rfl (fun _ h => h) ?_; exact .nil _))
      | (refine cut_next ⟨0, S0, [], some ⟨r, 0, none⟩, some ⟨p, 0, none⟩, t.length, t.length, f1, f2, q⟩ ⟨hI0 _ _ _ _ _, rfl⟩ ?_ (Ref.takes [78, 77, 3000, 6, 14, 17, 4] rfl ?_); ((repeat ((conv => whnf); refine And.intro (by first | exact rfl | exact vint_eq (by omega) | exact vint_eq (by (dsimp only; omega)) | exact vsl_eq (by omega) | exact vsl_eq (by first | (dsimp only; omega) | (simp; done) | (simp; omega))) ?_)); exact trivial); (refine .keep rfl (fun _ h => h) ?_; refine .keep rfl (fun _ h => h) ?_; refine .keep rfl (fun _ h => h) ?_; refine .keep rfl (fun _ h => h) ?_; refine .keep rfl (fun _ h => h) ?_; refine .keep rfl (fun _ h => h) ?_; refine .keep rfl (fun _ h => h) ?_; exact .nil _))
      | (refine cut_next ⟨0, S0, [], some ⟨r, 0, none⟩, some ⟨q, 0, none⟩, t.length, t.length, f1, f2, p⟩ ⟨hI0 _ _ _ _ _, rfl⟩ ?_ (Ref.takes [78, 77, 3000, 6, 14, 17, 4] rfl ?_); ((repeat ((conv => whnf); refine And.intro (by first | exact rfl | exact vint_eq (by omega) | exact vint_eq (by (dsimp only; omega)) | exact vsl_eq (by omega) | exact vsl_eq (by first | (dsimp only; omega) | (simp; done) | (simp; omega))) ?_)); exact trivial); (refine .keep rfl (fun _ h => h) ?_; refine .keep rfl (fun _ h => h) ?_; refine .keep rfl (fun _ h => h) ?_; refine .keep rfl (fun _ h => h) ?_; refine .keep rfl (fun _ h => h) ?_; refine .keep rfl (fun _ h => h) ?_; refine .keep rfl (fun _ h => h) ?_; exact .nil _))
  · rintro ⟨i, S, ids, a, a', c, c', f1, f2, b6⟩ ⟨hI, hi0⟩
    dsimp only at hi0 ⊢
    subst hi0
    (repeat' ((conv => whnf); first | (refine bcase_prop (fun h => ?_) (fun h => ?_) <;> try (exfalso; omega)) | (refine bcase_nprop (fun h => ?_) (fun h => ?_) <;> try (exfalso; omega)) | (refine bcase_intro (fun h => ?_) (fun h => ?_) <;> (try simp only [Bool.not_eq_true', Bool.not_eq_false', decide_eq_true_eq, decide_eq_false_iff_not, Bool.not_eq_true, Bool.not_eq_false, Decidable.not_not] at h)) | refine And.intro (by first | omega | exact rfl | assumption | exact ⟨rfl, rfl, rfl, rfl, rfl⟩ | exact ⟨rfl, rfl, rfl, rfl⟩ | exact ⟨rfl, by omega⟩ | exact oneAll_of rfl | exact ⟨rfl, oneAll_of rfl⟩ | exact Ref.refl _ | exact Thin.ref (.skip (Thin.refl _)) | exact Thin.ref (.skip (.skip (Thin.refl _))) | exact ⟨rfl, Nat.le_of_ble_eq_true rfl⟩ | ((try unfold maxLen); (try simp only [List.length_nil, List.length_cons, List.length_append]); omega) | (refine ⟨rfl, ?_⟩; (try simp only [List.length_nil, List.length_cons, List.length_append]); omega)) ?_ | intro _)); (all_goals (conv => whnf))
    refine VC_loop LtG (fun x => [(0, .ptr 3000 bp 0), (4, .ptr 4 b4 0), (6, .ptr 861 x.b6 0), (19, .v (.slice at_ t.length ct)), (20, .v (.int .i64 t.length)), (21, .v (.int .i64 x.i))]) (ltH bp bt bs b4) (LtI S0 t) (fun x => t.length - x.i) ⟨0, S, ids, a, a', c, c', f1, f2, b6⟩ hI (by (repeat ((conv => whnf); refine And.intro (by first | exact rfl | exact vint_eq (by omega) | exact vint_eq (by (dsimp only; omega)) | exact vsl_eq (by omega) | exact vsl_eq (by first | (dsimp only; omega) | (simp; done) | (simp; omega))) ?_)); exact trivial) (Thin.ref (Thin.refl _)) ?_
    rintro ⟨i, S, ids, a, a', c, c', f1, f2, b6⟩ ⟨h1, h2, h3, h4⟩
    dsimp only [ltH] at h1 h2 h3 h4 ⊢
    by_cases hlt : i < t.length
    · have hne : at_ ≠ none := hin.ne' (k := i) (by simp [bytesV]; omega)
      have rd := fun {L : List Ent} => hin.rd (L := L) (bytC_at hlt)
      have hx : t.getD i 0 < 256 := hb _ (by rw [List.getD_eq_getElem?_getD, List.getElem?_eq_getElem hlt]; exact List.getElem_mem hlt)
      have htk := take_nextD (d := 0) hlt
      have hm := h2.grow.most
      have c1 := calls_Letter bs S (t.getD i 0) hx h2.wf.small
      have hmem : Tm.lt (t.getD i 0) ∈ t.map .lt := List.mem_map.2 ⟨t.getD i 0, by rw [List.getD_eq_getElem?_getD, List.getElem?_eq_getElem hlt]; exact List.getElem_mem hlt, rfl⟩
      rcases letCase h2.wf hx with ⟨e, hfull, hno⟩ | ⟨S', x, e, hM⟩
      · rw [e] at c1
        (repeat' ((conv => whnf); first | (refine CallK_pack (key := 77) rfl (fun w hR h0 => c1 _ _ _ h0) ?_; rintro _ _ ⟨rfl, fp', rfl⟩; refine ⟨.v _, rfl, ?_⟩) | rw [Int.toNat_natCast] | rw [Nat.mul_one] | refine ⟨_, rd, ?_⟩ | refine ⟨_, ⟨rfl, trivial⟩, ?_⟩  | (refine bcase_prop (fun h => ?_) (fun h => ?_) <;> try (exfalso; omega)) | (refine bcase_nprop (fun h => ?_) (fun h => ?_) <;> try (exfalso; omega)) | (refine bcase_intro (fun h => ?_) (fun h => ?_) <;> (try simp only [Bool.not_eq_true', Bool.not_eq_false', decide_eq_true_eq, decide_eq_false_iff_not, Bool.not_eq_true, Bool.not_eq_false, Decidable.not_not] at h)) | refine And.intro (by first | omega | exact rfl | assumption | exact ⟨rfl, rfl, rfl, rfl, rfl⟩ | exact ⟨rfl, rfl, rfl, rfl⟩ | exact ⟨rfl, by omega⟩ | exact oneAll_of rfl | exact ⟨rfl, oneAll_of rfl⟩ | exact Ref.refl _ | exact Thin.ref (.skip (Thin.refl _)) | exact Thin.ref (.skip (.skip (Thin.refl _))) | exact hne | exact ⟨rfl, Nat.le_of_ble_eq_true rfl⟩ | ((try unfold maxLen); (try simp only [List.length_nil, List.length_cons, List.length_append]); omega) | (refine ⟨rfl, ?_⟩; (try simp only [List.length_nil, List.length_cons, List.length_append]); omega)) ?_ | intro _)); (all_goals (conv => whnf))
        all_goals first | (exfalso; omega) | skip
        refine ⟨⟨_, Ref.takes [78, 77, 3000] rfl (Thin.refl _), .inr ⟨S, _, _, Tm.lt (t.getD i 0), h2.wf, h2.grow, hfull, h2.news.terms ?_, hmem, hno, rfl, rfl⟩⟩⟩
        rw [h2.tms]
        exact fun m hm => by
          obtain ⟨l, hl, rfl⟩ := List.mem_map.1 hm
          exact List.mem_map.2 ⟨l, List.mem_of_mem_take hl, rfl⟩
      rw [e] at c1
      have hg := hM.grow
      have hs := h2.wf.small
      generalize t.getD i 0 = l at *
      have hky : ints .u64 (kys S ids) = ints .u64 (kys S' ids) := by rw [kys_grow h2.seq hg]
      have hln : (ids ++ [x]).length = i + 1 := by simp [h3]
      (repeat' ((conv => whnf); first | (refine CallK_pack (key := 77) rfl (fun w hR h0 => c1 _ _ _ h0) ?_; rintro _ _ ⟨rfl, fp', rfl⟩; refine ⟨.v _, rfl, ?_⟩) | rw [Int.toNat_natCast] | rw [Nat.mul_one] | refine ⟨_, rd, ?_⟩ | refine ⟨_, ⟨rfl, trivial⟩, ?_⟩  | (refine bcase_prop (fun h => ?_) (fun h => ?_) <;> try (exfalso; omega)) | (refine bcase_nprop (fun h => ?_) (fun h => ?_) <;> try (exfalso; omega)) | (refine bcase_intro (fun h => ?_) (fun h => ?_) <;> (try simp only [Bool.not_eq_true', Bool.not_eq_false', decide_eq_true_eq, decide_eq_false_iff_not, Bool.not_eq_true, Bool.not_eq_false, Decidable.not_not] at h)) | refine And.intro (by first | omega | exact rfl | assumption | exact ⟨rfl, rfl, rfl, rfl, rfl⟩ | exact ⟨rfl, rfl, rfl, rfl⟩ | exact ⟨rfl, by omega⟩ | exact oneAll_of rfl | exact ⟨rfl, oneAll_of rfl⟩ | exact Ref.refl _ | exact Thin.ref (.skip (Thin.refl _)) | exact Thin.ref (.skip (.skip (Thin.refl _))) | exact hne | exact ⟨rfl, Nat.le_of_ble_eq_true rfl⟩ | ((try unfold maxLen); (try simp only [List.length_nil, List.length_cons, List.length_append]); omega) | (refine ⟨rfl, ?_⟩; (try simp only [List.length_nil, List.length_cons, List.length_append]); omega)) ?_ | intro _)); (all_goals (conv => whnf))
      refine CallK_ref (L' := ltL bp bt bs b4 S' ids a a' c c' f1 fp' b6) (Ref.takes [78, 77, 3000, 861, 851, 852, 4] rfl (packT_grow hg (.keep rfl (fun _ h => h) (.keep rfl (fun _ h => h) (.keep rfl (fun _ h => h) (.keep rfl (fun _ h => h) (.own rfl hky (Thin.refl _)))))))) ?_
      refine CallK_sub [78, 77, 3000, 861, 851, 852] rfl (fun w hR h0 => calls_addO bp bt bs b6 S' hM.wf ids (by omega) x ⟨hM.pos, hM.le⟩ a a' c c' _ _ _ w h0 (hG.castL hR)) ?_
      rintro _ _ ⟨a1, a2, d1, d2, g1, g2, rfl, rfl⟩
      refine ⟨.v _, rfl, ?_⟩
      (repeat' ((conv => whnf); first | refine ⟨_, ⟨rfl, trivial⟩, ?_⟩  | (refine bcase_prop (fun h => ?_) (fun h => ?_) <;> try (exfalso; omega)) | (refine bcase_nprop (fun h => ?_) (fun h => ?_) <;> try (exfalso; omega)) | (refine bcase_intro (fun h => ?_) (fun h => ?_) <;> (try simp only [Bool.not_eq_true', Bool.not_eq_false', decide_eq_true_eq, decide_eq_false_iff_not, Bool.not_eq_true, Bool.not_eq_false, Decidable.not_not] at h)) | refine And.intro (by first | omega | exact rfl | assumption | exact ⟨rfl, rfl, rfl, rfl, rfl⟩ | exact ⟨rfl, rfl, rfl, rfl⟩ | exact ⟨rfl, by omega⟩ | exact oneAll_of rfl | exact ⟨rfl, oneAll_of rfl⟩ | exact Ref.refl _ | exact Thin.ref (.skip (Thin.refl _)) | exact Thin.ref (.skip (.skip (Thin.refl _))) | exact ⟨rfl, Nat.le_of_ble_eq_true rfl⟩ | ((try unfold maxLen); (try simp only [List.length_nil, List.length_cons, List.length_append]); omega) | (refine ⟨rfl, ?_⟩; (try simp only [List.length_nil, List.length_cons, List.length_append]); omega)) ?_ | intro _)); (all_goals (conv => whnf))
      refine loop_next ⟨i + 1, S', ids ++ [x], a1, a2, d1, d2, g1, g2, b6⟩ ⟨hlt, ⟨hM.wf, h2.grow.trans hg, (h2.seq.grow hg).snoc ⟨hM.pos, hM.le⟩, ?_, h2.news.made hM⟩, hln, ?_⟩ ?_ (by (repeat ((conv => whnf); refine And.intro (by first | exact rfl | exact vint_eq (by omega) | exact vint_eq (by (dsimp only; omega)) | exact vsl_eq (by omega) | exact vsl_eq (by first | (dsimp only; omega) | (simp; done) | (simp; omega))) ?_)); exact trivial) (Thin.ref (Thin.refl _))
      · rw [tms_append, tms_grow h2.seq hg, h2.tms, htk, List.map_append]
        simp [tms, hM.tm]
      · have := hM.len
        dsimp only; omega
      · dsimp only; omega
    · have hil : i = t.length := by omega
      subst hil
      (repeat' ((conv => whnf); first | refine ⟨_, ⟨rfl, trivial⟩, ?_⟩ | (refine bcase_prop (fun h => ?_) (fun h => ?_) <;> try (exfalso; omega)) | (refine bcase_nprop (fun h => ?_) (fun h => ?_) <;> try (exfalso; omega)) | (refine bcase_intro (fun h => ?_) (fun h => ?_) <;> (try simp only [Bool.not_eq_true', Bool.not_eq_false', decide_eq_true_eq, decide_eq_false_iff_not, Bool.not_eq_true, Bool.not_eq_false, Decidable.not_not] at h)) | refine And.intro (by first | omega | exact rfl | assumption | exact ⟨rfl, rfl, rfl, rfl, rfl⟩ | exact ⟨rfl, rfl, rfl, rfl⟩ | exact ⟨rfl, by omega⟩ | exact oneAll_of rfl | exact ⟨rfl, oneAll_of rfl⟩ | exact Ref.refl _ | exact Thin.ref (.skip (Thin.refl _)) | exact Thin.ref (.skip (.skip (Thin.refl _))) | exact ⟨rfl, Nat.le_of_ble_eq_true rfl⟩ | ((try unfold maxLen); (try simp only [List.length_nil, List.length_cons, List.length_append]); omega) | (refine ⟨rfl, ?_⟩; (try simp only [List.length_nil, List.length_cons, List.length_append]); omega)) ?_ | intro _)); (all_goals (conv => whnf))
      rw [List.take_length] at h2
      refine ⟨⟨_, Ref.takes [78, 77, 3000, 851, 852] rfl (Thin.refl _), Or.inl ⟨S, ids, a, a', c, c', f1, f2, h2, by omega, rfl, rfl⟩⟩⟩

--RUN
theorem calls_runsF (bp bt bs : Nat) (S : Sto) (hw : WF S) (ids : List Int) (hs : Seq S ids) (hpos : 0 < ids.length) (hl : ids.length ≤ 1000) (htx : (txtOf (tms S ids)).length ≤ 65536) (B : Nat) (hB : S.E.length + ids.length ≤ B) (a a' : Option Addr) (c c' : Nat) (f1 f2 fp : List Nat) (w : World)
    (hR : R w fp (fP bp bt bs S f1 f2 ++ [.own 851 a ids.length c ty_api_ID 1 (ints .i64 ids), .own 852 a' ids.length c' ty_uint64 1 (ints .u64 (kys S ids))]) w) (hG : TabF w fp) :
    Calls Tryd.prog fn_P_signature_Parser_runs #[pS bp, sqV a a' ids.length c c'] w fun e w' => ∃ v L1, e = .returned v ∧ R w fp L1 w' ∧ (rowQ bp bt bs S B (runT (tms S ids)) v L1 ∨ flQ bp bt bs S (runT (tms S ids)) v L1) := by
  have hc1 := own_capL (key := 851) hR rfl
  have hc2 := own_capL (key := 852) hR rfl
  refine part_call [.ptr 3000 bp 0, .v (sqV a a' ids.length c c')] ok_P_signature_Parser_runs (by simp) hR ?_
  have cR := fun w h => calls_Runs w a c ids h hl
  have hof := offA_zero a c 1
  have hof' := offA_zero a' c' 1
  have hne := own_ne (key := 851) hR rfl hpos
  have hne' := own_ne (key := 852) hR rfl hpos
  (repeat' ((conv => whnf); first | refine stop_and ?_ ?_ | refine ⟨.sl 851 _ _ _, ⟨rfl, rfl, rfl, rfl⟩, ?_⟩ | refine ⟨.sl 852 _ _ _, ⟨rfl, rfl, rfl, rfl⟩, ?_⟩ | refine ⟨_, ⟨rfl, trivial⟩, ?_⟩ | refine CallK_slice 900 (fun w' hR => cR w' (In.ownR (key := 851) hR rfl)) ?_ | (refine bcase_prop (fun h => ?_) (fun h => ?_) <;> try (exfalso; omega)) | (refine bcase_nprop (fun h => ?_) (fun h => ?_) <;> try (exfalso; omega)) | (refine bcase_intro (fun h => ?_) (fun h => ?_) <;> (try simp only [Bool.not_eq_true', Bool.not_eq_false', decide_eq_true_eq, decide_eq_false_iff_not, Bool.not_eq_true, Bool.not_eq_false, Decidable.not_not] at h)) | refine And.intro (by first | omega | exact rfl | assumption | exact ⟨rfl, rfl, rfl, rfl, rfl⟩ | exact ⟨rfl, rfl, rfl, rfl⟩ | exact ⟨rfl, by omega⟩ | exact oneAll_of rfl | exact ⟨rfl, oneAll_of rfl⟩ | exact Ref.refl _ | exact Thin.ref (.skip (Thin.refl _)) | exact Thin.ref (.skip (.skip (Thin.refl _))) | exact fun _ => Ref.refl _ | exact fun _ => Thin.ref (by (repeat (first | exact Thin.nil _ | exact Thin.refl _ | refine Thin.keep rfl (fun _ h => h) ?_ | refine Thin.skip ?_))) | exact Thin.ref (by (repeat (first | exact Thin.nil _ | exact Thin.refl _ | refine Thin.keep rfl (fun _ h => h) ?_ | refine Thin.skip ?_))) | exact ⟨rfl, Nat.le_of_ble_eq_true rfl⟩ | ((try unfold maxLen); (try simp only [List.length_nil, List.length_cons, List.length_append]); omega) | (refine ⟨rfl, ?_⟩; (try simp only [List.length_nil, List.length_cons, List.length_append]); omega)) ?_ | intro _)); (all_goals (conv => whnf))
  rename_i b3 b4 b6 ar cr
  refine VC_loop RnG (fun x => [(0, .ptr 3000 bp 0), (3, .ptr 3 b3 0), (4, .ptr 4 b4 0), (6, .ptr 861 b6 0), (7, .v (.int .i64 (atR ids x.i))), (22, .sl 900 ar (runs ids).length cr), (23, .v (.int .i64 (runs ids).length)), (24, .v (.int .i64 x.i))])
    (fun x => rnL bp bt bs b3 b4 b6 S ids a a' c c' ar cr x.i x.S x.out x.f1 x.f2) (RnI S ids B) (fun x => (runs ids).length - x.i) ⟨0, S, [], f1, f2⟩ ⟨Nat.zero_le _, ⟨hw, Grow.refl _, fun x hx => by simp at hx, rfl, News.refl _ _⟩, rfl, by rw [atR_zero]; dsimp only; omega⟩ (by rw [atR_zero]; (repeat ((conv => whnf); refine And.intro (by first | exact rfl | exact vint_eq (by omega) | exact vint_eq (by (dsimp only; omega)) | exact vsl_eq (by omega) | exact vsl_eq (by first | (dsimp only; omega) | (simp; done) | (simp; omega))) ?_)); exact trivial) (Ref.takes [78, 77, 3000, 6, 851, 852, 3, 4, 900] rfl ?_) ?_
  · refine .keep rfl (fun _ h => h) (.keep rfl (fun _ h => h) (.keep rfl (fun _ h => h) (.box ?_ (Thin.refl _))))
    show [Value.slice (offA a c 0 1) _ _, Value.slice (offA a' c' 0 1) _ _] = _
    rw [hof, hof']; rfl
  rintro ⟨i, S1, out, g1, g2⟩ ⟨h1, h2, h3, h4⟩
  dsimp only at h1 h2 h3 h4 ⊢
  have hgm := h2.grow.most
  by_cases hlt : i < (runs ids).length
  · obtain ⟨q1, q2, q3, q4⟩ := atR_next hlt
    have q5 := atR_ge (xs := ids) (i := i) h1
    have hrt := runs_tms hw hs
    have htk : ((runsT (tms S ids)).take (i + 1)).map powT = ((runsT (tms S ids)).take i).map powT ++ [powT (tm S.E ((runs ids).getD i (0, 0)).1, ((runs ids).getD i (0, 0)).2.toNat)] := by
      rw [hrt, ← List.map_take, ← List.map_take, take_nextD (d := (0, 0)) hlt, List.map_append, List.map_append]; rfl
    have hmem : (tm S.E ((runs ids).getD i (0, 0)).1, ((runs ids).getD i (0, 0)).2.toNat) ∈ runsT (tms S ids) := by
      rw [hrt]
      refine List.mem_map.2 ⟨(runs ids).getD i (0, 0), ?_, rfl⟩
      rw [List.getD_eq_getElem?_getD, List.getElem?_eq_getElem hlt]
      exact List.getElem_mem hlt
    have hlr := len_run hmem
    have e1 := intOf_prs1 (k := .i64) hlt
    have e2 := intOf_prs2 (k := .i64) hlt
    have hat : atR ids i < ids.length := by omega
    have hid := hs.get hat
    rw [q4] at hid
    have hkey := kys_get S hat
    rw [q4] at hkey
    have hKl : (kys S1 out).length = i := by rw [kys_len, h3]
    have r1 : (ints .u64 (kys S1 out ++ (kys S ids).drop i))[atR ids i]? = some (.int .u64 ((tm S.E ((runs ids).getD i (0, 0)).1).key : Int)) := by
      rw [ints_getD (by rw [len_mid hKl (by rw [kys_len]; omega), kys_len]; exact hat), get_mid hKl q5 (by rw [kys_len]; exact hat), hkey]
    have s1 := fun (v : Int) => splice_ints (k := .i64) (xs := out ++ ids.drop i) (j := i) (z := v) (by rw [len_mid h3 (by omega)]; omega)
    have s2 := fun (v : Int) => splice_ints (k := .u64) (xs := kys S1 out ++ (kys S ids).drop i) (j := i) (z := v) (by rw [len_mid hKl (by rw [kys_len]; omega), kys_len]; omega)
    have hidS1 := (hs.grow h2.grow).get hat
    rw [q4] at hidS1
    have htm1 : tm S1.E ((runs ids).getD i (0, 0)).1 = tm S.E ((runs ids).getD i (0, 0)).1 := h2.grow.tm hid.2
    generalize hgg : (runs ids).getD i (0, 0) = g at *
    by_cases hg1 : g.2 = 1
    · have hpw : powT (tm S.E g.1, g.2.toNat) = tm S.E g.1 := by rw [hg1]; rfl
      rw [hpw] at htk
      (repeat' ((conv => whnf); first | rw [Int.toNat_natCast] | rw [Nat.mul_one] | rw [e1] | rw [e2] | refine ldCell r1 ?_ | refine ⟨.sl 851 _ _ _, ⟨rfl, rfl, rfl, rfl⟩, ?_⟩ | refine ⟨.sl 852 _ _ _, ⟨rfl, rfl, rfl, rfl⟩, ?_⟩ | refine ⟨.vie 851 a i c, ⟨rfl, trivial⟩, ?_⟩ | refine ⟨.vie 852 a' i c', ⟨rfl, trivial⟩, ?_⟩ | refine ⟨_, ⟨rfl, trivial⟩, ?_⟩ | (refine bcase_prop (fun h => ?_) (fun h => ?_) <;> try (exfalso; omega)) | (refine bcase_nprop (fun h => ?_) (fun h => ?_) <;> try (exfalso; omega)) | (refine bcase_intro (fun h => ?_) (fun h => ?_) <;> (try simp only [Bool.not_eq_true', Bool.not_eq_false', decide_eq_true_eq, decide_eq_false_iff_not, Bool.not_eq_true, Bool.not_eq_false, Decidable.not_not] at h)) | refine And.intro (by first | omega | exact rfl | assumption | exact ⟨rfl, rfl, rfl, rfl, rfl⟩ | exact ⟨rfl, rfl, rfl, rfl⟩ | exact ⟨rfl, by omega⟩ | exact oneAll_of rfl | exact ⟨rfl, oneAll_of rfl⟩ | exact Ref.refl _ | exact Thin.ref (.skip (Thin.refl _)) | exact Thin.ref (.skip (.skip (Thin.refl _))) | exact hne | exact hne' | exact ⟨isK_prs1 (by omega), isK_prs2 (by omega), trivial⟩ | (simp only [Int.toNat_natCast]; exact ⟨isK_prs1 (by omega), isK_prs2 (by omega), trivial⟩) | exact ⟨rfl, rfl, rfl, rfl, by omega, by omega⟩ | exact ⟨rfl, Nat.le_of_ble_eq_true rfl⟩ | ((try unfold maxLen); (try simp only [List.length_nil, List.length_cons, List.length_append]); omega) | (refine ⟨rfl, ?_⟩; (try simp only [List.length_nil, List.length_cons, List.length_append]); omega)) ?_ | intro _)); (all_goals (conv => whnf))
      all_goals first | (exfalso; omega) | skip
      have hky : kys S1 (out ++ [g.1]) = kys S1 out ++ [((tm S.E g.1).key : Int)] := by rw [kys_append]; simp [kys, htm1]
      refine loop_next ⟨i + 1, S1, out ++ [g.1], g1, g2⟩ ⟨hlt, ⟨h2.wf, h2.grow, h2.seq.snoc hidS1, ?_, h2.news.more _⟩, by simp [h3], ?_⟩ ?_ ?_ (Thin.ref (.skip (.skip (.skip (.keep rfl (fun _ h => h) (.keep rfl (fun _ h => h) (.keep rfl (fun _ h => h) (.keep rfl (fun _ h => h) (.own rfl ?_ (.own rfl ?_ (Thin.refl _)))))))))))
      · rw [tms_append, h2.tms, htk]; simp [tms, htm1]
      · dsimp only; omega
      · dsimp only; omega
      · dsimp only
        rw [q1]
        (repeat ((conv => whnf); refine And.intro (by first | exact rfl | exact vint_eq (by omega) | exact vint_eq (by (dsimp only; omega)) | exact vsl_eq (by omega) | exact vsl_eq (by first | (dsimp only; omega) | (simp; done) | (simp; omega))) ?_)); exact trivial
      · rw [s1, set_mid h3 (by omega)]
      · rw [s2, set_mid hKl (by rw [kys_len]; omega), hky]
    · have hpw : powT (tm S.E g.1, g.2.toNat) = .pw (tm S.E g.1) g.2.toNat := if_neg (by dsimp only; omega)
      rw [hpw] at htk
      have c1 := calls_Power bs S1 h2.wf g.1 g.2 (by omega)
      have hmp : powT (tm S.E g.1, g.2.toNat) ∈ runT (tms S ids) := List.mem_map.2 ⟨_, hmem, rfl⟩
      rw [hpw] at hmp
      rcases powCase h2.wf hidS1.1 hidS1.2 (k := g.2) (by omega) (by rw [htm1]; dsimp only at hlr; have : LM = 1152921504606846976 := rfl; omega) with ⟨e, hfull, hno⟩ | ⟨S2, x, e, hM⟩
      · rw [e] at c1
        rw [htm1] at hno
        (repeat' ((conv => whnf); first | (refine CallK_pack (key := 77) rfl (fun w hR h0 => c1 _ _ _ h0) ?_; rintro _ _ ⟨rfl, fp', rfl⟩; refine ⟨.v _, rfl, ?_⟩) | rw [Int.toNat_natCast] | rw [Nat.mul_one] | rw [e1] | rw [e2] | refine ldCell r1 ?_ | refine ⟨.sl 851 _ _ _, ⟨rfl, rfl, rfl, rfl⟩, ?_⟩ | refine ⟨.sl 852 _ _ _, ⟨rfl, rfl, rfl, rfl⟩, ?_⟩ | refine ⟨.vie 851 a i c, ⟨rfl, trivial⟩, ?_⟩ | refine ⟨.vie 852 a' i c', ⟨rfl, trivial⟩, ?_⟩ | refine ⟨_, ⟨rfl, trivial⟩, ?_⟩ | refine stop_and ?_ ?_ | (refine bcase_prop (fun h => ?_) (fun h => ?_) <;> try (exfalso; omega)) | (refine bcase_nprop (fun h => ?_) (fun h => ?_) <;> try (exfalso; omega)) | (refine bcase_intro (fun h => ?_) (fun h => ?_) <;> (try simp only [Bool.not_eq_true', Bool.not_eq_false', decide_eq_true_eq, decide_eq_false_iff_not, Bool.not_eq_true, Bool.not_eq_false, Decidable.not_not] at h)) | refine And.intro (by first | omega | exact rfl | assumption | exact ⟨rfl, rfl, rfl, rfl, rfl⟩ | exact ⟨rfl, rfl, rfl, rfl⟩ | exact ⟨rfl, by omega⟩ | exact oneAll_of rfl | exact ⟨rfl, oneAll_of rfl⟩ | exact Ref.refl _ | exact Thin.ref (.skip (Thin.refl _)) | exact Thin.ref (.skip (.skip (Thin.refl _))) | exact hne | exact hne' | exact ⟨isK_prs1 (by omega), isK_prs2 (by omega), trivial⟩ | (simp only [Int.toNat_natCast]; exact ⟨isK_prs1 (by omega), isK_prs2 (by omega), trivial⟩) | exact ⟨rfl, rfl, rfl, rfl, by omega, by omega⟩ | exact fun _ => Ref.refl _ | exact fun _ => Thin.ref (by (repeat (first | exact Thin.nil _ | exact Thin.refl _ | refine Thin.keep rfl (fun _ h => h) ?_ | refine Thin.skip ?_))) | exact Thin.ref (by (repeat (first | exact Thin.nil _ | exact Thin.refl _ | refine Thin.keep rfl (fun _ h => h) ?_ | refine Thin.skip ?_))) | exact ⟨rfl, Nat.le_of_ble_eq_true rfl⟩ | ((try unfold maxLen); (try simp only [List.length_nil, List.length_cons, List.length_append]); omega) | (refine ⟨rfl, ?_⟩; (try simp only [List.length_nil, List.length_cons, List.length_append]); omega)) ?_ | intro _)); (all_goals (conv => whnf))
        all_goals first | (exfalso; omega) | skip
        refine ⟨⟨_, Ref.takes [78, 77, 3000] rfl (Thin.refl _), .inr ⟨S1, _, _, _, h2.wf, h2.grow, hfull, h2.news.terms ?_, hmp, hno, rfl, rfl⟩⟩⟩
        rw [h2.tms]
        exact fun m hm => by
          obtain ⟨p, hp, rfl⟩ := List.mem_map.1 hm
          exact List.mem_map.2 ⟨p, List.mem_of_mem_take hp, rfl⟩
      rw [e] at c1
      have hg := hM.grow
      have c2 := calls_Key bt bs S2 hM.wf x
      rw [keyRes_ok ⟨hM.pos, hM.le⟩] at c2
      (repeat' ((conv => whnf); first | (refine CallK_pack (key := 77) rfl (fun w hR h0 => c1 _ _ _ h0) ?_; rintro _ _ ⟨rfl, fp', rfl⟩; refine ⟨.v _, rfl, ?_⟩) | (refine CallK_growT rfl hg ?_; (refine CallK_pack2 (key1 := 78) (key2 := 77) rfl rfl (fun w hR h0 => c2 _ _ _ _ _ h0 (hG.cast2 hR)) ?_; rintro _ _ ⟨rfl, fp1', fp2', rfl⟩; refine ⟨.v _, rfl, ?_⟩)) | rw [Int.toNat_natCast] | rw [Nat.mul_one] | rw [e1] | rw [e2] | refine ldCell r1 ?_ | refine ⟨.sl 851 _ _ _, ⟨rfl, rfl, rfl, rfl⟩, ?_⟩ | refine ⟨.sl 852 _ _ _, ⟨rfl, rfl, rfl, rfl⟩, ?_⟩ | refine ⟨.vie 851 a i c, ⟨rfl, trivial⟩, ?_⟩ | refine ⟨.vie 852 a' i c', ⟨rfl, trivial⟩, ?_⟩ | refine ⟨_, ⟨rfl, trivial⟩, ?_⟩ | refine stop_and ?_ ?_ | (refine bcase_prop (fun h => ?_) (fun h => ?_) <;> try (exfalso; omega)) | (refine bcase_nprop (fun h => ?_) (fun h => ?_) <;> try (exfalso; omega)) | (refine bcase_intro (fun h => ?_) (fun h => ?_) <;> (try simp only [Bool.not_eq_true', Bool.not_eq_false', decide_eq_true_eq, decide_eq_false_iff_not, Bool.not_eq_true, Bool.not_eq_false, Decidable.not_not] at h)) | refine And.intro (by first | omega | exact rfl | assumption | exact ⟨rfl, rfl, rfl, rfl, rfl⟩ | exact ⟨rfl, rfl, rfl, rfl⟩ | exact ⟨rfl, by omega⟩ | exact oneAll_of rfl | exact ⟨rfl, oneAll_of rfl⟩ | exact Ref.refl _ | exact Thin.ref (.skip (Thin.refl _)) | exact Thin.ref (.skip (.skip (Thin.refl _))) | exact hne | exact hne' | exact ⟨isK_prs1 (by omega), isK_prs2 (by omega), trivial⟩ | (simp only [Int.toNat_natCast]; exact ⟨isK_prs1 (by omega), isK_prs2 (by omega), trivial⟩) | exact ⟨rfl, rfl, rfl, rfl, by omega, by omega⟩ | exact fun _ => Ref.refl _ | exact fun _ => Thin.ref (by (repeat (first | exact Thin.nil _ | exact Thin.refl _ | refine Thin.keep rfl (fun _ h => h) ?_ | refine Thin.skip ?_))) | exact Thin.ref (by (repeat (first | exact Thin.nil _ | exact Thin.refl _ | refine Thin.keep rfl (fun _ h => h) ?_ | refine Thin.skip ?_))) | exact ⟨rfl, Nat.le_of_ble_eq_true rfl⟩ | ((try unfold maxLen); (try simp only [List.length_nil, List.length_cons, List.length_append]); omega) | (refine ⟨rfl, ?_⟩; (try simp only [List.length_nil, List.length_cons, List.length_append]); omega)) ?_ | intro _)); (all_goals (conv => whnf))
      all_goals first | (exfalso; omega) | skip
      have hky : kys S2 (out ++ [x]) = kys S1 out ++ [((tm S2.E x).key : Int)] := by rw [kys_append, kys_grow h2.seq hg]; simp [kys]
      have hM2 := hM.len
      refine loop_next ⟨i + 1, S2, out ++ [x], _, _⟩ ⟨hlt, ⟨hM.wf, h2.grow.trans hg, (h2.seq.grow hg).snoc ⟨hM.pos, hM.le⟩, ?_, h2.news.made hM⟩, by simp [h3], ?_⟩ ?_ ?_ (Ref.takes [78, 77, 3000, 861, 851, 852, 3, 4, 900] rfl (.keep rfl (fun _ h => h) (.keep rfl (fun _ h => h) (.keep rfl (fun _ h => h) (.keep rfl (fun _ h => h) (.own rfl ?_ (.own rfl ?_ (Thin.refl _))))))))
      · rw [tms_append, tms_grow h2.seq hg, h2.tms, htk]; simp [tms, hM.tm, htm1]
      · dsimp only; omega
      · dsimp only; omega
      · dsimp only
        rw [q1]
        (repeat ((conv => whnf); refine And.intro (by first | exact rfl | exact vint_eq (by omega) | exact vint_eq (by (dsimp only; omega)) | exact vsl_eq (by omega) | exact vsl_eq (by first | (dsimp only; omega) | (simp; done) | (simp; omega))) ?_)); exact trivial
      · rw [s1, set_mid h3 (by omega)]
      · rw [s2, set_mid hKl (by rw [kys_len]; omega), hky]
  · have hin : i = (runs ids).length := by omega
    have hnl : (runs ids).length ≤ ids.length := runs_length ids
    (repeat' ((conv => whnf); first | refine ⟨_, ⟨rfl, trivial⟩, ?_⟩ | (refine bcase_prop (fun h => ?_) (fun h => ?_) <;> try (exfalso; omega)) | (refine bcase_nprop (fun h => ?_) (fun h => ?_) <;> try (exfalso; omega)) | (refine bcase_intro (fun h => ?_) (fun h => ?_) <;> (try simp only [Bool.not_eq_true', Bool.not_eq_false', decide_eq_true_eq, decide_eq_false_iff_not, Bool.not_eq_true, Bool.not_eq_false, Decidable.not_not] at h)) | refine And.intro (by first | omega | exact rfl | assumption | exact ⟨rfl, rfl, rfl, rfl, rfl⟩ | exact ⟨rfl, rfl, rfl, rfl⟩ | exact ⟨rfl, by omega⟩ | exact oneAll_of rfl | exact ⟨rfl, oneAll_of rfl⟩ | exact Ref.refl _ | exact Thin.ref (.skip (Thin.refl _)) | exact Thin.ref (.skip (.skip (Thin.refl _))) | exact ⟨rfl, Nat.le_of_ble_eq_true rfl⟩ | ((try unfold maxLen); (try simp only [List.length_nil, List.length_cons, List.length_append]); omega) | (refine ⟨rfl, ?_⟩; (try simp only [List.length_nil, List.length_cons, List.length_append]); omega)) ?_ | intro _)); (all_goals (conv => whnf))
    all_goals first | (exfalso; omega) | skip
    have hrt := runs_tms hw hs
    have hall : ((runsT (tms S ids)).take i).map powT = runT (tms S ids) := by
      unfold runT
      rw [hin, List.take_of_length_le (by rw [hrt, List.length_map]; omega)]
    rw [hall] at h2
    refine ⟨⟨_, Ref.takes [78, 77, 3000, 851, 852] rfl (.keep rfl (fun _ h => h) (.keep rfl (fun _ h => h) (.keep rfl (fun _ h => h) (.cut (m := out.length) (by omega) ?_ (.cut (m := out.length) (by omega) ?_ (.nil _)))))), Or.inl ⟨S1, out, a, a', c, c', g1, g2, h2, by omega, by rw [h3]; rfl, rfl⟩⟩⟩
    · rw [Nat.mul_one, ints, ← List.map_take, List.take_left]; rfl
    · rw [Nat.mul_one, ints, ← List.map_take, show out.length = (kys S1 out).length from (kys_len _ _).symm, List.take_left]; rfl
--PRS
theorem calls_pairsF (bp bt bs : Nat) (S : Sto) (hw : WF S) (ids : List Int) (hs : Seq S ids) (hpos : 0 < ids.length) (hl : ids.length ≤ 1000) (htx : (txtOf (tms S ids)).length ≤ 65536) (l : Nat) (hlv : l ≤ 9223372036854775807) (B : Nat) (hB : S.E.length + ids.length ≤ B) (a a' : Option Addr) (c c' : Nat) (f1 f2 fp : List Nat) (w : World)
    (hR : R w fp (fP bp bt bs S f1 f2 ++ [.own 851 a ids.length c ty_api_ID 1 (ints .i64 ids), .own 852 a' ids.length c' ty_uint64 1 (ints .u64 (kys S ids))]) w) (hG : TabF w fp) :
    Calls Tryd.prog fn_P_signature_Parser_pairs #[pS bp, sqV a a' ids.length c c', .int .i64 l] w fun e w' => ∃ v L1, e = .returned v ∧ R w fp L1 w' ∧ (rowQ bp bt bs S B (pairT (tms S ids) l) v L1 ∨ flQ bp bt bs S (pairT (tms S ids) l) v L1) := by
  have hc1 := own_capL (key := 851) hR rfl
  have hc2 := own_capL (key := 852) hR rfl
  refine part_call [.ptr 3000 bp 0, .v (sqV a a' ids.length c c'), .v (.int .i64 l)] ok_P_signature_Parser_pairs (by simp) hR ?_
  have hkl := kys_len S ids
  have cR := fun w h => calls_Pairs w a' c' (kys S ids) l h (by omega) (u64s_kys S ids) (by omega)
  rw [hkl] at cR
  have hof := offA_zero a c 1
  have hof' := offA_zero a' c' 1
  have hne := own_ne (key := 851) hR rfl hpos
  have hne' := own_ne (key := 852) hR rfl hpos
  have hpk := pairs_ok (tms S ids) l
  rw [keys_tms, tms_len] at hpk
  have hpl := pairsF_length (kys S ids) l
  have hps : pairT (tms S ids) l = asm (tms S ids) 0 (pairsF (kys S ids) l) := by rw [pairT, keys_tms]
  (repeat' ((conv => whnf); first | refine stop_and ?_ ?_ | refine ⟨.sl 851 _ _ _, ⟨rfl, rfl, rfl, rfl⟩, ?_⟩ | refine ⟨.sl 852 _ _ _, ⟨rfl, rfl, rfl, rfl⟩, ?_⟩ | refine ⟨_, ⟨rfl, trivial⟩, ?_⟩ | refine CallK_slice 900 (fun w' hR => cR w' (In.ownR (key := 852) hR rfl)) ?_ | (refine bcase_prop (fun h => ?_) (fun h => ?_) <;> try (exfalso; omega)) | (refine bcase_nprop (fun h => ?_) (fun h => ?_) <;> try (exfalso; omega)) | (refine bcase_intro (fun h => ?_) (fun h => ?_) <;> (try simp only [Bool.not_eq_true', Bool.not_eq_false', decide_eq_true_eq, decide_eq_false_iff_not, Bool.not_eq_true, Bool.not_eq_false, Decidable.not_not] at h)) | refine And.intro (by first | omega | exact rfl | assumption | exact ⟨rfl, rfl, rfl, rfl, rfl⟩ | exact ⟨rfl, rfl, rfl, rfl⟩ | exact ⟨rfl, by omega⟩ | exact oneAll_of rfl | exact ⟨rfl, oneAll_of rfl⟩ | exact Ref.refl _ | exact Thin.ref (.skip (Thin.refl _)) | exact Thin.ref (.skip (.skip (Thin.refl _))) | exact fun _ => Ref.refl _ | exact fun _ => Thin.ref (by (repeat (first | exact Thin.nil _ | exact Thin.refl _ | refine Thin.keep rfl (fun _ h => h) ?_ | refine Thin.skip ?_))) | exact Thin.ref (by (repeat (first | exact Thin.nil _ | exact Thin.refl _ | refine Thin.keep rfl (fun _ h => h) ?_ | refine Thin.skip ?_))) | exact ⟨rfl, Nat.le_of_ble_eq_true rfl⟩ | ((try unfold maxLen); (try simp only [List.length_nil, List.length_cons, List.length_append]); omega) | (refine ⟨rfl, ?_⟩; (try simp only [List.length_nil, List.length_cons, List.length_append]); omega)) ?_ | intro _)); (all_goals (conv => whnf))
  rename_i b4 b6 b8 ar cr
  refine VC_loop PrG (fun x => [(0, .ptr 3000 bp 0), (4, .ptr 4 b4 0), (6, .ptr 6 b6 0), (8, .ptr 861 b8 0), (9, .v (.int .i64 x.at_)), (25, .sl 900 ar (pairsF (kys S ids) l).length cr), (26, .v (.int .i64 (pairsF (kys S ids) l).length)), (27, .v (.int .i64 x.i))])
    (fun x => prL bp bt bs b4 b6 b8 S ids a a' c c' ar cr (pairsF (kys S ids) l) x.S x.out.length x.out (kys x.S x.out) x.f1 x.f2) (PrI S ids l B) (fun x => (pairsF (kys S ids) l).length - x.i) ⟨0, 0, S, [], f1, f2⟩ ⟨Nat.zero_le _, hw, Grow.refl _, fun x hx => by simp at hx, News.refl _ _, hpk.1, hps.symm, ⟨Nat.le_refl _, Nat.zero_le _⟩, by dsimp only [List.length_nil]; omega⟩ (by (repeat ((conv => whnf); refine And.intro (by first | exact rfl | exact vint_eq (by omega) | exact vint_eq (by (dsimp only; omega)) | exact vsl_eq (by omega) | exact vsl_eq (by first | (dsimp only; omega) | (simp; done) | (simp; omega))) ?_)); exact trivial) (Ref.takes [78, 77, 3000, 8, 851, 852, 4, 6, 900] rfl ?_) ?_
  · refine .keep rfl (fun _ h => h) (.keep rfl (fun _ h => h) (.keep rfl (fun _ h => h) (.box ?_ (Thin.refl _))))
    show [Value.slice (offA a c 0 1) _ _, Value.slice (offA a' c' 0 1) _ _] = _
    rw [hof, hof']; rfl
  generalize hPP : pairsF (kys S ids) l = ps at *
  rintro ⟨i, at_, S1, out, g1, g2⟩ ⟨h1, h2, h3, h4, h5, h6, h7, ⟨h8, h9⟩, h10⟩
  rw [hPP] at h1 h6 h7
  dsimp only at h1 h2 h3 h4 h5 h6 h7 h8 h9 h10 ⊢
  have hgm := h3.most
  have hm0 : out.length ≤ ids.length := by omega
  have hKl : (kys S1 out).length = out.length := kys_len S1 out
  by_cases hlt : i < ps.length
  · have hpi := hpk.2 (ps.getD i 0) (by rw [List.getD_eq_getElem?_getD, List.getElem?_eq_getElem hlt]; exact List.getElem_mem hlt)
    have hdr : ps.drop i = ps.getD i 0 :: ps.drop (i + 1) := by
      rw [List.drop_eq_getElem_cons hlt, List.getD_eq_getElem?_getD, List.getElem?_eq_getElem hlt]; rfl
    have r0 : (ints .i64 ps)[i]? = some (.int .i64 (ps.getD i 0)) := ints_getD hlt
    rw [hdr] at h6 h7
    obtain ⟨q, hq⟩ := Int.eq_ofNat_of_zero_le hpi.1
    rw [hq] at h6 h7 hpi r0
    have hqa : at_ ≤ q := by have := h6.1; omega
    have hq1 : q + 1 < ids.length := by omega
    have hgp := h6.2
    have x1 := hs.get (show q < ids.length by omega)
    have x2 := hs.get hq1
    have y1 := (hs.grow h3).get (show q < ids.length by omega)
    have y2 := (hs.grow h3).get hq1
    have t1 := tms_get S (show q < ids.length by omega)
    have t2 := tms_get S hq1
    have z1 := h3.tm x1.2
    have z2 := h3.tm x2.2
    have hl2 := len_two (ts := tms S ids) (i := q) (by rw [tms_len]; exact hq1)
    rw [t1, t2] at hl2
    have hsl : ((ids.drop at_).take (q - at_)).length = q - at_ := by simp; omega
    have hslk : (((kys S ids).drop at_).take (q - at_)).length = q - at_ := by simp [hkl]; omega
    have hsq : Seq S ((ids.drop at_).take (q - at_)) := (hs.drop _).take _
    have hkk : kys S1 ((ids.drop at_).take (q - at_)) = ((kys S ids).drop at_).take (q - at_) := by
      rw [kys_grow hsq h3]; simp [kys, List.map_drop, List.map_take]
    have htt : tms S1 ((ids.drop at_).take (q - at_)) = ((tms S ids).drop at_).take (q - at_) := by
      rw [tms_grow hsq h3]; simp [tms, List.map_drop, List.map_take]
    obtain ⟨out', hout⟩ : ∃ o, o = out ++ (ids.drop at_).take (q - at_) := ⟨_, rfl⟩
    have ho1 : out'.length = out.length + (q - at_) := by rw [hout, List.length_append, hsl]
    have hsq' : Seq S1 out' := by rw [hout]; exact h4.append (hsq.grow h3)
    have c1 := calls_Pair bs S1 h2 (ids.getD q 0) (ids.getD (q + 1) 0)
    have sA := splice_mid (k := .i64) (X := out) (Z := ids) (Y := (ids.drop at_).take (q - at_)) (m := out.length) rfl
    have sB := splice_mid (k := .u64) (X := kys S1 out) (Z := kys S ids) (Y := ((kys S ids).drop at_).take (q - at_)) (m := out.length) hKl
    rw [hsl, ← hout, ← ho1] at sA
    have hk' : kys S1 out' = kys S1 out ++ ((kys S ids).drop at_).take (q - at_) := by rw [hout, kys_append, hkk]
    rw [hslk, ← hk', ← ho1] at sB
    have pA := ints_part (k := .i64) (X := out) (Z := ids) (m := out.length) (l := at_) (q := q - at_) rfl h8
    have pB := ints_part (k := .u64) (X := kys S1 out) (Z := kys S ids) (m := out.length) (l := at_) (q := q - at_) hKl h8
    have lA : (ints .i64 (out ++ ids.drop out.length)).length = ids.length := by rw [ints_length, len_mid rfl hm0]
    have lB : (ints .u64 (kys S1 out ++ (kys S ids).drop out.length)).length = ids.length := by rw [ints_length, len_mid hKl (by omega), hkl]
    have rA := fun {L : List Ent} {T : Nat} (h : ownAt 851 L = some ⟨a, ids.length, c, T, 1, ints .i64 (out ++ ids.drop out.length)⟩) => rdsSub (w0 := w) (fp0 := fp) 851 h (l := at_) (m := q - at_) (by rw [lA]; omega)
    have rB := fun {L : List Ent} {T : Nat} (h : ownAt 852 L = some ⟨a', ids.length, c', T, 1, ints .u64 (kys S1 out ++ (kys S ids).drop out.length)⟩) => rdsSub (w0 := w) (fp0 := fp) 852 h (l := at_) (m := q - at_) (by rw [lB]; omega)
    rw [pA, Nat.mul_one] at rA
    rw [pB, Nat.mul_one] at rB
    have oA := oneAllI (k := .i64) ((ids.drop at_).take (q - at_))
    have oB := oneAllI (k := .u64) (((kys S ids).drop at_).take (q - at_))
    have k1 : (ints .i64 (out' ++ ids.drop out'.length))[q]? = some (.int .i64 (ids.getD q 0)) := by
      rw [ints_getD (by rw [len_mid rfl (by omega)]; omega), get_mid rfl (by omega) (by omega)]
    have k2 : (ints .i64 (out' ++ ids.drop out'.length))[q + 1]? = some (.int .i64 (ids.getD (q + 1) 0)) := by
      rw [ints_getD (by rw [len_mid rfl (by omega)]; omega), get_mid rfl (by omega) hq1]
    have eq1 : ((q : Int) + 1).toNat = q + 1 := by omega
    have hml : out.length + (q - at_) = out'.length := ho1.symm
    rcases pairCase h2 y1.1 y1.2 y2.1 y2.2 (by rw [z1, z2]; have : LM = 1152921504606846976 := rfl; omega) with ⟨e, hfull, hno⟩ | ⟨S2, x, e, hM⟩
    · rw [e] at c1
      rw [z1, z2] at hno
      (repeat' ((conv => whnf); first | rw [Int.toNat_natCast] | rw [eq1] | rw [Nat.mul_one] | refine ldCell r0 ?_ | refine ldCell k1 ?_ | refine ldCell k2 ?_ | refine ⟨_, rA rfl, oA, ?_⟩ | refine ⟨_, rB rfl, oB, ?_⟩ | rw [sA] | rw [sB] | rw [hml] | (refine CallK_pack (key := 77) rfl (fun w hR h0 => c1 _ _ _ h0) ?_; rintro _ _ ⟨rfl, fp', rfl⟩; refine ⟨.v _, rfl, ?_⟩) | refine ⟨.sl 851 _ _ _, ⟨rfl, rfl, rfl, rfl⟩, ?_⟩ | refine ⟨.sl 852 _ _ _, ⟨rfl, rfl, rfl, rfl⟩, ?_⟩ | refine ⟨.vie 851 a _ c, ⟨rfl, trivial⟩, ?_⟩ | refine ⟨.vie 852 a' _ c', ⟨rfl, trivial⟩, ?_⟩ | refine ⟨_, ⟨rfl, trivial⟩, ?_⟩ | refine stop_and ?_ ?_ | (refine bcase_prop (fun h => ?_) (fun h => ?_) <;> try (exfalso; omega)) | (refine bcase_nprop (fun h => ?_) (fun h => ?_) <;> try (exfalso; omega)) | (refine bcase_intro (fun h => ?_) (fun h => ?_) <;> (try simp only [Bool.not_eq_true', Bool.not_eq_false', decide_eq_true_eq, decide_eq_false_iff_not, Bool.not_eq_true, Bool.not_eq_false, Decidable.not_not] at h)) | refine And.intro (by first | omega | exact rfl | assumption | exact ⟨rfl, rfl, rfl, rfl, rfl⟩ | exact ⟨rfl, rfl, rfl, rfl⟩ | exact ⟨rfl, by omega⟩ | exact oneAll_of rfl | exact ⟨rfl, oneAll_of rfl⟩ | exact Ref.refl _ | exact Thin.ref (.skip (Thin.refl _)) | exact Thin.ref (.skip (.skip (Thin.refl _))) | exact hne | exact hne' | exact ⟨rfl, rfl, rfl, rfl, by omega, by omega⟩ | exact fun _ => Ref.refl _ | exact fun _ => Thin.ref (by (repeat (first | exact Thin.nil _ | exact Thin.refl _ | refine Thin.keep rfl (fun _ h => h) ?_ | refine Thin.skip ?_))) | exact Thin.ref (by (repeat (first | exact Thin.nil _ | exact Thin.refl _ | refine Thin.keep rfl (fun _ h => h) ?_ | refine Thin.skip ?_))) | exact ⟨rfl, Nat.le_of_ble_eq_true rfl⟩ | ((try unfold maxLen); (try simp only [List.length_nil, List.length_cons, List.length_append]); omega) | (refine ⟨rfl, ?_⟩; (try simp only [List.length_nil, List.length_cons, List.length_append]); omega)) ?_ | intro _)); (all_goals (conv => whnf))
      all_goals first | (exfalso; omega) | skip
      refine ⟨⟨_, Ref.takes [78, 77, 3000] rfl (Thin.refl _), .inr ⟨S1, _, _, _, h2, h3, hfull, h5.terms fun m hm => ?_, ?_, hno, rfl, rfl⟩⟩⟩
      · rw [← h7]; exact List.mem_append_left _ hm
      · rw [← h7, asm, Int.toNat_natCast, t1, t2]
        simp
    rw [e] at c1
    have hg := hM.grow
    (repeat' ((conv => whnf); first | rw [Int.toNat_natCast] | rw [eq1] | rw [Nat.mul_one] | refine ldCell r0 ?_ | refine ldCell k1 ?_ | refine ldCell k2 ?_ | refine ⟨_, rA rfl, oA, ?_⟩ | refine ⟨_, rB rfl, oB, ?_⟩ | rw [sA] | rw [sB] | rw [hml] | (refine CallK_pack (key := 77) rfl (fun w hR h0 => c1 _ _ _ h0) ?_; rintro _ _ ⟨rfl, fp', rfl⟩; refine ⟨.v _, rfl, ?_⟩) | refine ⟨.sl 851 _ _ _, ⟨rfl, rfl, rfl, rfl⟩, ?_⟩ | refine ⟨.sl 852 _ _ _, ⟨rfl, rfl, rfl, rfl⟩, ?_⟩ | refine ⟨.vie 851 a _ c, ⟨rfl, trivial⟩, ?_⟩ | refine ⟨.vie 852 a' _ c', ⟨rfl, trivial⟩, ?_⟩ | refine ⟨_, ⟨rfl, trivial⟩, ?_⟩ | refine stop_and ?_ ?_ | (refine bcase_prop (fun h => ?_) (fun h => ?_) <;> try (exfalso; omega)) | (refine bcase_nprop (fun h => ?_) (fun h => ?_) <;> try (exfalso; omega)) | (refine bcase_intro (fun h => ?_) (fun h => ?_) <;> (try simp only [Bool.not_eq_true', Bool.not_eq_false', decide_eq_true_eq, decide_eq_false_iff_not, Bool.not_eq_true, Bool.not_eq_false, Decidable.not_not] at h)) | refine And.intro (by first | omega | exact rfl | assumption | exact ⟨rfl, rfl, rfl, rfl, rfl⟩ | exact ⟨rfl, rfl, rfl, rfl⟩ | exact ⟨rfl, by omega⟩ | exact oneAll_of rfl | exact ⟨rfl, oneAll_of rfl⟩ | exact Ref.refl _ | exact Thin.ref (.skip (Thin.refl _)) | exact Thin.ref (.skip (.skip (Thin.refl _))) | exact hne | exact hne' | exact ⟨rfl, rfl, rfl, rfl, by omega, by omega⟩ | exact fun _ => Ref.refl _ | exact fun _ => Thin.ref (by (repeat (first | exact Thin.nil _ | exact Thin.refl _ | refine Thin.keep rfl (fun _ h => h) ?_ | refine Thin.skip ?_))) | exact Thin.ref (by (repeat (first | exact Thin.nil _ | exact Thin.refl _ | refine Thin.keep rfl (fun _ h => h) ?_ | refine Thin.skip ?_))) | exact ⟨rfl, Nat.le_of_ble_eq_true rfl⟩ | ((try unfold maxLen); (try simp only [List.length_nil, List.length_cons, List.length_append]); omega) | (refine ⟨rfl, ?_⟩; (try simp only [List.length_nil, List.length_cons, List.length_append]); omega)) ?_ | intro _)); (all_goals (conv => whnf))
    have hXl : (out' ++ ids.drop out'.length).length = ids.length := len_mid rfl (by omega)
    have hYl : (kys S1 out' ++ (kys S ids).drop out'.length).length = ids.length := by rw [len_mid (kys_len _ _) (by omega), hkl]
    have hn' : (out' ++ [x]).length = out'.length + 1 := by simp
    have eX := set_mid (X := out') (Y := ids) (v := x) rfl (by omega)
    have eY := set_mid (X := kys S1 out') (Y := kys S ids) (i := out'.length) (v := ((tm S2.E x).key : Int)) (kys_len _ _) (by omega)
    have hkf : kys S2 (out' ++ [x]) = kys S1 out' ++ [((tm S2.E x).key : Int)] := by rw [kys_append, kys_grow hsq' hg]; simp [kys]
    refine CallK_growT rfl hg ?_
    refine CallK_sub [78, 77, 3000, 861, 851, 852] rfl (fun w hR h0 => calls_addV bp bt bs b8 S2 hM.wf (out' ++ ids.drop out'.length) (kys S1 out' ++ (kys S ids).drop out'.length) ids.length hXl hYl (by omega) out'.length (by omega) x ⟨hM.pos, hM.le⟩ a a' c c' _ _ _ w h0 (hG.castL hR)) ?_
    rintro _ _ ⟨e1, e2, rfl, rfl⟩
    refine ⟨.v _, rfl, ?_⟩
    (repeat' ((conv => whnf); first | refine ⟨_, ⟨rfl, trivial⟩, ?_⟩  | (refine bcase_prop (fun h => ?_) (fun h => ?_) <;> try (exfalso; omega)) | (refine bcase_nprop (fun h => ?_) (fun h => ?_) <;> try (exfalso; omega)) | (refine bcase_intro (fun h => ?_) (fun h => ?_) <;> (try simp only [Bool.not_eq_true', Bool.not_eq_false', decide_eq_true_eq, decide_eq_false_iff_not, Bool.not_eq_true, Bool.not_eq_false, Decidable.not_not] at h)) | refine And.intro (by first | omega | exact rfl | assumption | exact ⟨rfl, rfl, rfl, rfl, rfl⟩ | exact ⟨rfl, rfl, rfl, rfl⟩ | exact ⟨rfl, by omega⟩ | exact oneAll_of rfl | exact ⟨rfl, oneAll_of rfl⟩ | exact Ref.refl _ | exact Thin.ref (.skip (Thin.refl _)) | exact Thin.ref (.skip (.skip (Thin.refl _))) | exact ⟨rfl, Nat.le_of_ble_eq_true rfl⟩ | ((try unfold maxLen); (try simp only [List.length_nil, List.length_cons, List.length_append]); omega) | (refine ⟨rfl, ?_⟩; (try simp only [List.length_nil, List.length_cons, List.length_append]); omega)) ?_ | intro _)); (all_goals (conv => whnf))
    refine loop_next ⟨i + 1, q + 2, S2, out' ++ [x], e1, e2⟩ ⟨by rw [hPP]; exact hlt, hM.wf, h3.trans hg, (hsq'.grow hg).snoc ⟨hM.pos, hM.le⟩, ?_, ?_, ?_, ?_, ?_⟩ ?_ (by (repeat ((conv => whnf); refine And.intro (by first | exact rfl | exact vint_eq (by omega) | exact vint_eq (by (dsimp only; omega)) | exact vsl_eq (by omega) | exact vsl_eq (by first | (dsimp only; omega) | (simp; done) | (simp; omega))) ?_)); exact trivial) (Ref.takes [78, 77, 3000, 861, 851, 852, 4, 6, 900] rfl (.keep rfl (fun _ h => h) (.keep rfl (fun _ h => h) (.keep rfl (fun _ h => h) (.box ?_ (.own rfl ?_ (.own rfl ?_ (Thin.refl _))))))))
    · rw [hout]; exact (h5.more _).made hM
    · rw [hPP]
      have e : ((q + 2 : Nat) : Int) = (q : Int) + 2 := by omega
      dsimp only
      rw [e]; exact hgp
    · rw [hPP]
      dsimp only
      rw [← h7, tms_append, tms_grow hsq' hg, hout, tms_append, htt, asm, Int.toNat_natCast, t1, t2, ← z1, ← z2]
      simp [tms, hM.tm]
    · dsimp only
      omega
    · have := hM.len
      dsimp only
      omega
    · dsimp only; omega
    · rw [hn']
    · dsimp only
      rw [eX, hn']
    · dsimp only
      rw [eY, hkf, hn']
  · have hdr : ps.drop i = [] := List.drop_eq_nil_of_le (by omega)
    rw [hdr, asm] at h7
    have hsl : ((ids.drop at_).take (ids.length - at_)).length = ids.length - at_ := by simp
    have hslk : (((kys S ids).drop at_).take (ids.length - at_)).length = ids.length - at_ := by simp [hkl]
    have hfull : (ids.drop at_).take (ids.length - at_) = ids.drop at_ := List.take_of_length_le (by simp)
    have hsq : Seq S (ids.drop at_) := hs.drop _
    have hkk : kys S1 ((ids.drop at_).take (ids.length - at_)) = ((kys S ids).drop at_).take (ids.length - at_) := by
      rw [hfull, kys_grow hsq h3, List.take_of_length_le (by simp [hkl])]; simp [kys, List.map_drop]
    have htt : tms S1 ((ids.drop at_).take (ids.length - at_)) = (tms S ids).drop at_ := by
      rw [hfull, tms_grow hsq h3]; simp [tms, List.map_drop]
    obtain ⟨out', hout⟩ : ∃ o, o = out ++ (ids.drop at_).take (ids.length - at_) := ⟨_, rfl⟩
    have ho1 : out'.length = out.length + (ids.length - at_) := by rw [hout, List.length_append, hsl]
    have hsq' : Seq S1 out' := by rw [hout, hfull]; exact h4.append (hsq.grow h3)
    have sA := splice_mid (k := .i64) (X := out) (Z := ids) (Y := (ids.drop at_).take (ids.length - at_)) (m := out.length) rfl
    have sB := splice_mid (k := .u64) (X := kys S1 out) (Z := kys S ids) (Y := ((kys S ids).drop at_).take (ids.length - at_)) (m := out.length) hKl
    rw [hsl, ← hout, ← ho1] at sA
    have hk' : kys S1 out' = kys S1 out ++ ((kys S ids).drop at_).take (ids.length - at_) := by rw [hout, kys_append, hkk]
    rw [hslk, ← hk', ← ho1] at sB
    have pA := ints_part (k := .i64) (X := out) (Z := ids) (m := out.length) (l := at_) (q := ids.length - at_) rfl h8
    have pB := ints_part (k := .u64) (X := kys S1 out) (Z := kys S ids) (m := out.length) (l := at_) (q := ids.length - at_) hKl h8
    have lA : (ints .i64 (out ++ ids.drop out.length)).length = ids.length := by rw [ints_length, len_mid rfl hm0]
    have lB : (ints .u64 (kys S1 out ++ (kys S ids).drop out.length)).length = ids.length := by rw [ints_length, len_mid hKl (by omega), hkl]
    have rA := fun {L : List Ent} {T : Nat} (h : ownAt 851 L = some ⟨a, ids.length, c, T, 1, ints .i64 (out ++ ids.drop out.length)⟩) => rdsSub (w0 := w) (fp0 := fp) 851 h (l := at_) (m := ids.length - at_) (by rw [lA]; omega)
    have rB := fun {L : List Ent} {T : Nat} (h : ownAt 852 L = some ⟨a', ids.length, c', T, 1, ints .u64 (kys S1 out ++ (kys S ids).drop out.length)⟩) => rdsSub (w0 := w) (fp0 := fp) 852 h (l := at_) (m := ids.length - at_) (by rw [lB]; omega)
    rw [pA, Nat.mul_one] at rA
    rw [pB, Nat.mul_one] at rB
    have oA := oneAllI (k := .i64) ((ids.drop at_).take (ids.length - at_))
    have oB := oneAllI (k := .u64) (((kys S ids).drop at_).take (ids.length - at_))
    have hml : out.length + (ids.length - at_) = out'.length := ho1.symm
    (repeat' ((conv => whnf); first | rw [Int.toNat_natCast] | rw [Nat.mul_one] | refine ⟨_, rA rfl, oA, ?_⟩ | refine ⟨_, rB rfl, oB, ?_⟩ | rw [sA] | rw [sB] | rw [hml] | refine ⟨.sl 851 _ _ _, ⟨rfl, rfl, rfl, rfl⟩, ?_⟩ | refine ⟨.sl 852 _ _ _, ⟨rfl, rfl, rfl, rfl⟩, ?_⟩ | refine ⟨.vie 851 a _ c, ⟨rfl, trivial⟩, ?_⟩ | refine ⟨.vie 852 a' _ c', ⟨rfl, trivial⟩, ?_⟩ | refine ⟨_, ⟨rfl, trivial⟩, ?_⟩ | refine stop_and ?_ ?_ | (refine bcase_prop (fun h => ?_) (fun h => ?_) <;> try (exfalso; omega)) | (refine bcase_nprop (fun h => ?_) (fun h => ?_) <;> try (exfalso; omega)) | (refine bcase_intro (fun h => ?_) (fun h => ?_) <;> (try simp only [Bool.not_eq_true', Bool.not_eq_false', decide_eq_true_eq, decide_eq_false_iff_not, Bool.not_eq_true, Bool.not_eq_false, Decidable.not_not] at h)) | refine And.intro (by first | omega | exact rfl | assumption | exact ⟨rfl, rfl, rfl, rfl, rfl⟩ | exact ⟨rfl, rfl, rfl, rfl⟩ | exact ⟨rfl, by omega⟩ | exact oneAll_of rfl | exact ⟨rfl, oneAll_of rfl⟩ | exact Ref.refl _ | exact Thin.ref (.skip (Thin.refl _)) | exact Thin.ref (.skip (.skip (Thin.refl _))) | exact hne | exact hne' | exact ⟨rfl, rfl, rfl, rfl, by omega, by omega⟩ | exact fun _ => Ref.refl _ | exact fun _ => Thin.ref (by (repeat (first | exact Thin.nil _ | exact Thin.refl _ | refine Thin.keep rfl (fun _ h => h) ?_ | refine Thin.skip ?_))) | exact Thin.ref (by (repeat (first | exact Thin.nil _ | exact Thin.refl _ | refine Thin.keep rfl (fun _ h => h) ?_ | refine Thin.skip ?_))) | exact ⟨rfl, Nat.le_of_ble_eq_true rfl⟩ | ((try unfold maxLen); (try simp only [List.length_nil, List.length_cons, List.length_append]); omega) | (refine ⟨rfl, ?_⟩; (try simp only [List.length_nil, List.length_cons, List.length_append]); omega)) ?_ | intro _)); (all_goals (conv => whnf))
    all_goals first | (exfalso; omega) | skip
    have hrow : Row S S1 out' (pairT (tms S ids) l) := ⟨h2, h3, hsq', by rw [hout, tms_append, htt]; exact h7, by rw [hout]; exact h5.more _⟩
    refine ⟨⟨_, Ref.takes [78, 77, 3000, 851, 852] rfl (.keep rfl (fun _ h => h) (.keep rfl (fun _ h => h) (.keep rfl (fun _ h => h) (.cut (m := out'.length) (by omega) ?_ (.cut (m := out'.length) (by omega) ?_ (.nil _)))))), Or.inl ⟨S1, out', a, a', c, c', g1, g2, hrow, by omega, rfl, rfl⟩⟩⟩
    · rw [Nat.mul_one, ints, ← List.map_take, List.take_left]; rfl
    · rw [Nat.mul_one, ints, ← List.map_take, show out'.length = (kys S1 out').length from (kys_len _ _).symm, List.take_left]; rfl
--OF
theorem seqT_prev (t : List Nat) {n : Nat} (h : 1 ≤ n) : seqT t n = stepT n (seqT t (n - 1)) := by
  obtain ⟨m, rfl⟩ : ∃ m, n = m + 1 := ⟨n - 1, by omega⟩
  rfl
theorem calls_OfF (bp bt bs : Nat) (S0 : Sto) (hw : WF S0) (t : List Nat) (hb : ∀ x ∈ t, x < 256) (hpos : 0 < t.length) (hl : t.length ≤ 1000) (at_ : Option Addr) (ct : Nat) (f1 f2 fp : List Nat) (w : World)
    (hR : R w fp (fP bp bt bs S0 f1 f2) w) (hG : TabF w fp) (hin : In w fp at_ (bytesV t)) :
    Calls Tryd.prog fn_P_signature_Parser_Of #[pS bp, .slice at_ t.length ct] w fun e w' => ∃ v L1, e = .returned v ∧ R w fp L1 w' ∧ (ofQ bp bt bs S0 t v L1 ∨ ofFl bp bt bs S0 t v L1) := by
  refine part_call [.ptr 3000 bp 0, .v (.slice at_ t.length ct)] ok_P_signature_Parser_Of (by simp) hR ?_
  have c1 := fun f1 f2 fp w hR hG hin => calls_lettersF bp bt bs S0 hw t hb (by omega) at_ ct f1 f2 fp w hR hG hin
  (repeat' ((conv => whnf); first | refine ⟨_, ⟨rfl, trivial⟩, ?_⟩ | (refine CallK_sub [78, 77, 3000] rfl (fun w hR h0 => c1 _ _ _ w h0 (hG.castL hR) (hin.castL hR)) ?_; rintro _ _ (⟨S, ids, a, a', c, c', g1, g2, hrow, hlen, rfl, rfl⟩ | ⟨S, g1, g2, m, f1', f2', f3', f4', f5', f6', rfl, rfl⟩) <;> refine ⟨.v _, rfl, ?_⟩) | (refine bcase_prop (fun h => ?_) (fun h => ?_) <;> try (exfalso; omega)) | (refine bcase_nprop (fun h => ?_) (fun h => ?_) <;> try (exfalso; omega)) | (refine bcase_intro (fun h => ?_) (fun h => ?_) <;> (try simp only [Bool.not_eq_true', Bool.not_eq_false', decide_eq_true_eq, decide_eq_false_iff_not, Bool.not_eq_true, Bool.not_eq_false, Decidable.not_not] at h)) | refine And.intro (by first | omega | exact rfl | assumption | exact ⟨rfl, rfl, rfl, rfl, rfl⟩ | exact ⟨rfl, rfl, rfl, rfl⟩ | exact ⟨rfl, by omega⟩ | exact oneAll_of rfl | exact ⟨rfl, oneAll_of rfl⟩ | exact Ref.refl _ | exact Thin.ref (.skip (Thin.refl _)) | exact Thin.ref (.skip (.skip (Thin.refl _))) | exact ⟨rfl, Nat.le_of_ble_eq_true rfl⟩ | ((try unfold maxLen); (try simp only [List.length_nil, List.length_cons, List.length_append]); omega) | (refine ⟨rfl, ?_⟩; (try simp only [List.length_nil, List.length_cons, List.length_append]); omega)) ?_ | intro _)); (all_goals (conv => whnf))
  all_goals first | (exfalso; omega) | skip
  all_goals try exact ⟨⟨_, Ref.takes [78, 77, 3000] rfl (Thin.refl _), Or.inr ⟨S, _, _, 0, m, f1', f2', f3', (Out.refl S0 t).nextT (k := 0) f2' f4', f5', f6', rfl, rfl⟩⟩⟩
  rename_i b6
  have hids : ids.length = t.length := by
    have := congrArg List.length hrow.tms
    simpa [tms] using this
  have hout0 : Out S0 S t := (Out.refl S0 t).next hrow.grow hrow.news (k := 0) hrow.tms
  have h0 : ∃ to, OfI S0 t (S0.E.length + 2 * t.length) ⟨1, S, ids, a, a', c, c', g1, g2, to⟩ := by
    by_cases h2 : 2 ≤ ids.length
    · obtain ⟨T, k1, k2, k3⟩ := soonT (ts := seqT t 0) (by rw [seqT, List.length_map]; omega) 1 (Nat.le_refl _)
      exact ⟨T, hrow.wf, hrow.grow, hrow.seq, hrow.tms, ⟨Nat.le_refl _, k1⟩, hlen, fun j hj => absurd hj (by simp), by dsimp only; omega, k2, fun _ => k3, hout0⟩
    · exact ⟨1, hrow.wf, hrow.grow, hrow.seq, hrow.tms, ⟨Nat.le_refl _, Nat.le_refl _⟩, hlen, fun j hj => absurd hj (by simp), by dsimp only; omega, by dsimp only; omega, fun h => absurd h h2, hout0⟩
  obtain ⟨to, h0⟩ := h0
  refine VC_loop OfG (fun x => [(0, .ptr 3000 bp 0), (6, .ptr 6 b6 0), (8, .v (.int .i64 x.lev))]) (fun x => ofL bp bt bs b6 x.S x.ids x.a x.a' x.c x.c' x.f1 x.f2) (OfI S0 t (S0.E.length + 2 * t.length)) (fun x => x.ids.length * 1000 + (x.to - x.lev)) ⟨1, S, ids, a, a', c, c', g1, g2, to⟩ h0 (by (repeat ((conv => whnf); refine And.intro (by first | exact rfl | exact vint_eq (by omega) | exact vint_eq (by (dsimp only; omega)) | exact vsl_eq (by omega) | exact vsl_eq (by first | (dsimp only; omega) | (simp; done) | (simp; omega))) ?_)); exact trivial) (Ref.takes [78, 77, 3000, 6, 851, 852] rfl (Thin.refl _)) ?_
  clear h0 hrow hlen hids
  rintro ⟨lev, S, ids, a, a', c, c', g1, g2, to⟩ hI
  have hnx := fun (S2 : Sto) (ids2 : List Int) h => OfI.next (S2 := S2) (ids2 := ids2) hI h
  have htt := hI.tms
  have hll := hI.len
  have hps := seqT_pos hpos (lev - 1)
  have hsl := hI.pos
  have hto := hI.to_
  have hmm := hI.most
  have hgr := hI.grow.most
  have htx : (txtOf (tms S ids)).length ≤ 65536 := by rw [htt, seqT_txt]; omega
  dsimp only at hnx htt hll hps hsl hto hmm hgr ⊢
  by_cases h2 : 2 ≤ ids.length
  · by_cases hodd : lev % 2 = 1
    · have hst : stepT lev (seqT t (lev - 1)) = runT (tms S ids) := by rw [stepT, if_pos hodd, htt]
      have hsq : seqT t lev = runT (tms S ids) := (seqT_prev t (by omega)).trans hst
      have hout2 : ∀ S2, Grow S S2 → NewT S S2 (runT (tms S ids)) → Out S0 S2 t := fun S2 hg hn => hI.out.nextT hg (k := lev) (by rw [hsq]; exact hn)
      have hm2 : ∀ m, m ∈ runT (tms S ids) → m ∈ seqT t lev := by rw [hsq]; exact fun _ h => h
      rw [hst] at hnx
      (repeat' ((conv => whnf); first | refine ⟨_, ⟨rfl, trivial⟩, ?_⟩ | (refine CallK_sub [78, 77, 3000, 851, 852] rfl (fun w hR h0 => calls_runsF bp bt bs S hI.wf ids hI.seq (by omega) (by omega) htx (S0.E.length + 2 * t.length) hmm a a' c c' _ _ _ w h0 (hG.castL hR)) ?_; rintro _ _ (⟨S2, ids2, b1, b2, d1, d2, k1, k2, hrow, hlen, rfl, rfl⟩ | ⟨S2, k1, k2, m, f1', f2', f3', f4', f5', f6', rfl, rfl⟩) <;> refine ⟨.v _, rfl, ?_⟩) | (refine bcase_prop (fun h => ?_) (fun h => ?_) <;> try (exfalso; omega)) | (refine bcase_nprop (fun h => ?_) (fun h => ?_) <;> try (exfalso; omega)) | (refine bcase_intro (fun h => ?_) (fun h => ?_) <;> (try simp only [Bool.not_eq_true', Bool.not_eq_false', decide_eq_true_eq, decide_eq_false_iff_not, Bool.not_eq_true, Bool.not_eq_false, Decidable.not_not] at h)) | refine And.intro (by first | omega | exact rfl | assumption | exact ⟨rfl, rfl, rfl, rfl, rfl⟩ | exact ⟨rfl, rfl, rfl, rfl⟩ | exact ⟨rfl, by omega⟩ | exact oneAll_of rfl | exact ⟨rfl, oneAll_of rfl⟩ | exact Ref.refl _ | exact Thin.ref (.skip (Thin.refl _)) | exact Thin.ref (.skip (.skip (Thin.refl _))) | exact ⟨rfl, Nat.le_of_ble_eq_true rfl⟩ | ((try unfold maxLen); (try simp only [List.length_nil, List.length_cons, List.length_append]); omega) | (refine ⟨rfl, ?_⟩; (try simp only [List.length_nil, List.length_cons, List.length_append]); omega)) ?_ | intro _)); (all_goals (conv => whnf))
      all_goals first | (exfalso; omega) | skip
      all_goals try exact ⟨⟨_, Ref.takes [78, 77, 3000] rfl (Thin.refl _), Or.inr ⟨S2, _, _, lev, m, f1', hI.grow.trans f2', f3', hout2 _ f2' f4', hm2 _ f5', f6', rfl, rfl⟩⟩⟩
      obtain ⟨to2, hn⟩ := hnx S2 ids2 h2 hrow hlen
      exact loop_next ⟨lev + 1, S2, ids2, b1, b2, d1, d2, k1, k2, to2⟩ (hn _ _ _ _ _ _).1 (hn b1 b2 d1 d2 k1 k2).2 (by (repeat ((conv => whnf); refine And.intro (by first | exact rfl | exact vint_eq (by omega) | exact vint_eq (by (dsimp only; omega)) | exact vsl_eq (by omega) | exact vsl_eq (by first | (dsimp only; omega) | (simp; done) | (simp; omega))) ?_)); exact trivial) (Ref.takes [78, 77, 3000, 6, 851, 852] rfl (Thin.refl _))
    · have hst : stepT lev (seqT t (lev - 1)) = pairT (tms S ids) lev := by rw [stepT, if_neg hodd, htt]
      have hsq : seqT t lev = pairT (tms S ids) lev := (seqT_prev t (by omega)).trans hst
      have hout2 : ∀ S2, Grow S S2 → NewT S S2 (pairT (tms S ids) lev) → Out S0 S2 t := fun S2 hg hn => hI.out.nextT hg (k := lev) (by rw [hsq]; exact hn)
      have hm2 : ∀ m, m ∈ pairT (tms S ids) lev → m ∈ seqT t lev := by rw [hsq]; exact fun _ h => h
      rw [hst] at hnx
      (repeat' ((conv => whnf); first | refine ⟨_, ⟨rfl, trivial⟩, ?_⟩ | (refine CallK_sub [78, 77, 3000, 851, 852] rfl (fun w hR h0 => calls_pairsF bp bt bs S hI.wf ids hI.seq (by omega) (by omega) htx lev (by omega) (S0.E.length + 2 * t.length) hmm a a' c c' _ _ _ w h0 (hG.castL hR)) ?_; rintro _ _ (⟨S2, ids2, b1, b2, d1, d2, k1, k2, hrow, hlen, rfl, rfl⟩ | ⟨S2, k1, k2, m, f1', f2', f3', f4', f5', f6', rfl, rfl⟩) <;> refine ⟨.v _, rfl, ?_⟩) | (refine bcase_prop (fun h => ?_) (fun h => ?_) <;> try (exfalso; omega)) | (refine bcase_nprop (fun h => ?_) (fun h => ?_) <;> try (exfalso; omega)) | (refine bcase_intro (fun h => ?_) (fun h => ?_) <;> (try simp only [Bool.not_eq_true', Bool.not_eq_false', decide_eq_true_eq, decide_eq_false_iff_not, Bool.not_eq_true, Bool.not_eq_false, Decidable.not_not] at h)) | refine And.intro (by first | omega | exact rfl | assumption | exact ⟨rfl, rfl, rfl, rfl, rfl⟩ | exact ⟨rfl, rfl, rfl, rfl⟩ | exact ⟨rfl, by omega⟩ | exact oneAll_of rfl | exact ⟨rfl, oneAll_of rfl⟩ | exact Ref.refl _ | exact Thin.ref (.skip (Thin.refl _)) | exact Thin.ref (.skip (.skip (Thin.refl _))) | exact ⟨rfl, Nat.le_of_ble_eq_true rfl⟩ | ((try unfold maxLen); (try simp only [List.length_nil, List.length_cons, List.length_append]); omega) | (refine ⟨rfl, ?_⟩; (try simp only [List.length_nil, List.length_cons, List.length_append]); omega)) ?_ | intro _)); (all_goals (conv => whnf))
      all_goals first | (exfalso; omega) | skip
      all_goals try exact ⟨⟨_, Ref.takes [78, 77, 3000] rfl (Thin.refl _), Or.inr ⟨S2, _, _, lev, m, f1', hI.grow.trans f2', f3', hout2 _ f2' f4', hm2 _ f5', f6', rfl, rfl⟩⟩⟩
      obtain ⟨to2, hn⟩ := hnx S2 ids2 h2 hrow hlen
      exact loop_next ⟨lev + 1, S2, ids2, b1, b2, d1, d2, k1, k2, to2⟩ (hn _ _ _ _ _ _).1 (hn b1 b2 d1 d2 k1 k2).2 (by (repeat ((conv => whnf); refine And.intro (by first | exact rfl | exact vint_eq (by omega) | exact vint_eq (by (dsimp only; omega)) | exact vsl_eq (by omega) | exact vsl_eq (by first | (dsimp only; omega) | (simp; done) | (simp; omega))) ?_)); exact trivial) (Ref.takes [78, 77, 3000, 6, 851, 852] rfl (Thin.refl _))
  · have h1 : ids.length = 1 := by omega
    obtain ⟨x, rfl⟩ := List.length_eq_one_iff.1 h1
    have r1 : (ints .i64 [x])[0]? = some (.int .i64 x) := rfl
    (repeat' ((conv => whnf); first | refine ldCell r1 ?_ | refine ⟨.sl 851 _ _ _, ⟨rfl, rfl, rfl, rfl⟩, ?_⟩ | refine ⟨_, ⟨rfl, trivial⟩, ?_⟩ | (refine bcase_prop (fun h => ?_) (fun h => ?_) <;> try (exfalso; omega)) | (refine bcase_nprop (fun h => ?_) (fun h => ?_) <;> try (exfalso; omega)) | (refine bcase_intro (fun h => ?_) (fun h => ?_) <;> (try simp only [Bool.not_eq_true', Bool.not_eq_false', decide_eq_true_eq, decide_eq_false_iff_not, Bool.not_eq_true, Bool.not_eq_false, Decidable.not_not] at h)) | refine And.intro (by first | omega | exact rfl | assumption | exact ⟨rfl, rfl, rfl, rfl, rfl⟩ | exact ⟨rfl, rfl, rfl, rfl⟩ | exact ⟨rfl, by omega⟩ | exact oneAll_of rfl | exact ⟨rfl, oneAll_of rfl⟩ | exact Ref.refl _ | exact Thin.ref (.skip (Thin.refl _)) | exact Thin.ref (.skip (.skip (Thin.refl _))) | exact ⟨rfl, Nat.le_of_ble_eq_true rfl⟩ | ((try unfold maxLen); (try simp only [List.length_nil, List.length_cons, List.length_append]); omega) | (refine ⟨rfl, ?_⟩; (try simp only [List.length_nil, List.length_cons, List.length_append]); omega)) ?_ | intro _)); (all_goals (conv => whnf))
    all_goals first | (exfalso; omega) | skip
    exact ⟨⟨_, Ref.takes [78, 77, 3000] rfl (Thin.refl _), Or.inl ⟨S, x, g1, g2, hI.wf, hI.grow, hI.seq x (by simp), ⟨lev - 1, htt.symm, hI.past⟩, by simp only [List.length_cons, List.length_nil] at hmm; omega, hI.out, rfl, rfl⟩⟩⟩
end Go.Proofs.YtkkhpdkfploodaaDoor
/- Signatures in a store that may become full: the program. -/
namespace Go.Proofs.YtkkhpdkfploodaaDoor
open Go.EG
attribute [local irreducible] CallK QCall Go.Calls
set_option linter.unusedSimpArgs false
set_option linter.unusedVariables false
set_option maxRecDepth 20000
set_option maxHeartbeats 4000000

/-- A part of what is there is there. -/
theorem Sub.there {S : Sto} (hw : WF S) {m m' : Tm} (h : Sub m m') : ∀ {z : Int}, 1 ≤ z → z ≤ S.E.length → tm S.E z = m' → ∃ y : Int, (1 ≤ y ∧ y ≤ S.E.length) ∧ tm S.E y = m := by
  induction h with
  | refl => intro z h1 h2 e; exact ⟨z, ⟨h1, h2⟩, e⟩
  | @left a b _ ih =>
    intro z h1 h2 e
    obtain ⟨hr, _, ht, _⟩ := hw.at_ h1 h2
    rw [e] at ht
    unfold mkT at ht
    rcases hr with ⟨k1, _⟩ | ⟨k1, _, _, k4, k5, k6, k7⟩ | ⟨k1, _⟩
    · rw [if_pos k1] at ht; cases ht
    · rw [if_neg (by omega), if_pos k1] at ht
      injection ht with ha hb
      exact ih k4 (by omega) ha.symm
    · rw [if_neg (by omega), if_neg (by omega)] at ht; cases ht
  | @right a b _ ih =>
    intro z h1 h2 e
    obtain ⟨hr, _, ht, _⟩ := hw.at_ h1 h2
    rw [e] at ht
    unfold mkT at ht
    rcases hr with ⟨k1, _⟩ | ⟨k1, _, _, k4, k5, k6, k7⟩ | ⟨k1, _⟩
    · rw [if_pos k1] at ht; cases ht
    · rw [if_neg (by omega), if_pos k1] at ht
      injection ht with ha hb
      exact ih k6 (by omega) hb.symm
    · rw [if_neg (by omega), if_neg (by omega)] at ht; cases ht
  | @pow a k _ ih =>
    intro z h1 h2 e
    obtain ⟨hr, _, ht, _⟩ := hw.at_ h1 h2
    rw [e] at ht
    unfold mkT at ht
    rcases hr with ⟨k1, _⟩ | ⟨k1, _⟩ | ⟨k1, _, _, _, k5, k6⟩
    · rw [if_pos k1] at ht; cases ht
    · rw [if_neg (by omega), if_pos k1] at ht; cases ht
    · rw [if_neg (by omega), if_neg (by omega)] at ht
      injection ht with ha hb
      exact ih k5 (by omega) ha.symm
theorem there_list {A B : Sto} (hA : WF A) (h : ∀ y : Int, 1 ≤ y → y ≤ A.E.length → ∃ z : Int, (1 ≤ z ∧ z ≤ B.E.length) ∧ tm B.E z = tm A.E y) : ∀ n : Nat, n ≤ A.E.length → ∃ L : List Int, L.length = n ∧ (∀ z ∈ L, (1 ≤ z ∧ z ≤ B.E.length) ∧ ∃ y : Int, 1 ≤ y ∧ y ≤ n ∧ tm B.E z = tm A.E y) ∧ L.Nodup
  | 0, _ => ⟨[], rfl, by simp, .nil⟩
  | n + 1, hn => by
    obtain ⟨L, h1, h2, h3⟩ := there_list hA h n (by omega)
    obtain ⟨z, hz, ez⟩ := h ((n + 1 : Nat) : Int) (by omega) (by omega)
    refine ⟨z :: L, by simp [h1], fun x hx => ?_, List.nodup_cons.2 ⟨fun hm => ?_, h3⟩⟩
    · rcases List.mem_cons.1 hx with rfl | hx
      · exact ⟨hz, _, by omega, Int.le_refl _, ez⟩
      · obtain ⟨q1, y, q2, q3, q4⟩ := h2 x hx
        exact ⟨q1, y, q2, by omega, q4⟩
    · obtain ⟨_, y, q2, q3, q4⟩ := h2 z hm
      have := (hA.inj_iff (i := y) (j := ((n + 1 : Nat) : Int)) q2 (by omega) (by omega) (by omega)).1 (q4.symm.trans ez)
      omega
theorem card_le {A B : Sto} (hA : WF A) (h : ∀ y : Int, 1 ≤ y → y ≤ A.E.length → ∃ z : Int, (1 ≤ z ∧ z ≤ B.E.length) ∧ tm B.E z = tm A.E y) : A.E.length ≤ B.E.length := by
  obtain ⟨L, h1, h2, h3⟩ := there_list hA h A.E.length (Nat.le_refl _)
  have := nodup_len h3 fun x hx => (h2 x hx).1
  omega
theorem card_lt {A B : Sto} (hA : WF A) (h : ∀ y : Int, 1 ≤ y → y ≤ A.E.length → ∃ z : Int, (1 ≤ z ∧ z ≤ B.E.length) ∧ tm B.E z = tm A.E y) {m : Tm} (hm : ∃ z : Int, (1 ≤ z ∧ z ≤ B.E.length) ∧ tm B.E z = m) (hno : ∀ y : Int, 1 ≤ y → y ≤ A.E.length → tm A.E y ≠ m) : A.E.length < B.E.length := by
  obtain ⟨L, h1, h2, h3⟩ := there_list hA h A.E.length (Nat.le_refl _)
  obtain ⟨z, hz, ez⟩ := hm
  have := nodup_len (n := B.E.length) (L := z :: L) (List.nodup_cons.2 ⟨fun hzm => ?_, h3⟩) fun x hx => ?_
  · rw [List.length_cons] at this; omega
  · obtain ⟨_, y, q2, q3, q4⟩ := h2 z hzm
    exact hno y q2 q3 (q4.symm.trans ez)
  · rcases List.mem_cons.1 hx with rfl | hx
    · exact hz
    · exact (h2 x hx).1
/-- What is in a sequence of a text is there where the text's signature is. -/
theorem seq_there {t : List Nat} {B : Sto} (hB : WF B) {x : Int} (h1 : 1 ≤ x) (h2 : x ≤ B.E.length) (hs : Sig t (tm B.E x)) {k : Nat} {m : Tm} (hm : m ∈ seqT t k) : ∃ z : Int, (1 ≤ z ∧ z ≤ B.E.length) ∧ tm B.E z = m :=
  (sig_sub hs hm).there hB h1 h2 rfl
theorem out_nil {n : Nat} {S : Sto} (h : Out ⟨n, []⟩ S []) : S.E.length = 0 := by
  refine Decidable.byContradiction fun hc => ?_
  obtain ⟨k, hk⟩ := h 1 (by simp) (by omega)
  rw [seqT_nil] at hk
  simp at hk
def gfK (k1 k2 k3 bp bt bs : Nat) (S0 : Sto) (t : List Nat) (v : Value) (L1 : List Ent) : Prop :=
  ofK k1 k2 k3 bp bt bs S0 t v L1 ∨ (t ≠ [] ∧ ∃ S f1 f2 k m, WF S ∧ Grow S0 S ∧ S.most ≤ S.E.length ∧ Out S0 S t ∧ m ∈ seqT t k ∧ (∀ y : Int, 1 ≤ y → y ≤ S.E.length → tm S.E y ≠ m) ∧ v = .tuple #[.int .i64 0, errV 3] ∧ L1 = fPk k1 k2 k3 bp bt bs S f1 f2)
theorem calls_OfGF (k1 k2 k3 : Nat) (bp bt bs : Nat) (S0 : Sto) (hw : WF S0) (t : List Nat) (hb : ∀ x ∈ t, x < 256) (hl : t.length ≤ 1000) (at_ : Option Addr) (ct : Nat) (f1 f2 fp : List Nat) (w : World)
    (hR : R w fp (fPk k1 k2 k3 bp bt bs S0 f1 f2) w) (hG : TabF w fp) (hin : In w fp at_ (bytesV t)) :
    Calls Tryd.prog fn_P_signature_Parser_Of #[pS bp, .slice at_ t.length ct] w fun e w' => ∃ v L1, e = .returned v ∧ R w fp L1 w' ∧ gfK k1 k2 k3 bp bt bs S0 t v L1 := by
  have hR2 : R w fp (fP bp bt bs S0 f1 f2) w := (fPk_thin k1 k2 k3 78 77 3000 bp bt bs S0 f1 f2).ref w hR
  by_cases ht : t = []
  · subst ht
    exact (calls_Of0 bp bt bs S0 at_ ct f1 f2 fp w hR2).mono fun e w' ⟨v, L1, he, hR', hv, g1, g2, hL⟩ => by
      subst hL
      exact ⟨v, _, he, (fPk_thin 78 77 3000 k1 k2 k3 bp bt bs S0 g1 g2).ref w' hR', .inl ⟨S0, 0, g1, g2, hw, Grow.refl _, ⟨Int.le_refl _, Int.natCast_nonneg _⟩, fun _ => rfl, fun h => absurd rfl h, Nat.le_refl _, Out.refl _ _, hv, rfl⟩⟩
  · have hpos : 0 < t.length := List.length_pos_iff.2 ht
    exact (calls_OfF bp bt bs S0 hw t hb hpos hl at_ ct f1 f2 fp w hR2 hG hin).mono fun e w' ⟨v, L1, he, hR', hq⟩ => by
      rcases hq with ⟨S, x, g1, g2, q1, q2, q3, q4, q5, q6, hv, hL⟩ | ⟨S, g1, g2, k, m, q1, q2, q3, q4, q5, q6, hv, hL⟩
      · subst hL
        exact ⟨v, _, he, (fPk_thin 78 77 3000 k1 k2 k3 bp bt bs S g1 g2).ref w' hR', .inl ⟨S, x, g1, g2, q1, q2, ⟨by omega, q3.2⟩, fun h => absurd h ht, fun _ => ⟨q3.1, q4⟩, by omega, q6, hv, rfl⟩⟩
      · subst hL
        exact ⟨v, _, he, (fPk_thin 78 77 3000 k1 k2 k3 bp bt bs S g1 g2).ref w' hR', .inr ⟨ht, S, g1, g2, k, m, q1, q2, q3, q4, q5, q6, hv, rfl⟩⟩
theorem clipS_room {room : Int} (h : 0 ≤ room ∧ room ≤ 255) : clipS room = room.toNat := by
  unfold clipS
  rw [if_neg (by omega), if_neg (by omega)]
theorem law_SignatureFull (hs : SortsI Tryd.prog fn_slices_Sort_Sl_api_ID_api_ID) (w : World) (hG : TabF w []) (t : List Nat) (hbt : ∀ x ∈ t, x < 256) (htl : t.length ≤ 4611686018427387904) (a : Option Addr) (c : Nat) (hia : In w [] a (bytesV t)) (room : Int) (hm : 0 ≤ room ∧ room ≤ 255) :
    Calls Tryd.prog fn_evergreenlaw22_SignatureFull #[.slice a t.length c, .int .u8 room] w fun e w' => e = .returned (.bool true) ∧ Ext w w' := by
  refine pure_call [.v (.slice a t.length c), .v (.int .u8 room)] w ok_evergreenlaw22_SignatureFull (by simp) ?_
  by_cases hsz : t.length ≤ 100
  case neg =>
    (repeat' ((conv => whnf); first | (refine bcase_prop (fun h => ?_) (fun h => ?_) <;> try (exfalso; omega)) | (refine bcase_nprop (fun h => ?_) (fun h => ?_) <;> try (exfalso; omega)) | (refine bcase_intro (fun h => ?_) (fun h => ?_) <;> (try simp only [Bool.not_eq_true', Bool.not_eq_false', decide_eq_true_eq, decide_eq_false_iff_not, Bool.not_eq_true, Bool.not_eq_false, Decidable.not_not] at h)) | refine And.intro (by first | omega | exact rfl | assumption | exact ⟨rfl, rfl, rfl, rfl, rfl⟩ | exact ⟨rfl, rfl, rfl, rfl⟩ | exact ⟨rfl, by omega⟩ | exact oneAll_of rfl | exact ⟨rfl, oneAll_of rfl⟩ | exact Ref.refl _ | exact Thin.ref (.skip (Thin.refl _)) | exact Thin.ref (.skip (.skip (Thin.refl _))) | exact ⟨rfl, Nat.le_of_ble_eq_true rfl⟩ | ((try unfold maxLen); (try simp only [List.length_nil, List.length_cons, List.length_append]); omega) | (refine ⟨rfl, ?_⟩; (try simp only [List.length_nil, List.length_cons, List.length_append]); omega)) ?_ | intro _)); (all_goals (conv => whnf))
    all_goals first | (exfalso; omega) | exact ⟨rfl⟩
  have c0 := fun w h => calls_awake22 w h
  have hw1 : WF ⟨5000, []⟩ := WF.new 5000 (by decide)
  have hw2 : WF ⟨clipS room, []⟩ := WF.new _ (by rw [clipS_room hm]; omega)
  have cT := fun w h => calls_copied t (by omega) a c w h
  (repeat' ((conv => whnf); first | (refine CallK_new (fun w hR => calls_New 5000 77 w) ?_; rintro _ _ ⟨bs, fps, rfl, rfl⟩; refine ⟨.v _, rfl, ?_⟩) | (refine CallK_new (fun w hR => calls_newP bs ⟨5000, []⟩ w) ?_; rintro _ _ ⟨bp, bts, f2, rfl, rfl⟩; refine ⟨.v _, rfl, ?_⟩) | refine CallK_slice 901 (fun w' hR => cT w' (hia.cast hR (by simp))) ?_ | (refine CallK_sub [78, 77, 3000] rfl (fun w hR h0 => calls_OfG bp bts bs ⟨5000, []⟩ hw1 t hbt (by omega) (by dsimp only [List.length_nil]; omega) _ _ _ _ _ w h0 (hG.castL hR) (In.besideL (key := 901) hR rfl)) ?_; rintro _ _ ⟨B, x, g3, g4, hwB, hgB, hx, hx0, hx1, hln1, hout1, rfl, rfl⟩; have cLB := calls_sLen bs B; refine ⟨.v _, rfl, ?_⟩) | (refine bcase_prop (fun h => ?_) (fun h => ?_) <;> try (exfalso; omega)) | (refine bcase_nprop (fun h => ?_) (fun h => ?_) <;> try (exfalso; omega)) | (refine bcase_intro (fun h => ?_) (fun h => ?_) <;> (try simp only [Bool.not_eq_true', Bool.not_eq_false', decide_eq_true_eq, decide_eq_false_iff_not, Bool.not_eq_true, Bool.not_eq_false, Decidable.not_not] at h)) | refine And.intro (by first | omega | exact rfl | assumption | exact ⟨rfl, rfl, rfl, rfl, rfl⟩ | exact ⟨rfl, rfl, rfl, rfl⟩ | exact ⟨rfl, by omega⟩ | exact oneAll_of rfl | exact ⟨rfl, oneAll_of rfl⟩ | exact Ref.refl _ | exact Thin.ref (.skip (Thin.refl _)) | exact Thin.ref (.skip (.skip (Thin.refl _))) | exact ⟨rfl, Nat.le_of_ble_eq_true rfl⟩ | ((try unfold maxLen); (try simp only [List.length_nil, List.length_cons, List.length_append]); omega) | (refine ⟨rfl, ?_⟩; (try simp only [List.length_nil, List.length_cons, List.length_append]); omega)) ?_ | intro _)); (all_goals (conv => whnf))
  all_goals first | (exfalso; omega) | skip
  (repeat' ((conv => whnf); first | (refine CallK_new (fun w hR => calls_New room 177 w) ?_; rintro _ _ ⟨bu, fpu, rfl, rfl⟩; refine ⟨.v _, rfl, ?_⟩) | (refine CallK_new (fun w hR => calls_newK 178 3001 bu ⟨clipS room, []⟩ w) ?_; rintro _ _ ⟨bv, btu, f1, rfl, rfl⟩; refine ⟨.v _, rfl, ?_⟩) | refine CallK_slice 901 (fun w' hR => cT w' (hia.cast hR (by simp))) ?_ | (refine bcase_prop (fun h => ?_) (fun h => ?_) <;> try (exfalso; omega)) | (refine bcase_nprop (fun h => ?_) (fun h => ?_) <;> try (exfalso; omega)) | (refine bcase_intro (fun h => ?_) (fun h => ?_) <;> (try simp only [Bool.not_eq_true', Bool.not_eq_false', decide_eq_true_eq, decide_eq_false_iff_not, Bool.not_eq_true, Bool.not_eq_false, Decidable.not_not] at h)) | refine And.intro (by first | omega | exact rfl | assumption | exact ⟨rfl, rfl, rfl, rfl, rfl⟩ | exact ⟨rfl, rfl, rfl, rfl⟩ | exact ⟨rfl, by omega⟩ | exact oneAll_of rfl | exact ⟨rfl, oneAll_of rfl⟩ | exact Ref.refl _ | exact Thin.ref (.skip (Thin.refl _)) | exact Thin.ref (.skip (.skip (Thin.refl _))) | exact ⟨rfl, Nat.le_of_ble_eq_true rfl⟩ | ((try unfold maxLen); (try simp only [List.length_nil, List.length_cons, List.length_append]); omega) | (refine ⟨rfl, ?_⟩; (try simp only [List.length_nil, List.length_cons, List.length_append]); omega)) ?_ | intro _)); (all_goals (conv => whnf))
  all_goals first | (exfalso; omega) | skip
  refine CallK_sub [178, 177, 3001] rfl (fun w hR h0 => calls_OfGF 178 177 3001 bv btu bu ⟨clipS room, []⟩ hw2 t hbt (by omega) _ _ _ _ _ w h0 (hG.castL hR) (In.besideL (key := 901) hR rfl)) ?_
  have hsmB := hwB.small
  have hkx : known B x := hx
  have i3 := calls_Is 3 3 (by decide)
  have hcr := clipS_room hm
  have hBno : t = [] → B.E.length = 0 := fun h => by subst h; exact out_nil hout1
  rintro _ _ (⟨U, y, g5, g6, hwU, hgU, hy, hy0, hy1, hln2, hout2, rfl, rfl⟩ | ⟨ht, U, g5, g6, k, m, hwU, hgU, hfull, hout2, hmk, hno, rfl, rfl⟩)
  · refine ⟨.v _, rfl, ?_⟩
    have hky : known U y := hy
    have hUl := hwU.len
    have hUm := hgU.most
    dsimp only at hUm
    have hBU : B.E.length ≤ U.E.length := by
      by_cases ht : t = []
      · rw [hBno ht]; exact Nat.zero_le _
      · refine card_le hwB fun z z1 z2 => ?_
        obtain ⟨k, hk⟩ := hout1 z (by simp; omega) z2
        exact seq_there hwU (hy1 ht).1 hy.2 (hy1 ht).2 hk
    have hsame : tm U.E y = tm B.E x := by
      by_cases ht : t = []
      · rw [hx0 ht, hy0 ht]; rfl
      · exact (hy1 ht).2.det (hx1 ht).2
    have c6 := fun f fp w h => calls_lCanonK 77 880 hs bs B hwB x hkx f fp w h
    have c7 := fun f fp w h => calls_lCanonK 177 881 hs bu U hwU y hky f fp w h
    rw [hsame] at c7
    unfold lcK at c6 c7
    generalize canT (tm B.E x) = can at *
    have c8 := fun h a a' c c' w h1 h2 => calls_Same can h a a' c c' w h1 h2
    (repeat' ((conv => whnf); first | (refine CallK_pure (.v _) (fun w hR => c0 w (hG.cast hR (by simp))) ?_) | (refine CallK_pack (key := 77) rfl (fun w hR h0 => cLB _ _ _ h0) ?_; rintro _ _ ⟨rfl, fp', rfl⟩; refine ⟨.v _, rfl, ?_⟩) | (refine CallK_sub [77] rfl (fun w hR h0 => c6 _ _ w h0) ?_; rintro _ _ ⟨hz9, a9, c9, f9, rfl, rfl⟩; refine ⟨.v _, rfl, ?_⟩) | (refine CallK_sub [177] rfl (fun w hR h0 => c7 _ _ w h0) ?_; rintro _ _ ⟨hz8, a8, c8', f8, rfl, rfl⟩; refine ⟨.v _, rfl, ?_⟩) | (refine CallK_pure (.v _) (fun w hR => c8 hz9 _ _ _ _ w (In.ownR (key := 880) hR rfl) (In.ownR (key := 881) hR rfl)) ?_) | (refine bcase_prop (fun h => ?_) (fun h => ?_) <;> try (exfalso; omega)) | (refine bcase_nprop (fun h => ?_) (fun h => ?_) <;> try (exfalso; omega)) | (refine bcase_intro (fun h => ?_) (fun h => ?_) <;> (try simp only [Bool.not_eq_true', Bool.not_eq_false', decide_eq_true_eq, decide_eq_false_iff_not, Bool.not_eq_true, Bool.not_eq_false, Decidable.not_not] at h)) | refine And.intro (by first | omega | exact rfl | assumption | exact ⟨rfl, rfl, rfl, rfl, rfl⟩ | exact ⟨rfl, rfl, rfl, rfl⟩ | exact ⟨rfl, by omega⟩ | exact oneAll_of rfl | exact ⟨rfl, oneAll_of rfl⟩ | exact Ref.refl _ | exact Thin.ref (.skip (Thin.refl _)) | exact Thin.ref (.skip (.skip (Thin.refl _))) | exact ⟨rfl, Nat.le_of_ble_eq_true rfl⟩ | ((try unfold maxLen); (try simp only [List.length_nil, List.length_cons, List.length_append]); omega) | (refine ⟨rfl, ?_⟩; (try simp only [List.length_nil, List.length_cons, List.length_append]); omega)) ?_ | intro _)); (all_goals (conv => whnf))
    all_goals first | (exfalso; omega) | skip
    all_goals exact ⟨rfl⟩
  · refine ⟨.v _, rfl, ?_⟩
    have hUm := hgU.most
    dsimp only at hUm
    have hlt : U.E.length < B.E.length := card_lt hwU (fun z z1 z2 => by
      obtain ⟨k, hk⟩ := hout2 z (by simp; omega) z2
      exact seq_there hwB (hx1 ht).1 hx.2 (hx1 ht).2 hk) (seq_there hwB (hx1 ht).1 hx.2 (hx1 ht).2 hmk) hno
    (repeat' ((conv => whnf); first | (refine CallK_pure (.v _) (fun w hR => c0 w (hG.cast hR (by simp))) ?_) | (refine CallK_pack (key := 77) rfl (fun w hR h0 => cLB _ _ _ h0) ?_; rintro _ _ ⟨rfl, fp', rfl⟩; refine ⟨.v _, rfl, ?_⟩) | (first | refine CallK_pure (.v _) (fun w hR => i3 w) ?_ | refine QCall_pure (.v _) (fun w hR => i3 w) ?_) | (refine bcase_prop (fun h => ?_) (fun h => ?_) <;> try (exfalso; omega)) | (refine bcase_nprop (fun h => ?_) (fun h => ?_) <;> try (exfalso; omega)) | (refine bcase_intro (fun h => ?_) (fun h => ?_) <;> (try simp only [Bool.not_eq_true', Bool.not_eq_false', decide_eq_true_eq, decide_eq_false_iff_not, Bool.not_eq_true, Bool.not_eq_false, Decidable.not_not] at h)) | refine And.intro (by first | omega | exact rfl | assumption | exact ⟨rfl, rfl, rfl, rfl, rfl⟩ | exact ⟨rfl, rfl, rfl, rfl⟩ | exact ⟨rfl, by omega⟩ | exact oneAll_of rfl | exact ⟨rfl, oneAll_of rfl⟩ | exact Ref.refl _ | exact Thin.ref (.skip (Thin.refl _)) | exact Thin.ref (.skip (.skip (Thin.refl _))) | exact ⟨rfl, Nat.le_of_ble_eq_true rfl⟩ | ((try unfold maxLen); (try simp only [List.length_nil, List.length_cons, List.length_append]); omega) | (refine ⟨rfl, ?_⟩; (try simp only [List.length_nil, List.length_cons, List.length_append]); omega)) ?_ | intro _)); (all_goals (conv => whnf))
    all_goals first | (exfalso; omega) | skip
    all_goals exact ⟨rfl⟩
theorem law_SignatureFullI (w : World) (hG : TabF w []) (xs : List Int) (hx : ∀ n ∈ xs, (Lit.int .u8 n).wf = true) (hxl : xs.length ≤ 140737488351232) (a : Option Addr) (c : Nat) (hia : In w [] a (ints .u8 xs)) (room : Int) (hm : 0 ≤ room ∧ room ≤ 255) :
    Calls Tryd.prog fn_evergreenlaw22_SignatureFull #[.slice a xs.length c, .int .u8 room] w fun e w' => e = .returned (.bool true) ∧ Ext w w' := by
  obtain ⟨e1, b1⟩ := bytes_ints hx
  rw [e1] at hia
  have := law_SignatureFull sortsI w hG (xs.map Int.toNat) b1 (by simp; omega) a c hia room hm
  rwa [List.length_map] at this
end Go.Proofs.YtkkhpdkfploodaaDoor
/- Runs from the left, one more at a time. Plain Lean: no program in sight. -/
namespace Go.Proofs.YtkkhpdkfploodaaDoor
open Go.EG
set_option linter.unusedSimpArgs false
set_option linter.unusedVariables false

end Go.Proofs.YtkkhpdkfploodaaDoor
