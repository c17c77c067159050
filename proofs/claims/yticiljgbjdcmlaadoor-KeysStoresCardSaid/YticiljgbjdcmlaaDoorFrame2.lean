/- From what the given statements say of an argument to what the walks ask: slices of structs of integers. No condition. -/
import Derived.Test.YticiljgbjdcmlaaDoorFrame
import Derived.DataElems
namespace Go.EG
open Go.ChangeShapes Go.WideShapes Go.ChangeAt Go.RowKit
set_option linter.unusedVariables false

/-- The cells of a struct of integers. -/
def RecOk : List IntKind → List Value → Prop
  | [], [] => True
  | k :: ks, .int k' n :: vs => (k' = k ∧ (Lit.int k n).wf = true) ∧ RecOk ks vs
  | _, _ => False
theorem RecOk.length : ∀ {ks : List IntKind} {vs : List Value}, RecOk ks vs → vs.length = ks.length
  | [], [], _ => rfl
  | k :: ks, .int k' n :: vs, h => by
    have := RecOk.length h.2
    simp [this]

def recB (P : Program) : List Field → List IntKind → Nat → Bool
  | [], [], _ => true
  | f :: fs, k :: ks, i => decide (f.offset = i) && decide (P.cellsOf f.type = 1) && (match P.underlying f.type with
    | some (.int k') => decide (k' = k)
    | _ => false) && recB P fs ks (i + 1)
  | _, _, _ => false

section
variable {H : Type} {enc : TypeId × Value → H} {P : Program} {w : World} {base : Nat} {spare : Nat → Bool} {held : Bool}

theorem recB_ok {n : Nat} {cs : List Value} : ∀ {fs : List Field} {ks : List IntKind} {i : Nat}, recB P fs ks i = true → cs.length = i + ks.length →
    (∀ (j : Nat) (f : Field), fs[j]? = some f → ∃ x, DataW.trod enc P w base spare held n f.type ((cs.drop f.offset).take (P.cellsOf f.type)) = some x) → RecOk ks (cs.drop i)
  | [], [], i, _, hl, _ => by
    rw [List.drop_eq_nil_of_le (by simp at hl; omega)]; trivial
  | f :: fs, k :: ks, i, h, hl, hf => by
    simp only [recB, Bool.and_eq_true, decide_eq_true_eq] at h
    obtain ⟨⟨⟨h1, h2⟩, h3⟩, h4⟩ := h
    obtain ⟨x, hx⟩ := hf 0 f rfl
    have hu : P.underlying f.type = some (.int k) := by
      split at h3
      · rename_i k' hk; rw [hk, of_decide_eq_true h3]
      · cases h3
    rw [h1, h2] at hx
    obtain ⟨m, hc, _, hw⟩ := DataW.trod_int hu hx
    have hlt : i < cs.length := by rw [hl, List.length_cons]; omega
    rw [List.drop_eq_getElem_cons hlt] at hc ⊢
    simp only [List.take_succ_cons, List.take_zero, List.cons.injEq, and_true] at hc
    rw [hc]
    exact ⟨⟨rfl, hw⟩, recB_ok h4 (by rw [hl, List.length_cons]; omega) fun j f' hj => hf (j + 1) f' (by simpa using hj)⟩
  | [], _ :: _, _, h, _, _ => by simp [recB] at h
  | _ :: _, [], _, h, _, _ => by simp [recB] at h

theorem open_recs {t e : TypeId} {fs : Array Field} {ks : List IntKind} {fuel : Nat} {cs : List Value} {x : DataW H × List MemPlace} (ht : P.underlying t = some (.slice e)) (he : P.underlying e = some (.struct fs)) (hr : recB P fs.toList ks 0 = true) (hc : P.cellsOf e = ks.length)
    (h : DataW.trod enc P w base spare held fuel t cs = some x) :
    (cs = [.slice none 0 0] ∧ x = (.nil, [])) ∨
    ∃ (a : Addr) (len cap : Nat) (elems rest : List (DataW H)), cs = [.slice (some a) len cap] ∧ base ≤ a.block ∧ len ≤ cap ∧ cap ≤ maxLen ∧ x.1 = .slice elems rest ∧ elems.length = len ∧ (spare a.block = true → rest.length = cap - len) ∧
      ∀ i, i < len → ∃ vs, RecOk ks vs ∧ ∀ j, j < vs.length → w.cell? (a.add (i * ks.length + j)) = vs[j]? := by
  rcases DataW.trod_slice ht h with h0 | ⟨a, len, cap, elems, rest, n, _, rfl, rfl, hb, hl, hm, hlen, hel, hsp, hns⟩
  · exact .inl h0
  refine .inr ⟨a, len, cap, elems.map (·.1), rest.map (·.1), rfl, hb, hl, hm, rfl, by simpa using hlen, fun hs => by simpa using (hsp hs).1, fun i hi => ?_⟩
  have h1 := hel i hi
  rw [hc] at h1
  rw [List.getElem?_eq_getElem (by omega)] at h1
  obtain ⟨cs', hcs, hy⟩ := Option.bind_eq_some_iff.1 h1
  obtain ⟨_, hcl, hcell⟩ := World.cells?_some hcs
  obtain ⟨xs, m, _, _, _, hxl, hf⟩ := DataW.trod_struct he hy
  refine ⟨cs', ?_, fun j hj => ?_⟩
  · have := recB_ok (i := 0) hr (by rw [hcl]; simp) (cs := cs') (n := m) fun j f hj => by
      have hj' : fs[j]? = some f := by simpa using hj
      have := hf j f hj'
      rw [this]
      have hlt : j < xs.length := by
        rw [hxl]
        exact (Array.getElem?_eq_some_iff.1 hj').1
      exact ⟨_, List.getElem?_eq_getElem hlt⟩
    simpa using this
  · rw [← Addr.add_add]
    exact hcell j (by omega)
end

theorem flatten_get {n : Nat} (hn : 0 < n) : ∀ {rows : List (List Value)} {k : Nat}, (∀ vs ∈ rows, vs.length = n) → rows.flatten[k]? = (rows[k / n]?).bind (·[k % n]?)
  | [], k, _ => by simp
  | r :: rows, k, h => by
    have hr := h r List.mem_cons_self
    rw [List.flatten_cons]
    by_cases hk : k < n
    · rw [List.getElem?_append_left (by omega), Nat.div_eq_of_lt hk, Nat.mod_eq_of_lt hk]; rfl
    · rw [List.getElem?_append_right (by omega), hr, flatten_get hn fun vs hv => h vs (List.mem_cons_of_mem _ hv)]
      have e1 : k / n = (k - n) / n + 1 := by
        conv => lhs; rw [show k = (k - n) + n by omega]
        rw [Nat.add_div_right _ hn]
      have e2 : k % n = (k - n) % n := by
        conv => lhs; rw [show k = (k - n) + n by omega]
        rw [Nat.add_mod_right]
      rw [e1, e2, List.getElem?_cons_succ]

/-- Rows of structs of integers. -/
theorem recs_in {w : World} {a : Addr} {ks : List IntKind} (hk : 0 < ks.length) : ∀ {len : Nat}, (∀ i, i < len → ∃ vs, RecOk ks vs ∧ ∀ j, j < vs.length → w.cell? (a.add (i * ks.length + j)) = vs[j]?) →
    ∃ rows : List (List Value), rows.length = len ∧ (∀ vs ∈ rows, RecOk ks vs) ∧ In w [] (some a) rows.flatten := by
  intro len h
  obtain ⟨f, hf⟩ : ∃ f : Nat → List Value, ∀ i, i < len → RecOk ks (f i) ∧ ∀ j, j < (f i).length → w.cell? (a.add (i * ks.length + j)) = (f i)[j]? := by
    refine ⟨fun i => if h' : i < len then Classical.choose (h i h') else [], fun i hi => ?_⟩
    simp only [dif_pos hi]
    exact Classical.choose_spec (h i hi)
  have hall : ∀ vs ∈ (List.range len).map f, RecOk ks vs := fun vs hv => by
    obtain ⟨i, hi, rfl⟩ := List.mem_map.1 hv
    exact (hf i (List.mem_range.1 hi)).1
  refine ⟨(List.range len).map f, by simp, hall, ?_⟩
  by_cases h0 : len = 0
  · subst h0; exact .inl rfl
  · obtain ⟨b, off, spot⟩ := a
    have hc0 : w.cell? ((⟨b, off, spot⟩ : Addr).add 0) = (f 0)[0]? := by
      have := (hf 0 (by omega)).2 0 (by rw [(hf 0 (by omega)).1.length]; exact hk)
      simpa using this
    have hl0 : 0 < (f 0).length := by rw [(hf 0 (by omega)).1.length]; exact hk
    rw [List.getElem?_eq_getElem hl0] at hc0
    have hspot : spot = none := by simpa [Addr.add] using World.cell?_spot hc0
    subst hspot
    refine .inr ⟨b, off, rfl, ?_, by simp, fun j v hv => ?_⟩
    · have hc1 : w.cell? ⟨b, off, none⟩ = some (f 0)[0] := by simpa [Addr.add] using hc0
      unfold World.cell? at hc1
      rcases Nat.lt_or_ge b w.heap.size with h | h
      · exact h
      · rw [Array.getElem?_eq_none h] at hc1
        simp at hc1
    · rw [flatten_get hk fun vs hv => (hall vs hv).length] at hv
      obtain ⟨r, hr, hv⟩ := Option.bind_eq_some_iff.1 hv
      have hi : j / ks.length < len := by
        have := (List.getElem?_eq_some_iff.1 hr).1
        simpa using this
      have hrf : r = f (j / ks.length) := by
        rw [List.getElem?_map, List.getElem?_range hi] at hr
        simpa using hr.symm
      subst hrf
      have hj : j % ks.length < (f (j / ks.length)).length := (List.getElem?_eq_some_iff.1 hv).1
      have := (hf _ hi).2 _ hj
      rw [hv] at this
      rw [← this]
      congr 1
      rw [Nat.mul_comm, Nat.div_add_mod]
      simp only [Addr.add]
      split
      · rename_i h; subst h; rfl
      · rfl
end Go.EG
