/- From what the given statements say of an argument to what the walks ask. No condition. -/
import Derived.Test.YtagoedllflalpaaUse
import Derived.ProofKit
import Derived.OpenShut
import Derived.ShutString
import Derived.ChangeOld
import Derived.Below
import Derived.SizedLaws
namespace Go.EG
open Go.ChangeShapes Go.WideShapes Go.ChangeAt Go.RowKit

/-- A row of integers that came in. -/
def IsRow (k : IntKind) (w : World) (a : Option Addr) (len cap : Nat) (zs : List Int) : Prop :=
  (a = none ∧ len = 0 ∧ cap = 0 ∧ zs = []) ∨
  ∃ x, a = some x ∧ len ≤ cap ∧ cap ≤ 140737488351232 ∧ zs.length = cap ∧ (∀ i, i < zs.length → w.cell? (x.add i) = some (.int k (zs.getD i 0))) ∧ ∀ n ∈ zs, (Lit.int k n).wf = true

theorem IsRow.get {k : IntKind} {w : World} {a : Option Addr} {len cap : Nat} {zs : List Int} (h : IsRow k w a len cap zs) :
    ∃ xs : List Int, xs.length = len ∧ In w [] a (ints k xs) ∧ len ≤ 140737488351232 ∧ ∀ n ∈ xs, (Lit.int k n).wf = true := by
  rcases h with ⟨rfl, rfl, rfl, rfl⟩ | ⟨x, rfl, hl, hm, hz, hc, hw⟩
  · exact ⟨[], rfl, .inl rfl, by simp, by simp⟩
  · refine ⟨zs.take len, by simp; omega, ?_, by omega, fun n hn => hw n (List.mem_of_mem_take hn)⟩
    by_cases h0 : len = 0
    · subst h0; exact .inl rfl
    · obtain ⟨b, off, spot⟩ := x
      have hc0 := hc 0 (by omega)
      have hspot : spot = none := by simpa [Addr.add] using World.cell?_spot hc0
      subst hspot
      refine .inr ⟨b, off, rfl, ?_, by simp, fun j v hv => ?_⟩
      · have : w.cell? ⟨b, off, none⟩ = some (.int k (zs.getD 0 0)) := by simpa [Addr.add] using hc0
        unfold World.cell? at this
        rcases Nat.lt_or_ge b w.heap.size with h | h
        · exact h
        · rw [Array.getElem?_eq_none h] at this
          simp at this
      · have hj : j < (ints k (zs.take len)).length := (List.getElem?_eq_some_iff.1 hv).1
        rw [ints_length] at hj
        have hj' : j < zs.length := by simp at hj; omega
        have h1 := hc j hj'
        rw [ints_getD hj, List.getD_eq_getElem?_getD, List.getElem?_take, if_pos (by simp at hj; omega), ← List.getD_eq_getElem?_getD] at hv
        cases hv
        rw [← h1]
        congr 1
        simp only [Addr.add]
        split
        · rename_i h; subst h; rfl
        · rfl

theorem wf_u64 {n : Int} (h : (Lit.int .u64 n).wf = true) : 0 ≤ n ∧ n ≤ 18446744073709551615 := by
  simp only [Lit.wf, Bool.and_eq_true, decide_eq_true_eq] at h
  exact h
theorem wf_i64 {n : Int} (h : (Lit.int .i64 n).wf = true) : -9223372036854775808 ≤ n ∧ n ≤ 9223372036854775807 := by
  simp only [Lit.wf, Bool.and_eq_true, decide_eq_true_eq] at h
  exact h
theorem wf_u16 {n : Int} (h : (Lit.int .u16 n).wf = true) : 0 ≤ n ∧ n ≤ 65535 := by
  simp only [Lit.wf, Bool.and_eq_true, decide_eq_true_eq] at h
  exact h
theorem wf_u8 {n : Int} (h : (Lit.int .u8 n).wf = true) : 0 ≤ n ∧ n ≤ 255 := by
  simp only [Lit.wf, Bool.and_eq_true, decide_eq_true_eq] at h
  exact h
end Go.EG
