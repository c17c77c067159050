/- A slice of rules that came in. No condition. -/
import Derived.Test.YticiljgbjdcmlaaDoorFrame2
import Derived.Test.YticiljgbjdcmlaaDoorK20
namespace Go.Proofs.YticiljgbjdcmlaaDoor
open Go.EG
set_option linter.unusedVariables false

theorem rul_of {vs : List Value} (h : RecOk [.i64, .u8, .i64, .i64, .i64] vs) : ∃ r : Rul, vs = ruC r ∧ (0 ≤ r.l ∧ r.l < 256) ∧ r.t ≤ 9223372036854775807 := by
  match vs, h with
  | [.int k0 n0, .int k1 n1, .int k2 n2, .int k3 n3, .int k4 n4], h =>
    obtain ⟨⟨rfl, w0⟩, ⟨rfl, w1⟩, ⟨rfl, w2⟩, ⟨rfl, w3⟩, ⟨rfl, w4⟩, _⟩ := h
    have h1 := wf_u8 w1
    have h4 := wf_i64 w4
    exact ⟨⟨n0, n1, n2, n3, n4⟩, rfl, ⟨h1.1, by have := h1.2; show n1 < 256; omega⟩, h4.2⟩
theorem ruls_of : ∀ {rows : List (List Value)}, (∀ vs ∈ rows, RecOk [.i64, .u8, .i64, .i64, .i64] vs) →
    ∃ g : List Rul, rows.flatten = rulsC g ∧ g.length = rows.length ∧ (∀ i, i < g.length → 0 ≤ (g.getD i rul0).l ∧ (g.getD i rul0).l < 256) ∧ ∀ i, i < g.length → (g.getD i rul0).t ≤ 9223372036854775807
  | [], _ => ⟨[], rfl, rfl, fun i h => absurd h (Nat.not_lt_zero i), fun i h => absurd h (Nat.not_lt_zero i)⟩
  | vs :: rows, h => by
    obtain ⟨r, rfl, h1, h2⟩ := rul_of (h vs List.mem_cons_self)
    obtain ⟨g, e1, e2, e3, e4⟩ := ruls_of fun vs hv => h vs (List.mem_cons_of_mem _ hv)
    refine ⟨r :: g, ?_, by simp [e2], fun i hi => ?_, fun i hi => ?_⟩
    · rw [List.flatten_cons, e1]; simp [rulsC]
    · cases i with
      | zero => exact h1
      | succ i => exact e3 i (by simpa using hi)
    · cases i with
      | zero => exact h2
      | succ i => exact e4 i (by simpa using hi)
end Go.Proofs.YticiljgbjdcmlaaDoor
