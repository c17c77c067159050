/- The level of a signature, and sequences around it: the program. -/
import Derived.Test.YtkkhpdkfploodaaDoorK15
import Derived.Test.YtkkhpdkfploodaaDoorK16
import Derived.Test.YtkkhpdkfploodaaDoorK5
namespace Go.Proofs.YtkkhpdkfploodaaDoor
open Go.EG
attribute [local irreducible] CallK QCall Go.Calls
set_option linter.unusedSimpArgs false
set_option linter.unusedVariables false
set_option maxRecDepth 20000
set_option maxHeartbeats 4000000

theorem wf_u8 {n : Int} (h : (Lit.int .u8 n).wf = true) : 0 ≤ n ∧ n ≤ 255 := by
  simp only [Lit.wf, Bool.and_eq_true, decide_eq_true_eq] at h
  exact h
end Go.Proofs.YtkkhpdkfploodaaDoor
/- Groups 246 levels on: the program. -/
namespace Go.Proofs.YtkkhpdkfploodaaDoor
open Go.EG
attribute [local irreducible] CallK QCall Go.Calls
set_option linter.unusedSimpArgs false
set_option linter.unusedVariables false
set_option maxRecDepth 20000
set_option maxHeartbeats 4000000

end Go.Proofs.YtkkhpdkfploodaaDoor
/- Rules that are there. Plain Lean: no program in sight. -/
namespace Go.Proofs.YtkkhpdkfploodaaDoor
open Go.EG
set_option linter.unusedSimpArgs false
set_option linter.unusedVariables false

theorem find_pair {S : Sto} (hw : WF S) {l x y : Int} (h1 : 1 ≤ l) (h2 : l ≤ S.E.length) (hx : 1 ≤ x ∧ x ≤ S.E.length) (hy : 1 ≤ y ∧ y ≤ S.E.length) (h : tm S.E l = .pr (tm S.E x) (tm S.E y)) : idOf (pairR x y) S.E = l.toNat := by
  obtain ⟨hr, hl, ht, _, hid⟩ := hw.at_ h1 h2
  rw [h] at ht
  unfold mkT at ht
  rcases hr with ⟨k1, _⟩ | ⟨k1, k2, k3, k4, k5, k6, k7⟩ | ⟨k1, _⟩
  · rw [if_pos k1] at ht; cases ht
  · rw [if_neg (by omega), if_pos k1] at ht
    injection ht with ha hb
    have ea := (hw.inj_iff hx.1 hx.2 k4 (by omega)).1 ha
    have eb := (hw.inj_iff hy.1 hy.2 k6 (by omega)).1 hb
    rw [← hid]
    congr 1
    generalize (atE S.E l).r = r at *
    obtain ⟨_, _, _, _, _⟩ := r
    simp only at *
    subst k1 k2 k3 ea eb
    rfl
  · rw [if_neg (by omega), if_neg (by omega)] at ht; cases ht
theorem find_pow {S : Sto} (hw : WF S) {l x t : Int} (h1 : 1 ≤ l) (h2 : l ≤ S.E.length) (hx : 1 ≤ x ∧ x ≤ S.E.length) (ht0 : 0 ≤ t) (h : tm S.E l = .pw (tm S.E x) t.toNat) : idOf (powR x t) S.E = l.toNat := by
  obtain ⟨hr, hl, ht, _, hid⟩ := hw.at_ h1 h2
  rw [h] at ht
  unfold mkT at ht
  rcases hr with ⟨k1, _⟩ | ⟨k1, _⟩ | ⟨k1, k2, k3, k4, k5, k6⟩
  · rw [if_pos k1] at ht; cases ht
  · rw [if_neg (by omega), if_pos k1] at ht; cases ht
  · rw [if_neg (by omega), if_neg (by omega)] at ht
    injection ht with ha hb
    have ea := (hw.inj_iff hx.1 hx.2 k5 (by omega)).1 ha
    rw [← hid]
    congr 1
    generalize (atE S.E l).r = r at *
    obtain ⟨_, _, _, _, _⟩ := r
    simp only at *
    have : t = ‹Int› := by omega
    subst k1 k2 k3 ea this
    rfl
end Go.Proofs.YtkkhpdkfploodaaDoor
/- One level after the other: the program. -/
namespace Go.Proofs.YtkkhpdkfploodaaDoor
open Go.EG
attribute [local irreducible] CallK QCall Go.Calls
set_option linter.unusedSimpArgs false
set_option linter.unusedVariables false
set_option maxRecDepth 20000
set_option maxHeartbeats 4000000

/-! ### A pair level -/

structure PdG where
  i : Nat
  at_ : Nat
  f1 : List Nat
  f2 : List Nat
end Go.Proofs.YtkkhpdkfploodaaDoor
/- Each sequence follows from the one below: the program. -/
namespace Go.Proofs.YtkkhpdkfploodaaDoor
open Go.EG
attribute [local irreducible] CallK QCall Go.Calls
set_option linter.unusedSimpArgs false
set_option linter.unusedVariables false
set_option maxRecDepth 20000
set_option maxHeartbeats 4000000

structure StO where
  i : Nat
  a : Option Addr
  c : Nat
structure StK where
  k : Nat
  a : Option Addr
  c : Nat
end Go.Proofs.YtkkhpdkfploodaaDoor
/- A pair of letters, many times. Plain Lean: no program in sight. -/
namespace Go.Proofs.YtkkhpdkfploodaaDoor
open Go.EG
set_option linter.unusedSimpArgs false
set_option linter.unusedVariables false

end Go.Proofs.YtkkhpdkfploodaaDoor
/- The sequences of a power of a pair of letters: the program. -/
namespace Go.Proofs.YtkkhpdkfploodaaDoor
open Go.EG
attribute [local irreducible] CallK QCall Go.Calls
set_option linter.unusedSimpArgs false
set_option linter.unusedVariables false
set_option maxRecDepth 20000
set_option maxHeartbeats 4000000

end Go.Proofs.YtkkhpdkfploodaaDoor
