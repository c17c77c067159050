/-
  TransferLetters: for every input the Go function returns true, and each argument reads as it did. No condition.
-/
import Derived.Test.YtoocnmfodhnpbaaRows
import Derived.Test.YtoocnmfodhnpbaaK2
import Derived.Test.YtoocnmfodhnpbaaK10
import Derived.Test.YtoocnmfodhnpbaaK5
namespace Go.Proofs.Ytoocnmfodhnpbaa.transferLettersDone
open Go.ChangeShapes Go.WideShapes Go.ChangeAt Go.RowKit Go.EG
open Go.ChangeMaps (open_string shut_string)
set_option linter.unusedVariables false

theorem own : ownKnob Try.prog.godebug = none := by kernel_rfl
theorem laidOut : laidOutB Try.prog = true := by kernel_rfl

set_option maxRecDepth 100000 in
theorem lifted (os : Os) (started : os.Started) (H : Type) (enc : TypeId × Value → H) :
    ReturnsInHanded {} Try.checked os 9 .any (Rows.transferLettersSpec.pre6 enc Try.prog Try.f9 Rows.transferLettersRow.domain false) (Rows.transferLettersSpec.post enc Try.prog Try.f9 false true false false) := by
  refine returnsInHanded_of_change_sized (C := Try.checked) own started (by kernel_rfl) Try.func9
    (ChangeSpec.witness6 (enc := enc) (C := Try.checked) false ⟨#[], #[.agg #[.int .u64 0, .int .u64 0, .int .u64 0, .int .u64 0], .int .u8 0, .bool false, .slice none 0 0, .int .i64 0, .int .i64 0, .int .i64 0], []⟩ 8 (by kernel_rfl) (by kernel_rfl) (by kernel_rfl) (by kernel_rfl)) ?_
  intro W base args ds gs before hval0 hW hcnd hsz0 _
  have hval : ∀ (j : Nat) t v, Try.f9.params[j]? = some t → args[j]? = some v → Value.okWide Try.prog W .any base t v := hval0
  have hW' := hW
  obtain ⟨p, q, hA0, hV, rfl, hfz, hnd⟩ := hW
  have hA : DataW.TrodAll enc Try.prog W 0 (fun _ => true) true Try.f9.params.toList args.toList ds p := hA0
  have hsz : (DataW.weightsEach Try.prog (Try.f9.params.toList ++ Rows.transferLettersSpec.plain.varTypes Try.prog) (ds ++ gs)).all (· ≤ reachBytes) = true := hsz0
  rw [Try.params9] at hA hval hsz
  obtain ⟨v0, vs0, d0, ds0, p0, q0, hargs, rfl, rfl, h0, r0⟩ := trodAll_cons hA
  obtain ⟨v1, vs1, d1, ds1, p1, q1, rfl, rfl, rfl, h1, r1⟩ := trodAll_cons r0
  obtain ⟨v2, vs2, d2, ds2, p2, q2, rfl, rfl, rfl, h2, r2⟩ := trodAll_cons r1
  obtain ⟨v3, vs3, d3, ds3, p3, q3, rfl, rfl, rfl, h3, r3⟩ := trodAll_cons r2
  obtain ⟨v4, vs4, d4, ds4, p4, q4, rfl, rfl, rfl, h4, r4⟩ := trodAll_cons r3
  obtain ⟨v5, vs5, d5, ds5, p5, q5, rfl, rfl, rfl, h5, r5⟩ := trodAll_cons r4
  obtain ⟨v6, vs6, d6, ds6, p6, q6, rfl, rfl, rfl, h6, r6⟩ := trodAll_cons r5
  obtain ⟨rfl, rfl, rfl⟩ := trodAll_nil r6
  obtain rfl : args = #[v0, v1, v2, v3, v4, v5, v6] := by cases args; simp_all
  obtain ⟨rfl, rfl⟩ := trodVars_none hV
  obtain ⟨s0, rfl, rfl, rfl, hw0⟩ := open_l4 Try.underlying86 Try.underlying84 (by kernel_rfl) (by kernel_rfl) (hval 0 86 v0 rfl rfl) h0
  obtain ⟨n1, rfl, rfl, rfl, hw1⟩ := open_int Try.underlying5 (hval 1 5 v1 rfl rfl) h1
  obtain ⟨n2, rfl, rfl, rfl⟩ := open_bool Try.underlying4 (hval 2 4 v2 rfl rfl) h2
  obtain ⟨a3, len3, cap3, rfl⟩ := okWide_slice Try.underlying29 (hval 3 29 v3 rfl rfl)
  have k3 := h3
  have lt3 : ∀ x ∈ p3, x.block < W.heap.size := by obtain ⟨m, hm⟩ := k3; exact DataW.trod_lt m _ _ _ hm
  obtain ⟨g3, hl3, hx3, hg3⟩ : ∃ g : List Rul, g.length = len3 ∧ In W [] a3 (rulsC g) ∧ MIn g := by
    obtain ⟨fuel, hf⟩ := h3
    rcases open_recs (ks := [.i64, .u8, .i64, .i64, .i64]) Try.underlying29 Try.underlying157 (by kernel_rfl) (by kernel_rfl) hf with ⟨hcs, _⟩ | ⟨x, l, c, elems, rest, hcs, _, hl, hm, hd, he, hrest, hrec⟩
    · simp [Value.cells] at hcs
      obtain ⟨rfl, rfl, rfl⟩ := hcs
      exact ⟨[], rfl, .inl rfl, ⟨by simp, fun i h => absurd h (Nat.not_lt_zero i)⟩⟩
    · simp [Value.cells] at hcs
      obtain ⟨rfl, rfl, rfl⟩ := hcs
      simp only at hd
      subst hd
      have hs := sized_slice hsz (j := 3) (t := 29) (e := 157) rfl rfl Try.underlying29
      rw [show Try.prog.bytesOf 157 = 40 from by kernel_rfl, he, hrest rfl] at hs
      simp only [reachBytes] at hs
      obtain ⟨rows, r1, r2, r3⟩ := recs_in (by decide) hrec
      obtain ⟨g, e1, e2, e3⟩ := maks_of r2
      rw [e1] at r3
      exact ⟨g, by omega, r3, ⟨by omega, e3⟩⟩
  subst hl3
  obtain ⟨n4, rfl, rfl, rfl, hw4⟩ := open_int Try.underlying3 (hval 4 3 v4 rfl rfl) h4
  obtain ⟨n5, rfl, rfl, rfl, hw5⟩ := open_int Try.underlying3 (hval 5 3 v5 rfl rfl) h5
  obtain ⟨n6, rfl, rfl, rfl, hw6⟩ := open_int Try.underlying3 (hval 6 3 v6 rfl rfl) h6
  clear hA0 hval0 hsz0
  refine (law_TransferLettersI sortsI W s0 hw0 n1 (wf_u8 hw1) n2 g3 hg3 a3 cap3 hx3 n4 n5 n6 (wf_i64 hw4)).mono fun e W' ⟨he, bel⟩ => ?_
  subst he
  exact ⟨_, rfl, _, _, _, [], _, [], hW', trodAll_mk1 (shut_bool Try.underlying4 _), (trodAll_cons_mk (shut_l4 Try.underlying86 Try.underlying84 (by kernel_rfl) (by kernel_rfl) hw0) (trodAll_cons_mk (shut_int Try.underlying5 hw1) (trodAll_cons_mk (shut_bool Try.underlying4 _) (trodAll_cons_mk (Below.trod laidOut (by kernel_rfl) (of_decide_eq_true (by kernel_rfl)) k3 bel lt3) (trodAll_cons_mk (shut_int Try.underlying3 hw4) (trodAll_cons_mk (shut_int Try.underlying3 hw5) (trodAll_cons_mk (shut_int Try.underlying3 hw6) trodAll_mk0))))))), rfl, bel.frame _, fun h => by cases h⟩

theorem over : Rows.transferLettersRow.holds Try.pinned (OpenSpec.ofChange Rows.transferLettersSpec) :=
  OpenClaim.holds_of_wide 9 Try.f9 rfl rfl rfl rfl rfl rfl rfl ⟨rfl, rfl, rfl, rfl, rfl⟩ rfl rfl rfl rfl rfl (by kernel_rfl) Try.func9 (by kernel_rfl)
    (of_decide_eq_true (by kernel_rfl)) (by unfold Func.isWrapper; first | (rw [if_pos (by decide +kernel)]; kernel_rfl) | (rw [if_neg (by decide +kernel)]; exact ⟨rfl, rfl⟩))
    (fun os started H enc _ => lifted os started H enc)

/-- The statement. -/
theorem transferLetters_holds : Rows.TransferLettersSaid := over
end Go.Proofs.Ytoocnmfodhnpbaa.transferLettersDone
namespace Go.Proofs.Ytoocnmfodhnpbaa
theorem transferLetters_holds : Rows.TransferLettersSaid := transferLettersDone.over
#print axioms transferLetters_holds
end Go.Proofs.Ytoocnmfodhnpbaa
