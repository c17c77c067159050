/-
  TransferKeeps: for every input the Go function returns true, and each argument reads as it did. No condition.
-/
import Derived.Test.YtoocnmfodhnpbaaRows
import Derived.Test.YtoocnmfodhnpbaaK2
import Derived.Test.YtoocnmfodhnpbaaK11
import Derived.Test.YtoocnmfodhnpbaaK5
namespace Go.Proofs.Ytoocnmfodhnpbaa.transferKeepsDone
open Go.ChangeShapes Go.WideShapes Go.ChangeAt Go.RowKit Go.EG
open Go.ChangeMaps (open_string shut_string)
set_option linter.unusedVariables false

theorem own : ownKnob Try.prog.godebug = none := by kernel_rfl
theorem laidOut : laidOutB Try.prog = true := by kernel_rfl

set_option maxRecDepth 100000 in
theorem lifted (os : Os) (started : os.Started) (H : Type) (enc : TypeId × Value → H) :
    ReturnsInHanded {} Try.checked os 8 .any (Rows.transferKeepsSpec.pre6 enc Try.prog Try.f8 Rows.transferKeepsRow.domain false) (Rows.transferKeepsSpec.post enc Try.prog Try.f8 false true false false) := by
  refine returnsInHanded_of_change_sized (C := Try.checked) own started (by kernel_rfl) Try.func8
    (ChangeSpec.witness6 (enc := enc) (C := Try.checked) false ⟨#[], #[.agg #[.int .i64 0, .slice none 0 0, .slice none 0 0, .slice none 0 0, .slice none 0 0, .bool false], .slice none 0 0, .slice none 0 0], []⟩ 8 (by kernel_rfl) (by kernel_rfl) (by kernel_rfl) (by kernel_rfl)) ?_
  intro W base args ds gs before hval0 hW hcnd hsz0 _
  have hval : ∀ (j : Nat) t v, Try.f8.params[j]? = some t → args[j]? = some v → Value.okWide Try.prog W .any base t v := hval0
  have hW' := hW
  obtain ⟨p, q, hA0, hV, rfl, hfz, hnd⟩ := hW
  have hA : DataW.TrodAll enc Try.prog W 0 (fun _ => true) true Try.f8.params.toList args.toList ds p := hA0
  have hsz : (DataW.weightsEach Try.prog (Try.f8.params.toList ++ Rows.transferKeepsSpec.plain.varTypes Try.prog) (ds ++ gs)).all (· ≤ reachBytes) = true := hsz0
  rw [Try.params8] at hA hval hsz
  obtain ⟨v0, vs0, d0, ds0, p0, q0, hargs, rfl, rfl, h0, r0⟩ := trodAll_cons hA
  obtain ⟨v1, vs1, d1, ds1, p1, q1, rfl, rfl, rfl, h1, r1⟩ := trodAll_cons r0
  obtain ⟨v2, vs2, d2, ds2, p2, q2, rfl, rfl, rfl, h2, r2⟩ := trodAll_cons r1
  obtain ⟨rfl, rfl, rfl⟩ := trodAll_nil r2
  obtain rfl : args = #[v0, v1, v2] := by cases args; simp_all
  obtain ⟨rfl, rfl⟩ := trodVars_none hV
  have k0 := h0
  have lt0 : ∀ x ∈ p0, x.block < W.heap.size := by obtain ⟨m, hm⟩ := k0; exact DataW.trod_lt m _ _ _ hm
  obtain ⟨x0, rfl, hx0⟩ := open_In (hval 0 28 v0 rfl rfl) h0
  obtain ⟨a1, len1, cap1, rfl⟩ := okWide_slice Try.underlying29 (hval 1 29 v1 rfl rfl)
  have k1 := h1
  have lt1 : ∀ x ∈ p1, x.block < W.heap.size := by obtain ⟨m, hm⟩ := k1; exact DataW.trod_lt m _ _ _ hm
  obtain ⟨g1, hl1, hx1, hg1⟩ : ∃ g : List Rul, g.length = len1 ∧ In W [] a1 (rulsC g) ∧ MIn g := by
    obtain ⟨fuel, hf⟩ := h1
    rcases open_recs (ks := [.i64, .u8, .i64, .i64, .i64]) Try.underlying29 Try.underlying157 (by kernel_rfl) (by kernel_rfl) hf with ⟨hcs, _⟩ | ⟨x, l, c, elems, rest, hcs, _, hl, hm, hd, he, hrest, hrec⟩
    · simp [Value.cells] at hcs
      obtain ⟨rfl, rfl, rfl⟩ := hcs
      exact ⟨[], rfl, .inl rfl, ⟨by simp, fun i h => absurd h (Nat.not_lt_zero i)⟩⟩
    · simp [Value.cells] at hcs
      obtain ⟨rfl, rfl, rfl⟩ := hcs
      simp only at hd
      subst hd
      have hs := sized_slice hsz (j := 1) (t := 29) (e := 157) rfl rfl Try.underlying29
      rw [show Try.prog.bytesOf 157 = 40 from by kernel_rfl, he, hrest rfl] at hs
      simp only [reachBytes] at hs
      obtain ⟨rows, r1, r2, r3⟩ := recs_in (by decide) hrec
      obtain ⟨g, e1, e2, e3⟩ := maks_of r2
      rw [e1] at r3
      exact ⟨g, by omega, r3, ⟨by omega, e3⟩⟩
  subst hl1
  obtain ⟨a2, len2, cap2, rfl⟩ := okWide_slice Try.underlying22 (hval 2 22 v2 rfl rfl)
  have k2 := h2
  have lt2 : ∀ x ∈ p2, x.block < W.heap.size := by obtain ⟨m, hm⟩ := k2; exact DataW.trod_lt m _ _ _ hm
  obtain ⟨z2, w2⟩ : ∃ zs, IsRow .i64 W a2 len2 cap2 zs := by
    obtain ⟨fuel, hf⟩ := h2
    rcases open_ints Try.underlying22 Try.underlying3 (by kernel_rfl) hf with ⟨hcs, _⟩ | ⟨x, l, c, zs, hcs, _, hl, hm, hz, hd, hcell, hwz⟩
    · simp [Value.cells] at hcs
      obtain ⟨rfl, rfl, rfl⟩ := hcs
      exact ⟨[], .inl ⟨rfl, rfl, rfl, rfl⟩⟩
    · simp [Value.cells] at hcs
      obtain ⟨rfl, rfl, rfl⟩ := hcs
      simp only [Prod.mk.injEq] at hd
      obtain ⟨rfl, _⟩ := hd
      have hs := sized_slice hsz (j := 2) (t := 22) (e := 3) rfl rfl Try.underlying22
      rw [show Try.prog.bytesOf 3 = 8 from by kernel_rfl] at hs
      simp only [lits, List.length_map, List.length_take, List.length_drop, reachBytes] at hs
      have hz' : zs.length = cap2 := by simpa using hz
      exact ⟨zs, .inr ⟨_, rfl, hl, by omega, hz', hcell, hwz⟩⟩
  obtain ⟨xs2, rfl, hx2, hm2, hw2⟩ := w2.get
  clear hA0 hval0 hsz0
  refine (law_TransferKeeps sortsI sortsN W x0 hx0 g1 hg1 a1 cap1 hx1 xs2 a2 cap2 (by omega) hx2 (fun z hz => wf_i64 (hw2 z hz))).mono fun e W' ⟨he, bel⟩ => ?_
  subst he
  exact ⟨_, rfl, _, _, _, [], _, [], hW', trodAll_mk1 (shut_bool Try.underlying4 _), (trodAll_cons_mk (Below.trod laidOut (by kernel_rfl) (of_decide_eq_true (by kernel_rfl)) k0 bel lt0) (trodAll_cons_mk (Below.trod laidOut (by kernel_rfl) (of_decide_eq_true (by kernel_rfl)) k1 bel lt1) (trodAll_cons_mk (Below.trod laidOut (by kernel_rfl) (of_decide_eq_true (by kernel_rfl)) k2 bel lt2) trodAll_mk0))), rfl, bel.frame _, fun h => by cases h⟩

theorem over : Rows.transferKeepsRow.holds Try.pinned (OpenSpec.ofChange Rows.transferKeepsSpec) :=
  OpenClaim.holds_of_wide 8 Try.f8 rfl rfl rfl rfl rfl rfl rfl ⟨rfl, rfl, rfl, rfl, rfl⟩ rfl rfl rfl rfl rfl (by kernel_rfl) Try.func8 (by kernel_rfl)
    (of_decide_eq_true (by kernel_rfl)) (by unfold Func.isWrapper; first | (rw [if_pos (by decide +kernel)]; kernel_rfl) | (rw [if_neg (by decide +kernel)]; exact ⟨rfl, rfl⟩))
    (fun os started H enc _ => lifted os started H enc)

/-- The statement. -/
theorem transferKeeps_holds : Rows.TransferKeepsSaid := over
end Go.Proofs.Ytoocnmfodhnpbaa.transferKeepsDone
namespace Go.Proofs.Ytoocnmfodhnpbaa
theorem transferKeeps_holds : Rows.TransferKeepsSaid := transferKeepsDone.over
#print axioms transferKeeps_holds
end Go.Proofs.Ytoocnmfodhnpbaa
