/-
  KeysStores: for every input the Go function returns true, and each argument reads as it did. No condition.
-/
import Derived.Test.YticiljgbjdcmlaaDoorRows
import Derived.Test.YticiljgbjdcmlaaDoorCards
import Derived.Test.YticiljgbjdcmlaaDoorTie
import Derived.SevenTiedAt
import Derived.Test.YticiljgbjdcmlaaDoorFrame
import Derived.Test.YticiljgbjdcmlaaDoorSLaid
import Derived.Test.YticiljgbjdcmlaaDoorSFrame
import Derived.Test.YticiljgbjdcmlaaDoorL20S
namespace Go.Proofs.YticiljgbjdcmlaaDoor.keysStoresDone
open Go.ChangeShapes Go.WideShapes Go.ChangeAt Go.RowKit Go.EG
open Go.ChangeMaps (open_string shut_string)
set_option linter.unusedVariables false

theorem own : ownKnob Tryd.prog.godebug = none := by kernel_rfl
theorem laidOut : laidOutB Tryd.prog = true := by kernel_rfl

set_option maxRecDepth 100000 in
theorem lifted (os : Os) (started : os.Started) (H : Type) (enc : TypeId × Value → H) :
    ReturnsInHanded {} Tryd.checked os 3 .any (fun w args => (Rows.keysStoresSpec.pre enc Tryd.prog Tryd.f3 Rows.keysStoresRow.domain false w args ∧ laidMetH Tryd.prog laidL w) ∧ sizedMet enc Tryd.prog Tryd.f3 (OpenSpec.ofChange Rows.keysStoresSpec) false w args) (Rows.keysStoresSpec.post enc Tryd.prog Tryd.f3 false true false false) := by
  refine returnsInHanded_of_change_and (C := Tryd.checked) (X := fun w _ => laidMetH Tryd.prog laidL w) (fun _ _ _ hh h => h.of_heap hh) own started (by kernel_rfl) Tryd.func3
    (ChangeSpec.witness_at (enc := enc) (C := Tryd.checked) (os := os) (X := fun w _ => laidMetH Tryd.prog laidL w) false (laidWorld os) #[.slice none 0 0, .slice none 0 0] 8 rfl (by kernel_rfl) (by kernel_rfl) (by kernel_rfl) (by kernel_rfl) (by kernel_rfl) (laidWorld_met os _)) ?_
  intro W base args ds gs before hval0 hW hcnd hsz0 hL _
  have hval : ∀ (j : Nat) t v, Tryd.f3.params[j]? = some t → args[j]? = some v → Value.okWide Tryd.prog W .any base t v := hval0
  have hW' := hW
  obtain ⟨p, q, hA0, hV, rfl, hfz, hnd⟩ := hW
  have hA : DataW.TrodAll enc Tryd.prog W 0 (fun _ => true) true Tryd.f3.params.toList args.toList ds p := hA0
  have hsz : (DataW.weightsEach Tryd.prog (Tryd.f3.params.toList ++ Rows.keysStoresSpec.plain.varTypes Tryd.prog) (ds ++ gs)).all (· ≤ reachBytes) = true := hsz0
  rw [Tryd.params3] at hA hval hsz
  obtain ⟨v0, vs0, d0, ds0, p0, q0, hargs, rfl, rfl, h0, r0⟩ := trodAll_cons hA
  obtain ⟨v1, vs1, d1, ds1, p1, q1, rfl, rfl, rfl, h1, r1⟩ := trodAll_cons r0
  obtain ⟨rfl, rfl, rfl⟩ := trodAll_nil r1
  obtain rfl : args = #[v0, v1] := by cases args; simp_all
  obtain ⟨rfl, rfl⟩ := trodVars_none hV
  obtain ⟨a0, len0, cap0, rfl⟩ := okWide_slice Tryd.underlying22 (hval 0 22 v0 rfl rfl)
  have k0 := h0
  have lt0 : ∀ x ∈ p0, x.block < W.heap.size := by obtain ⟨m, hm⟩ := k0; exact DataW.trod_lt m _ _ _ hm
  obtain ⟨g0, hl0, hx0, hg0⟩ : ∃ g : List Rul, g.length = len0 ∧ In W [] a0 (rulsC g) ∧ GIn g := by
    obtain ⟨fuel, hf⟩ := h0
    rcases open_recs (ks := [.i64, .u8, .i64, .i64, .i64]) Tryd.underlying22 Tryd.underlying44 (by kernel_rfl) (by kernel_rfl) hf with ⟨hcs, _⟩ | ⟨x, l, c, elems, rest, hcs, _, hl, hm, hd, he, hrest, hrec⟩
    · simp [Value.cells] at hcs
      obtain ⟨rfl, rfl, rfl⟩ := hcs
      exact ⟨[], rfl, .inl rfl, ⟨by simp, fun i h => absurd h (Nat.not_lt_zero i), fun i h => absurd h (Nat.not_lt_zero i)⟩⟩
    · simp [Value.cells] at hcs
      obtain ⟨rfl, rfl, rfl⟩ := hcs
      simp only at hd
      subst hd
      have hs := sized_slice hsz (j := 0) (t := 22) (e := 44) rfl rfl Tryd.underlying22
      rw [show Tryd.prog.bytesOf 44 = 40 from by kernel_rfl, he, hrest rfl] at hs
      simp only [reachBytes] at hs
      obtain ⟨rows, r1, r2, r3⟩ := recs_in (by decide) hrec
      obtain ⟨g, e1, e2, e3, e4⟩ := ruls_of r2
      rw [e1] at r3
      exact ⟨g, by omega, r3, ⟨by omega, e3, e4⟩⟩
  subst hl0
  obtain ⟨a1, len1, cap1, rfl⟩ := okWide_slice Tryd.underlying22 (hval 1 22 v1 rfl rfl)
  have k1 := h1
  have lt1 : ∀ x ∈ p1, x.block < W.heap.size := by obtain ⟨m, hm⟩ := k1; exact DataW.trod_lt m _ _ _ hm
  obtain ⟨g1, hl1, hx1, hg1⟩ : ∃ g : List Rul, g.length = len1 ∧ In W [] a1 (rulsC g) ∧ GIn g := by
    obtain ⟨fuel, hf⟩ := h1
    rcases open_recs (ks := [.i64, .u8, .i64, .i64, .i64]) Tryd.underlying22 Tryd.underlying44 (by kernel_rfl) (by kernel_rfl) hf with ⟨hcs, _⟩ | ⟨x, l, c, elems, rest, hcs, _, hl, hm, hd, he, hrest, hrec⟩
    · simp [Value.cells] at hcs
      obtain ⟨rfl, rfl, rfl⟩ := hcs
      exact ⟨[], rfl, .inl rfl, ⟨by simp, fun i h => absurd h (Nat.not_lt_zero i), fun i h => absurd h (Nat.not_lt_zero i)⟩⟩
    · simp [Value.cells] at hcs
      obtain ⟨rfl, rfl, rfl⟩ := hcs
      simp only at hd
      subst hd
      have hs := sized_slice hsz (j := 1) (t := 22) (e := 44) rfl rfl Tryd.underlying22
      rw [show Tryd.prog.bytesOf 44 = 40 from by kernel_rfl, he, hrest rfl] at hs
      simp only [reachBytes] at hs
      obtain ⟨rows, r1, r2, r3⟩ := recs_in (by decide) hrec
      obtain ⟨g, e1, e2, e3, e4⟩ := ruls_of r2
      rw [e1] at r3
      exact ⟨g, by omega, r3, ⟨by omega, e3, e4⟩⟩
  subst hl1
  clear hA0 hval0 hsz0
  refine (law_KeysStores W (tab_of_laid hL) g0 g1 hg0 hg1 a0 a1 cap0 cap1 hx0 hx1).mono fun e W' ⟨he, bel⟩ => ?_
  subst he
  exact ⟨_, rfl, _, _, _, [], _, [], hW', trodAll_mk1 (shut_bool Tryd.underlying4 _), (trodAll_cons_mk (Below.trod laidOut (by kernel_rfl) (of_decide_eq_true (by kernel_rfl)) k0 bel lt0) (trodAll_cons_mk (Below.trod laidOut (by kernel_rfl) (of_decide_eq_true (by kernel_rfl)) k1 bel lt1) trodAll_mk0)), rfl, bel.frame _, fun h => by cases h⟩

theorem over : Rows.keysStoresRow.holds Tryd.pinned (OpenSpec.ofChange Rows.keysStoresSpec) :=
  OpenClaim.holds_of_wide 3 Tryd.f3 rfl rfl rfl rfl rfl rfl rfl ⟨rfl, rfl, rfl, rfl, rfl⟩ rfl rfl rfl rfl rfl (by kernel_rfl) Tryd.func3 (by kernel_rfl)
    (of_decide_eq_true (by kernel_rfl)) (by unfold Func.isWrapper; first | (rw [if_pos (by decide +kernel)]; kernel_rfl) | (rw [if_neg (by decide +kernel)]; exact ⟨rfl, rfl⟩))
    (fun os started H enc _ => lifted os started H enc)

/-- The statement. -/
theorem card : Rows.KeysStoresCardSaid :=
  Claim7.holds_tied_plain_at .later [] [.data] true (true, "5f065de523a391371c73cf6ec7222e8991586d7b132736e9a19d77d3cfae520d") true
    over (fun _ h => by cases h) (by kernel_rfl) (fun _ h => by cases h) keysStores_row_tie rfl ⟨rfl, rfl⟩ (by kernel_rfl) rfl
    (fun f fn hf hfn => by
      obtain rfl : f = 3 := Option.some.inj ((show Tryd.prog.funcNamed Rows.keysStoresRow.func = some 3 by kernel_rfl).symm.trans hf) |>.symm
      obtain rfl : fn = Tryd.f3 := (Option.some.inj (Tryd.func3.symm.trans hfn)).symm
      have hall : (Tryd.f3.params.all fun t => Tryd.prog.wantsStandIn t == false) = true := by kernel_rfl
      exact ⟨by kernel_rfl, fun j t ht => by
        have h2 : Tryd.prog.wantsStandIn t = false := by simpa using (Array.all_eq_true_iff_forall_mem.1 hall) t (Array.mem_of_getElem? ht)
        exact h2⟩)
    (by kernel_rfl)
end Go.Proofs.YticiljgbjdcmlaaDoor.keysStoresDone
namespace Go.Proofs.YticiljgbjdcmlaaDoor
theorem keysStores_holds : Rows.KeysStoresCardSaid := keysStoresDone.card
#print axioms keysStores_holds
end Go.Proofs.YticiljgbjdcmlaaDoor
