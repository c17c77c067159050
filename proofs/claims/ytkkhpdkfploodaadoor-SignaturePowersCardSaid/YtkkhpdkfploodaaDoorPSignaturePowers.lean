/-
  SignaturePowers: for every input the Go function returns true, and each argument reads as it did. No condition.
-/
import Derived.Test.YtkkhpdkfploodaaDoorRows
import Derived.Test.YtkkhpdkfploodaaDoorCards
import Derived.Test.YtkkhpdkfploodaaDoorTie
import Derived.SevenTiedAt
import Derived.Test.YtkkhpdkfploodaaDoorK2
import Derived.Test.YtkkhpdkfploodaaDoorK5
import Derived.Test.YtkkhpdkfploodaaDoorK17
namespace Go.Proofs.YtkkhpdkfploodaaDoor.signaturePowersDone
open Go.ChangeShapes Go.WideShapes Go.ChangeAt Go.RowKit Go.EG
open Go.ChangeMaps (open_string shut_string)
set_option linter.unusedVariables false

theorem own : ownKnob Tryd.prog.godebug = none := by kernel_rfl
theorem laidOut : laidOutB Tryd.prog = true := by kernel_rfl

set_option maxRecDepth 100000 in
theorem lifted (os : Os) (started : os.Started) (H : Type) (enc : TypeId × Value → H) :
    ReturnsInHanded {} Tryd.checked os 6 .any (fun w args => (Rows.signaturePowersSpec.pre enc Tryd.prog Tryd.f6 Rows.signaturePowersRow.domain false w args ∧ laidMetH Tryd.prog laidL w) ∧ sizedMet enc Tryd.prog Tryd.f6 (OpenSpec.ofChange Rows.signaturePowersSpec) false w args) (Rows.signaturePowersSpec.post enc Tryd.prog Tryd.f6 false true false false) := by
  refine returnsInHanded_of_change_and (C := Tryd.checked) (X := fun w _ => laidMetH Tryd.prog laidL w) (fun _ _ _ hh h => h.of_heap hh) own started (by kernel_rfl) Tryd.func6
    (ChangeSpec.witness_at (enc := enc) (C := Tryd.checked) (os := os) (X := fun w _ => laidMetH Tryd.prog laidL w) false (laidWorld os) #[.int .u8 0, .int .u8 0, .int .i64 0] 8 rfl (by kernel_rfl) (by kernel_rfl) (by kernel_rfl) (by kernel_rfl) (by kernel_rfl) (laidWorld_met os _)) ?_
  intro W base args ds gs before hval0 hW hcnd hsz0 hL _
  have hval : ∀ (j : Nat) t v, Tryd.f6.params[j]? = some t → args[j]? = some v → Value.okWide Tryd.prog W .any base t v := hval0
  have hW' := hW
  obtain ⟨p, q, hA0, hV, rfl, hfz, hnd⟩ := hW
  have hA : DataW.TrodAll enc Tryd.prog W 0 (fun _ => true) true Tryd.f6.params.toList args.toList ds p := hA0
  have hsz : (DataW.weightsEach Tryd.prog (Tryd.f6.params.toList ++ Rows.signaturePowersSpec.plain.varTypes Tryd.prog) (ds ++ gs)).all (· ≤ reachBytes) = true := hsz0
  rw [Tryd.params6] at hA hval hsz
  obtain ⟨v0, vs0, d0, ds0, p0, q0, hargs, rfl, rfl, h0, r0⟩ := trodAll_cons hA
  obtain ⟨v1, vs1, d1, ds1, p1, q1, rfl, rfl, rfl, h1, r1⟩ := trodAll_cons r0
  obtain ⟨v2, vs2, d2, ds2, p2, q2, rfl, rfl, rfl, h2, r2⟩ := trodAll_cons r1
  obtain ⟨rfl, rfl, rfl⟩ := trodAll_nil r2
  obtain rfl : args = #[v0, v1, v2] := by cases args; simp_all
  obtain ⟨rfl, rfl⟩ := trodVars_none hV
  obtain ⟨n0, rfl, rfl, rfl, hw0⟩ := open_int Tryd.underlying5 (hval 0 5 v0 rfl rfl) h0
  obtain ⟨n1, rfl, rfl, rfl, hw1⟩ := open_int Tryd.underlying5 (hval 1 5 v1 rfl rfl) h1
  obtain ⟨n2, rfl, rfl, rfl, hw2⟩ := open_int Tryd.underlying3 (hval 2 3 v2 rfl rfl) h2
  clear hA0 hval0 hsz0
  refine (law_SignaturePowersI W (tab_of_laid hL) n0 n1 n2 (wf_u8 hw0) (wf_u8 hw1) (wf_i64 hw2)).mono fun e W' ⟨he, bel⟩ => ?_
  subst he
  exact ⟨_, rfl, _, _, _, [], _, [], hW', trodAll_mk1 (shut_bool Tryd.underlying4 _), (trodAll_cons_mk (shut_int Tryd.underlying5 hw0) (trodAll_cons_mk (shut_int Tryd.underlying5 hw1) (trodAll_cons_mk (shut_int Tryd.underlying3 hw2) trodAll_mk0))), rfl, bel.frame _, fun h => by cases h⟩

theorem over : Rows.signaturePowersRow.holds Tryd.pinned (OpenSpec.ofChange Rows.signaturePowersSpec) :=
  OpenClaim.holds_of_wide 6 Tryd.f6 rfl rfl rfl rfl rfl rfl rfl ⟨rfl, rfl, rfl, rfl, rfl⟩ rfl rfl rfl rfl rfl (by kernel_rfl) Tryd.func6 (by kernel_rfl)
    (of_decide_eq_true (by kernel_rfl)) (by unfold Func.isWrapper; first | (rw [if_pos (by decide +kernel)]; kernel_rfl) | (rw [if_neg (by decide +kernel)]; exact ⟨rfl, rfl⟩))
    (fun os started H enc _ => lifted os started H enc)

/-- The statement. -/
theorem card : Rows.SignaturePowersCardSaid :=
  Claim7.holds_tied_plain_at .later [] [.data] true (true, "c8889713623b33634d594bbf351ad80158177d89ffb8d469d38cf55e78a10ccd") true
    over (fun _ h => by cases h) (by kernel_rfl) (fun _ h => by cases h) signaturePowers_row_tie rfl ⟨rfl, rfl⟩ (by kernel_rfl) rfl
    (fun f fn hf hfn => by
      obtain rfl : f = 6 := Option.some.inj ((show Tryd.prog.funcNamed Rows.signaturePowersRow.func = some 6 by kernel_rfl).symm.trans hf) |>.symm
      obtain rfl : fn = Tryd.f6 := (Option.some.inj (Tryd.func6.symm.trans hfn)).symm
      have hall : (Tryd.f6.params.all fun t => Tryd.prog.wantsStandIn t == false) = true := by kernel_rfl
      exact ⟨by kernel_rfl, fun j t ht => by
        have h2 : Tryd.prog.wantsStandIn t = false := by simpa using (Array.all_eq_true_iff_forall_mem.1 hall) t (Array.mem_of_getElem? ht)
        exact h2⟩)
    (by kernel_rfl)
end Go.Proofs.YtkkhpdkfploodaaDoor.signaturePowersDone
namespace Go.Proofs.YtkkhpdkfploodaaDoor
theorem signaturePowers_holds : Rows.SignaturePowersCardSaid := signaturePowersDone.card
#print axioms signaturePowers_holds
end Go.Proofs.YtkkhpdkfploodaaDoor
