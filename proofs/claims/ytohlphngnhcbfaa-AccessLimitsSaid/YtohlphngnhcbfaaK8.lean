/- AccessLimits: the statement's program. -/
import Derived.Test.YtohlphngnhcbfaaK6
import Derived.Test.YtohlphngnhcbfaaK5
import Derived.Test.YtohlphngnhcbfaaK7
namespace Go.Proofs.Ytohlphngnhcbfaa
open Go.EG
attribute [local irreducible] CallK QCall Go.Calls
set_option linter.unusedSimpArgs false
set_option linter.unusedVariables false
set_option maxRecDepth 20000
set_option maxHeartbeats 4000000

theorem lim_begin (b : Nat) : SC fn_P_intern_Store_Letter #[pS b, .int .u8 97] b ⟨5, []⟩ sL1 (.tuple #[.int .i64 1, .nilIface]) := by
  have h := calls_Letter b ⟨5, []⟩ 97 (by decide) (by decide)
  rw [put1] at h
  exact h
theorem lim_power (b : Nat) : SC fn_P_intern_Store_Power #[pS b, .int .i64 1, .int .i64 1152921504606846976] b sL1 sL2 (.tuple #[.int .i64 2, .nilIface]) := by
  have h := calls_Power b sL1 wf1 1 1152921504606846976 (by decide)
  rw [pow2] at h
  exact h
theorem lim_At (b : Nat) (j : Int) (hj : ¬ known sL2 j) : SC fn_access_At #[pS b, .int .i64 j, .int .i64 0] b sL2 sL2 (.tuple #[.int .u8 0, errV 1]) := by
  have h := calls_At b sL2 wf2 j 0
  unfold atRes at h
  rw [if_neg (fun q => hj q.1)] at h
  exact h
theorem lim_Weight (b : Nat) (j : Int) (hj : ¬ known sL2 j) : SC fn_access_Weight #[pS b, .int .i64 j, .int .i64 0, .int .i64 0] b sL2 sL2 (.tuple #[wt0, errV 1]) := by
  have h := calls_AWeight b sL2 wf2 j 0 0
  unfold wgRes at h
  rw [if_neg (fun q => hj q.1)] at h
  exact h
theorem lim_text (i m : Nat) (h : i + m ≤ 1152921504606846976) : (sub (tm sL2.E 2).txt i m).length = m ∧ ∀ j, j < m → (sub (tm sL2.E 2).txt i m).getD j 0 = 97 := by
  rw [sub2 i m h]
  refine ⟨List.length_replicate, fun j hj => ?_⟩
  rw [List.getD_eq_getElem?_getD, List.getElem?_replicate, if_pos hj]
  rfl

/-- What is extracted is there. -/
def exQ (key b : Nat) (S : Sto) (T : List Nat) (v : Value) (L1 : List Ent) : Prop :=
  ∃ a c fp', a ≠ none ∧ v = .tuple #[.slice a T.length c, .nilIface] ∧ L1 = [packE key fp' (fS b S), .own 806 a T.length c ty_uint8 1 (byC T)]
theorem lim_Extract (b i m : Nat) (h : i + m ≤ 1152921504606846976) (hm : m ≤ 65536) (h0 : 0 < m) (key : Nat) (fp : List Nat) (w : World) (hR : StR w key fp b sL2) :
    Calls Try.prog fn_access_Extract #[pS b, .int .i64 2, .int .i64 i, .int .i64 m] w fun e w' => ∃ v L1, e = .returned v ∧ R w fp L1 w' ∧ exQ key b sL2 (sub (tm sL2.E 2).txt i m) v L1 :=
  (calls_Extract b sL2 wf2 2 i m known2 (by rw [len2]; exact h) hm key fp w hR).mono fun e w' ⟨v, L1, he, hR', a, c, fp', hv, hL⟩ => by
    subst hL
    exact ⟨v, _, he, hR', a, c, fp', own_ne hR'.tail (key := 806) rfl (by rw [(lim_text i m h).1]; exact h0), hv, rfl⟩

theorem law_AccessLimits (w : World) (k from_ n : Int) (hk : -9223372036854775808 ≤ k ∧ k ≤ 9223372036854775807) :
    Calls Try.prog fn_evergreenlaw16_AccessLimits #[.int .i64 k, .int .i64 from_, .int .i64 n] w fun e w' => e = .returned (.bool true) ∧ Ext w w' := by
  refine pure_call [.v (.int .i64 k), .v (.int .i64 from_), .v (.int .i64 n)] w ok_evergreenlaw16_AccessLimits (by simp) ?_
  have c0 := calls_awake16
  have cn := fun w => calls_New 5 77 w
  rw [show clipS 5 = 5 from rfl] at cn
  have cL := lim_begin
  have cP := lim_power
  obtain ⟨n5, qn, l5⟩ : ∃ n5 : Nat, n % 18446744073709551616 % 5 = (n5 : Int) ∧ n5 ≤ 4 := ⟨(n % 18446744073709551616 % 5).toNat, by omega, by omega⟩
  obtain ⟨i, qf, li⟩ : ∃ i : Nat, from_ % 18446744073709551616 % 1152921504606781431 = (i : Int) ∧ i < 1152921504606781431 := ⟨(from_ % 18446744073709551616 % 1152921504606781431).toNat, by omega, by omega⟩
  obtain ⟨k9, qk, l9⟩ : ∃ k9 : Nat, k % 18446744073709551616 % 9 = (k9 : Int) ∧ k9 ≤ 8 := ⟨(k % 18446744073709551616 % 9).toNat, by omega, by omega⟩
  have hm : (65534 : Int) + (n5 : Int) = ((65534 + n5 : Nat) : Int) := by omega
  have hm1 : ((65534 + n5 : Nat) : Int) - 1 = ((65533 + n5 : Nat) : Int) := by omega
  have h3 : (3 : Int) + (k9 : Int) = ((3 + k9 : Nat) : Int) := by omega
  have hnk : ∀ j : Int, j < 0 ∨ 3 ≤ j → ¬ known sL2 j := fun j hj h => by
    have h1 := h.1
    have h2 : j ≤ 2 := h.2
    omega
  have p1 := fun b j hj => lim_At b j (hnk j hj)
  have p2 := fun b j hj => calls_ExtractUnk b sL2 wf2 j 0 0 (hnk j hj)
  have p3 := fun b j hj => lim_Weight b j (hnk j hj)
  have p4 := fun b j hj => calls_PathUnk b sL2 wf2 j 0 (hnk j hj)
  have p5 := fun b j hj => calls_FindUnk b sL2 wf2 j 97 0 (hnk j hj)
  have p6 := fun b j hj => calls_CountUnk b sL2 wf2 j 0 0 0 0 0 0 (hnk j hj)
  have i1 := calls_Is 1 1 (by decide)
  have i5 := calls_Is 5 5 (by decide)
  have i9 := calls_Is 9 9 (by decide)
  by_cases hs : n5 ≤ 2
  · have cE := fun b key fp w h => lim_Extract b i (65534 + n5) (by omega) (by omega) (by omega) key fp w h
    obtain ⟨t1, t2⟩ := lim_text i (65534 + n5) (by omega)
    unfold exQ at cE
    generalize sub (tm sL2.E 2).txt i (65534 + n5) = T at *
    have r0 := byC_at (t := T) (i := 0) (by omega)
    have r1 := byC_at (t := T) (i := 65533 + n5) (by omega)
    rw [t2 _ (by omega)] at r0 r1
    rw [t1] at cE
    generalize sL2 = SS at *
    generalize sL1 = S1 at *
    by_cases hneg : k < 0
    · have hq : k < 0 ∨ 3 ≤ k := .inl hneg
      by_cases he : k.tmod 2 = 0
      · have y1 := calls_AtNil k 0
        have y2 := calls_ExtractNil k 0 0
        have y3 := calls_AWeightNil k 0 0
        have y4 := calls_PathNil k 0
        have y5 := calls_FindNil k 97 0
        have y6 := calls_CountNil k 0 0 0 0 0 0
        (repeat' ((conv => whnf); first | rw [qn] | rw [qf] | rw [qk] | rw [hm] | rw [hm1] | rw [h3] | rw [Int.toNat_natCast] | rw [Nat.mul_one] | (first | refine CallK_pure (.v _) (fun w hR => c0 w) ?_ | refine QCall_pure (.v _) (fun w hR => c0 w) ?_) | (refine CallK_new (fun w hR => cn w) ?_; rintro _ _ ⟨bn, fpn, rfl, rfl⟩; refine ⟨.v _, rfl, ?_⟩) | (refine CallK_pack (key := 77) rfl (fun w hR h0 => cL _ _ _ _ h0) ?_; rintro _ _ ⟨rfl, fp', rfl⟩; refine ⟨.v _, rfl, ?_⟩) | (refine CallK_pack (key := 77) rfl (fun w hR h0 => cP _ _ _ _ h0) ?_; rintro _ _ ⟨rfl, fp', rfl⟩; refine ⟨.v _, rfl, ?_⟩) | (refine CallK_pack (key := 77) rfl (fun w hR h0 => cE _ _ _ _ h0) ?_; rintro _ _ ⟨a6, k6, fp', ha6, rfl, rfl⟩; refine ⟨.v _, rfl, ?_⟩) | refine ⟨_, rdO 806 rfl r0, ?_⟩ | refine ⟨_, rdO 806 rfl r1, ?_⟩ | (first | refine CallK_pure (.v _) (fun w hR => y1 w) ?_ | refine QCall_pure (.v _) (fun w hR => y1 w) ?_) | (first | refine CallK_pure (.v _) (fun w hR => y2 w) ?_ | refine QCall_pure (.v _) (fun w hR => y2 w) ?_) | (first | refine CallK_pure (.v _) (fun w hR => y3 w) ?_ | refine QCall_pure (.v _) (fun w hR => y3 w) ?_) | (first | refine CallK_pure (.v _) (fun w hR => y4 w) ?_ | refine QCall_pure (.v _) (fun w hR => y4 w) ?_) | (first | refine CallK_pure (.v _) (fun w hR => y5 w) ?_ | refine QCall_pure (.v _) (fun w hR => y5 w) ?_) | (first | refine CallK_pure (.v _) (fun w hR => y6 w) ?_ | refine QCall_pure (.v _) (fun w hR => y6 w) ?_) | (first | refine CallK_pure (.v _) (fun w hR => i5 w) ?_ | refine QCall_pure (.v _) (fun w hR => i5 w) ?_) | (refine bcase_prop (fun h => ?_) (fun h => ?_) <;> try (exfalso; omega)) | (refine bcase_nprop (fun h => ?_) (fun h => ?_) <;> try (exfalso; omega)) | (refine bcase_intro (fun h => ?_) (fun h => ?_) <;> (try simp only [Bool.not_eq_true', Bool.not_eq_false', decide_eq_true_eq, decide_eq_false_iff_not, Bool.not_eq_true, Bool.not_eq_false, Decidable.not_not] at h)) | refine And.intro (by first | omega | exact rfl | assumption | exact ⟨rfl, rfl, rfl, rfl, rfl⟩ | exact ⟨rfl, rfl, rfl, rfl⟩ | exact ⟨rfl, by omega⟩ | exact oneAll_of rfl | exact ⟨rfl, oneAll_of rfl⟩ | exact Ref.refl _ | exact Thin.ref (.skip (Thin.refl _)) | exact Thin.ref (.skip (.skip (Thin.refl _))) | exact ha6 | exact ⟨rfl, Nat.le_of_ble_eq_true rfl⟩ | ((try unfold maxLen); (try simp only [List.length_nil, List.length_cons, List.length_append]); omega) | (refine ⟨rfl, ?_⟩; (try simp only [List.length_nil, List.length_cons, List.length_append]); omega)) ?_ | intro _)); (all_goals (conv => whnf))
        all_goals first | (exfalso; omega) | exact ⟨rfl⟩ | exact absurd ‹k.tmod 2 = 0› he | exact absurd he ‹¬ k.tmod 2 = 0›
      · have y1 := fun b => p1 b k hq
        have y2 := fun b => p2 b k hq
        have y3 := fun b => p3 b k hq
        have y4 := fun b => p4 b k hq
        have y5 := fun b => p5 b k hq
        have y6 := fun b => p6 b k hq
        (repeat' ((conv => whnf); first | rw [qn] | rw [qf] | rw [qk] | rw [hm] | rw [hm1] | rw [h3] | rw [Int.toNat_natCast] | rw [Nat.mul_one] | (first | refine CallK_pure (.v _) (fun w hR => c0 w) ?_ | refine QCall_pure (.v _) (fun w hR => c0 w) ?_) | (refine CallK_new (fun w hR => cn w) ?_; rintro _ _ ⟨bn, fpn, rfl, rfl⟩; refine ⟨.v _, rfl, ?_⟩) | (refine CallK_pack (key := 77) rfl (fun w hR h0 => cL _ _ _ _ h0) ?_; rintro _ _ ⟨rfl, fp', rfl⟩; refine ⟨.v _, rfl, ?_⟩) | (refine CallK_pack (key := 77) rfl (fun w hR h0 => cP _ _ _ _ h0) ?_; rintro _ _ ⟨rfl, fp', rfl⟩; refine ⟨.v _, rfl, ?_⟩) | (refine CallK_pack (key := 77) rfl (fun w hR h0 => cE _ _ _ _ h0) ?_; rintro _ _ ⟨a6, k6, fp', ha6, rfl, rfl⟩; refine ⟨.v _, rfl, ?_⟩) | refine ⟨_, rdO 806 rfl r0, ?_⟩ | refine ⟨_, rdO 806 rfl r1, ?_⟩ | (refine CallK_pack (key := 77) rfl (fun w hR h0 => y1 _ _ _ _ h0) ?_; rintro _ _ ⟨rfl, fp', rfl⟩; refine ⟨.v _, rfl, ?_⟩) | (refine CallK_pack (key := 77) rfl (fun w hR h0 => y2 _ _ _ _ h0) ?_; rintro _ _ ⟨rfl, fp', rfl⟩; refine ⟨.v _, rfl, ?_⟩) | (refine CallK_pack (key := 77) rfl (fun w hR h0 => y3 _ _ _ _ h0) ?_; rintro _ _ ⟨rfl, fp', rfl⟩; refine ⟨.v _, rfl, ?_⟩) | (refine CallK_pack (key := 77) rfl (fun w hR h0 => y4 _ _ _ _ h0) ?_; rintro _ _ ⟨rfl, fp', rfl⟩; refine ⟨.v _, rfl, ?_⟩) | (refine CallK_pack (key := 77) rfl (fun w hR h0 => y5 _ _ _ _ h0) ?_; rintro _ _ ⟨rfl, fp', rfl⟩; refine ⟨.v _, rfl, ?_⟩) | (refine CallK_pack (key := 77) rfl (fun w hR h0 => y6 _ _ _ _ h0) ?_; rintro _ _ ⟨rfl, fp', rfl⟩; refine ⟨.v _, rfl, ?_⟩) | (first | refine CallK_pure (.v _) (fun w hR => i1 w) ?_ | refine QCall_pure (.v _) (fun w hR => i1 w) ?_) | (refine bcase_prop (fun h => ?_) (fun h => ?_) <;> try (exfalso; omega)) | (refine bcase_nprop (fun h => ?_) (fun h => ?_) <;> try (exfalso; omega)) | (refine bcase_intro (fun h => ?_) (fun h => ?_) <;> (try simp only [Bool.not_eq_true', Bool.not_eq_false', decide_eq_true_eq, decide_eq_false_iff_not, Bool.not_eq_true, Bool.not_eq_false, Decidable.not_not] at h)) | refine And.intro (by first | omega | exact rfl | assumption | exact ⟨rfl, rfl, rfl, rfl, rfl⟩ | exact ⟨rfl, rfl, rfl, rfl⟩ | exact ⟨rfl, by omega⟩ | exact oneAll_of rfl | exact ⟨rfl, oneAll_of rfl⟩ | exact Ref.refl _ | exact Thin.ref (.skip (Thin.refl _)) | exact Thin.ref (.skip (.skip (Thin.refl _))) | exact ha6 | exact ⟨rfl, Nat.le_of_ble_eq_true rfl⟩ | ((try unfold maxLen); (try simp only [List.length_nil, List.length_cons, List.length_append]); omega) | (refine ⟨rfl, ?_⟩; (try simp only [List.length_nil, List.length_cons, List.length_append]); omega)) ?_ | intro _)); (all_goals (conv => whnf))
        all_goals first | (exfalso; omega) | exact ⟨rfl⟩ | exact absurd ‹k.tmod 2 = 0› he | exact absurd he ‹¬ k.tmod 2 = 0›
    · have hq : ((3 + k9 : Nat) : Int) < 0 ∨ 3 ≤ ((3 + k9 : Nat) : Int) := .inr (by omega)
      by_cases he : k.tmod 2 = 0
      · have y1 := calls_AtNil ((3 + k9 : Nat) : Int) 0
        have y2 := calls_ExtractNil ((3 + k9 : Nat) : Int) 0 0
        have y3 := calls_AWeightNil ((3 + k9 : Nat) : Int) 0 0
        have y4 := calls_PathNil ((3 + k9 : Nat) : Int) 0
        have y5 := calls_FindNil ((3 + k9 : Nat) : Int) 97 0
        have y6 := calls_CountNil ((3 + k9 : Nat) : Int) 0 0 0 0 0 0
        (repeat' ((conv => whnf); first | rw [qn] | rw [qf] | rw [qk] | rw [hm] | rw [hm1] | rw [h3] | rw [Int.toNat_natCast] | rw [Nat.mul_one] | (first | refine CallK_pure (.v _) (fun w hR => c0 w) ?_ | refine QCall_pure (.v _) (fun w hR => c0 w) ?_) | (refine CallK_new (fun w hR => cn w) ?_; rintro _ _ ⟨bn, fpn, rfl, rfl⟩; refine ⟨.v _, rfl, ?_⟩) | (refine CallK_pack (key := 77) rfl (fun w hR h0 => cL _ _ _ _ h0) ?_; rintro _ _ ⟨rfl, fp', rfl⟩; refine ⟨.v _, rfl, ?_⟩) | (refine CallK_pack (key := 77) rfl (fun w hR h0 => cP _ _ _ _ h0) ?_; rintro _ _ ⟨rfl, fp', rfl⟩; refine ⟨.v _, rfl, ?_⟩) | (refine CallK_pack (key := 77) rfl (fun w hR h0 => cE _ _ _ _ h0) ?_; rintro _ _ ⟨a6, k6, fp', ha6, rfl, rfl⟩; refine ⟨.v _, rfl, ?_⟩) | refine ⟨_, rdO 806 rfl r0, ?_⟩ | refine ⟨_, rdO 806 rfl r1, ?_⟩ | (first | refine CallK_pure (.v _) (fun w hR => y1 w) ?_ | refine QCall_pure (.v _) (fun w hR => y1 w) ?_) | (first | refine CallK_pure (.v _) (fun w hR => y2 w) ?_ | refine QCall_pure (.v _) (fun w hR => y2 w) ?_) | (first | refine CallK_pure (.v _) (fun w hR => y3 w) ?_ | refine QCall_pure (.v _) (fun w hR => y3 w) ?_) | (first | refine CallK_pure (.v _) (fun w hR => y4 w) ?_ | refine QCall_pure (.v _) (fun w hR => y4 w) ?_) | (first | refine CallK_pure (.v _) (fun w hR => y5 w) ?_ | refine QCall_pure (.v _) (fun w hR => y5 w) ?_) | (first | refine CallK_pure (.v _) (fun w hR => y6 w) ?_ | refine QCall_pure (.v _) (fun w hR => y6 w) ?_) | (first | refine CallK_pure (.v _) (fun w hR => i5 w) ?_ | refine QCall_pure (.v _) (fun w hR => i5 w) ?_) | (refine bcase_prop (fun h => ?_) (fun h => ?_) <;> try (exfalso; omega)) | (refine bcase_nprop (fun h => ?_) (fun h => ?_) <;> try (exfalso; omega)) | (refine bcase_intro (fun h => ?_) (fun h => ?_) <;> (try simp only [Bool.not_eq_true', Bool.not_eq_false', decide_eq_true_eq, decide_eq_false_iff_not, Bool.not_eq_true, Bool.not_eq_false, Decidable.not_not] at h)) | refine And.intro (by first | omega | exact rfl | assumption | exact ⟨rfl, rfl, rfl, rfl, rfl⟩ | exact ⟨rfl, rfl, rfl, rfl⟩ | exact ⟨rfl, by omega⟩ | exact oneAll_of rfl | exact ⟨rfl, oneAll_of rfl⟩ | exact Ref.refl _ | exact Thin.ref (.skip (Thin.refl _)) | exact Thin.ref (.skip (.skip (Thin.refl _))) | exact ha6 | exact ⟨rfl, Nat.le_of_ble_eq_true rfl⟩ | ((try unfold maxLen); (try simp only [List.length_nil, List.length_cons, List.length_append]); omega) | (refine ⟨rfl, ?_⟩; (try simp only [List.length_nil, List.length_cons, List.length_append]); omega)) ?_ | intro _)); (all_goals (conv => whnf))
        all_goals first | (exfalso; omega) | exact ⟨rfl⟩ | exact absurd ‹k.tmod 2 = 0› he | exact absurd he ‹¬ k.tmod 2 = 0›
      · have y1 := fun b => p1 b ((3 + k9 : Nat) : Int) hq
        have y2 := fun b => p2 b ((3 + k9 : Nat) : Int) hq
        have y3 := fun b => p3 b ((3 + k9 : Nat) : Int) hq
        have y4 := fun b => p4 b ((3 + k9 : Nat) : Int) hq
        have y5 := fun b => p5 b ((3 + k9 : Nat) : Int) hq
        have y6 := fun b => p6 b ((3 + k9 : Nat) : Int) hq
        (repeat' ((conv => whnf); first | rw [qn] | rw [qf] | rw [qk] | rw [hm] | rw [hm1] | rw [h3] | rw [Int.toNat_natCast] | rw [Nat.mul_one] | (first | refine CallK_pure (.v _) (fun w hR => c0 w) ?_ | refine QCall_pure (.v _) (fun w hR => c0 w) ?_) | (refine CallK_new (fun w hR => cn w) ?_; rintro _ _ ⟨bn, fpn, rfl, rfl⟩; refine ⟨.v _, rfl, ?_⟩) | (refine CallK_pack (key := 77) rfl (fun w hR h0 => cL _ _ _ _ h0) ?_; rintro _ _ ⟨rfl, fp', rfl⟩; refine ⟨.v _, rfl, ?_⟩) | (refine CallK_pack (key := 77) rfl (fun w hR h0 => cP _ _ _ _ h0) ?_; rintro _ _ ⟨rfl, fp', rfl⟩; refine ⟨.v _, rfl, ?_⟩) | (refine CallK_pack (key := 77) rfl (fun w hR h0 => cE _ _ _ _ h0) ?_; rintro _ _ ⟨a6, k6, fp', ha6, rfl, rfl⟩; refine ⟨.v _, rfl, ?_⟩) | refine ⟨_, rdO 806 rfl r0, ?_⟩ | refine ⟨_, rdO 806 rfl r1, ?_⟩ | (refine CallK_pack (key := 77) rfl (fun w hR h0 => y1 _ _ _ _ h0) ?_; rintro _ _ ⟨rfl, fp', rfl⟩; refine ⟨.v _, rfl, ?_⟩) | (refine CallK_pack (key := 77) rfl (fun w hR h0 => y2 _ _ _ _ h0) ?_; rintro _ _ ⟨rfl, fp', rfl⟩; refine ⟨.v _, rfl, ?_⟩) | (refine CallK_pack (key := 77) rfl (fun w hR h0 => y3 _ _ _ _ h0) ?_; rintro _ _ ⟨rfl, fp', rfl⟩; refine ⟨.v _, rfl, ?_⟩) | (refine CallK_pack (key := 77) rfl (fun w hR h0 => y4 _ _ _ _ h0) ?_; rintro _ _ ⟨rfl, fp', rfl⟩; refine ⟨.v _, rfl, ?_⟩) | (refine CallK_pack (key := 77) rfl (fun w hR h0 => y5 _ _ _ _ h0) ?_; rintro _ _ ⟨rfl, fp', rfl⟩; refine ⟨.v _, rfl, ?_⟩) | (refine CallK_pack (key := 77) rfl (fun w hR h0 => y6 _ _ _ _ h0) ?_; rintro _ _ ⟨rfl, fp', rfl⟩; refine ⟨.v _, rfl, ?_⟩) | (first | refine CallK_pure (.v _) (fun w hR => i1 w) ?_ | refine QCall_pure (.v _) (fun w hR => i1 w) ?_) | (refine bcase_prop (fun h => ?_) (fun h => ?_) <;> try (exfalso; omega)) | (refine bcase_nprop (fun h => ?_) (fun h => ?_) <;> try (exfalso; omega)) | (refine bcase_intro (fun h => ?_) (fun h => ?_) <;> (try simp only [Bool.not_eq_true', Bool.not_eq_false', decide_eq_true_eq, decide_eq_false_iff_not, Bool.not_eq_true, Bool.not_eq_false, Decidable.not_not] at h)) | refine And.intro (by first | omega | exact rfl | assumption | exact ⟨rfl, rfl, rfl, rfl, rfl⟩ | exact ⟨rfl, rfl, rfl, rfl⟩ | exact ⟨rfl, by omega⟩ | exact oneAll_of rfl | exact ⟨rfl, oneAll_of rfl⟩ | exact Ref.refl _ | exact Thin.ref (.skip (Thin.refl _)) | exact Thin.ref (.skip (.skip (Thin.refl _))) | exact ha6 | exact ⟨rfl, Nat.le_of_ble_eq_true rfl⟩ | ((try unfold maxLen); (try simp only [List.length_nil, List.length_cons, List.length_append]); omega) | (refine ⟨rfl, ?_⟩; (try simp only [List.length_nil, List.length_cons, List.length_append]); omega)) ?_ | intro _)); (all_goals (conv => whnf))
        all_goals first | (exfalso; omega) | exact ⟨rfl⟩ | exact absurd ‹k.tmod 2 = 0› he | exact absurd he ‹¬ k.tmod 2 = 0›
  · have cE := fun b => calls_ExtractLarge b sL2 wf2 2 i (65534 + n5) known2 (by rw [len2]; omega) (by omega)
    generalize sL2 = SS at *
    generalize sL1 = S1 at *
    by_cases hneg : k < 0
    · have hq : k < 0 ∨ 3 ≤ k := .inl hneg
      by_cases he : k.tmod 2 = 0
      · have y1 := calls_AtNil k 0
        have y2 := calls_ExtractNil k 0 0
        have y3 := calls_AWeightNil k 0 0
        have y4 := calls_PathNil k 0
        have y5 := calls_FindNil k 97 0
        have y6 := calls_CountNil k 0 0 0 0 0 0
        (repeat' ((conv => whnf); first | rw [qn] | rw [qf] | rw [qk] | rw [hm] | rw [hm1] | rw [h3] | rw [Int.toNat_natCast] | rw [Nat.mul_one] | (first | refine CallK_pure (.v _) (fun w hR => c0 w) ?_ | refine QCall_pure (.v _) (fun w hR => c0 w) ?_) | (refine CallK_new (fun w hR => cn w) ?_; rintro _ _ ⟨bn, fpn, rfl, rfl⟩; refine ⟨.v _, rfl, ?_⟩) | (refine CallK_pack (key := 77) rfl (fun w hR h0 => cL _ _ _ _ h0) ?_; rintro _ _ ⟨rfl, fp', rfl⟩; refine ⟨.v _, rfl, ?_⟩) | (refine CallK_pack (key := 77) rfl (fun w hR h0 => cP _ _ _ _ h0) ?_; rintro _ _ ⟨rfl, fp', rfl⟩; refine ⟨.v _, rfl, ?_⟩) | (refine CallK_pack (key := 77) rfl (fun w hR h0 => cE _ _ _ _ h0) ?_; rintro _ _ ⟨rfl, fp', rfl⟩; refine ⟨.v _, rfl, ?_⟩) | (first | refine CallK_pure (.v _) (fun w hR => i9 w) ?_ | refine QCall_pure (.v _) (fun w hR => i9 w) ?_) | (first | refine CallK_pure (.v _) (fun w hR => y1 w) ?_ | refine QCall_pure (.v _) (fun w hR => y1 w) ?_) | (first | refine CallK_pure (.v _) (fun w hR => y2 w) ?_ | refine QCall_pure (.v _) (fun w hR => y2 w) ?_) | (first | refine CallK_pure (.v _) (fun w hR => y3 w) ?_ | refine QCall_pure (.v _) (fun w hR => y3 w) ?_) | (first | refine CallK_pure (.v _) (fun w hR => y4 w) ?_ | refine QCall_pure (.v _) (fun w hR => y4 w) ?_) | (first | refine CallK_pure (.v _) (fun w hR => y5 w) ?_ | refine QCall_pure (.v _) (fun w hR => y5 w) ?_) | (first | refine CallK_pure (.v _) (fun w hR => y6 w) ?_ | refine QCall_pure (.v _) (fun w hR => y6 w) ?_) | (first | refine CallK_pure (.v _) (fun w hR => i5 w) ?_ | refine QCall_pure (.v _) (fun w hR => i5 w) ?_) | (refine bcase_prop (fun h => ?_) (fun h => ?_) <;> try (exfalso; omega)) | (refine bcase_nprop (fun h => ?_) (fun h => ?_) <;> try (exfalso; omega)) | (refine bcase_intro (fun h => ?_) (fun h => ?_) <;> (try simp only [Bool.not_eq_true', Bool.not_eq_false', decide_eq_true_eq, decide_eq_false_iff_not, Bool.not_eq_true, Bool.not_eq_false, Decidable.not_not] at h)) | refine And.intro (by first | omega | exact rfl | assumption | exact ⟨rfl, rfl, rfl, rfl, rfl⟩ | exact ⟨rfl, rfl, rfl, rfl⟩ | exact ⟨rfl, by omega⟩ | exact oneAll_of rfl | exact ⟨rfl, oneAll_of rfl⟩ | exact Ref.refl _ | exact Thin.ref (.skip (Thin.refl _)) | exact Thin.ref (.skip (.skip (Thin.refl _))) | exact ⟨rfl, Nat.le_of_ble_eq_true rfl⟩ | ((try unfold maxLen); (try simp only [List.length_nil, List.length_cons, List.length_append]); omega) | (refine ⟨rfl, ?_⟩; (try simp only [List.length_nil, List.length_cons, List.length_append]); omega)) ?_ | intro _)); (all_goals (conv => whnf))
        all_goals first | (exfalso; omega) | exact ⟨rfl⟩ | exact absurd ‹k.tmod 2 = 0› he | exact absurd he ‹¬ k.tmod 2 = 0›
      · have y1 := fun b => p1 b k hq
        have y2 := fun b => p2 b k hq
        have y3 := fun b => p3 b k hq
        have y4 := fun b => p4 b k hq
        have y5 := fun b => p5 b k hq
        have y6 := fun b => p6 b k hq
        (repeat' ((conv => whnf); first | rw [qn] | rw [qf] | rw [qk] | rw [hm] | rw [hm1] | rw [h3] | rw [Int.toNat_natCast] | rw [Nat.mul_one] | (first | refine CallK_pure (.v _) (fun w hR => c0 w) ?_ | refine QCall_pure (.v _) (fun w hR => c0 w) ?_) | (refine CallK_new (fun w hR => cn w) ?_; rintro _ _ ⟨bn, fpn, rfl, rfl⟩; refine ⟨.v _, rfl, ?_⟩) | (refine CallK_pack (key := 77) rfl (fun w hR h0 => cL _ _ _ _ h0) ?_; rintro _ _ ⟨rfl, fp', rfl⟩; refine ⟨.v _, rfl, ?_⟩) | (refine CallK_pack (key := 77) rfl (fun w hR h0 => cP _ _ _ _ h0) ?_; rintro _ _ ⟨rfl, fp', rfl⟩; refine ⟨.v _, rfl, ?_⟩) | (refine CallK_pack (key := 77) rfl (fun w hR h0 => cE _ _ _ _ h0) ?_; rintro _ _ ⟨rfl, fp', rfl⟩; refine ⟨.v _, rfl, ?_⟩) | (first | refine CallK_pure (.v _) (fun w hR => i9 w) ?_ | refine QCall_pure (.v _) (fun w hR => i9 w) ?_) | (refine CallK_pack (key := 77) rfl (fun w hR h0 => y1 _ _ _ _ h0) ?_; rintro _ _ ⟨rfl, fp', rfl⟩; refine ⟨.v _, rfl, ?_⟩) | (refine CallK_pack (key := 77) rfl (fun w hR h0 => y2 _ _ _ _ h0) ?_; rintro _ _ ⟨rfl, fp', rfl⟩; refine ⟨.v _, rfl, ?_⟩) | (refine CallK_pack (key := 77) rfl (fun w hR h0 => y3 _ _ _ _ h0) ?_; rintro _ _ ⟨rfl, fp', rfl⟩; refine ⟨.v _, rfl, ?_⟩) | (refine CallK_pack (key := 77) rfl (fun w hR h0 => y4 _ _ _ _ h0) ?_; rintro _ _ ⟨rfl, fp', rfl⟩; refine ⟨.v _, rfl, ?_⟩) | (refine CallK_pack (key := 77) rfl (fun w hR h0 => y5 _ _ _ _ h0) ?_; rintro _ _ ⟨rfl, fp', rfl⟩; refine ⟨.v _, rfl, ?_⟩) | (refine CallK_pack (key := 77) rfl (fun w hR h0 => y6 _ _ _ _ h0) ?_; rintro _ _ ⟨rfl, fp', rfl⟩; refine ⟨.v _, rfl, ?_⟩) | (first | refine CallK_pure (.v _) (fun w hR => i1 w) ?_ | refine QCall_pure (.v _) (fun w hR => i1 w) ?_) | (refine bcase_prop (fun h => ?_) (fun h => ?_) <;> try (exfalso; omega)) | (refine bcase_nprop (fun h => ?_) (fun h => ?_) <;> try (exfalso; omega)) | (refine bcase_intro (fun h => ?_) (fun h => ?_) <;> (try simp only [Bool.not_eq_true', Bool.not_eq_false', decide_eq_true_eq, decide_eq_false_iff_not, Bool.not_eq_true, Bool.not_eq_false, Decidable.not_not] at h)) | refine And.intro (by first | omega | exact rfl | assumption | exact ⟨rfl, rfl, rfl, rfl, rfl⟩ | exact ⟨rfl, rfl, rfl, rfl⟩ | exact ⟨rfl, by omega⟩ | exact oneAll_of rfl | exact ⟨rfl, oneAll_of rfl⟩ | exact Ref.refl _ | exact Thin.ref (.skip (Thin.refl _)) | exact Thin.ref (.skip (.skip (Thin.refl _))) | exact ⟨rfl, Nat.le_of_ble_eq_true rfl⟩ | ((try unfold maxLen); (try simp only [List.length_nil, List.length_cons, List.length_append]); omega) | (refine ⟨rfl, ?_⟩; (try simp only [List.length_nil, List.length_cons, List.length_append]); omega)) ?_ | intro _)); (all_goals (conv => whnf))
        all_goals first | (exfalso; omega) | exact ⟨rfl⟩ | exact absurd ‹k.tmod 2 = 0› he | exact absurd he ‹¬ k.tmod 2 = 0›
    · have hq : ((3 + k9 : Nat) : Int) < 0 ∨ 3 ≤ ((3 + k9 : Nat) : Int) := .inr (by omega)
      by_cases he : k.tmod 2 = 0
      · have y1 := calls_AtNil ((3 + k9 : Nat) : Int) 0
        have y2 := calls_ExtractNil ((3 + k9 : Nat) : Int) 0 0
        have y3 := calls_AWeightNil ((3 + k9 : Nat) : Int) 0 0
        have y4 := calls_PathNil ((3 + k9 : Nat) : Int) 0
        have y5 := calls_FindNil ((3 + k9 : Nat) : Int) 97 0
        have y6 := calls_CountNil ((3 + k9 : Nat) : Int) 0 0 0 0 0 0
        (repeat' ((conv => whnf); first | rw [qn] | rw [qf] | rw [qk] | rw [hm] | rw [hm1] | rw [h3] | rw [Int.toNat_natCast] | rw [Nat.mul_one] | (first | refine CallK_pure (.v _) (fun w hR => c0 w) ?_ | refine QCall_pure (.v _) (fun w hR => c0 w) ?_) | (refine CallK_new (fun w hR => cn w) ?_; rintro _ _ ⟨bn, fpn, rfl, rfl⟩; refine ⟨.v _, rfl, ?_⟩) | (refine CallK_pack (key := 77) rfl (fun w hR h0 => cL _ _ _ _ h0) ?_; rintro _ _ ⟨rfl, fp', rfl⟩; refine ⟨.v _, rfl, ?_⟩) | (refine CallK_pack (key := 77) rfl (fun w hR h0 => cP _ _ _ _ h0) ?_; rintro _ _ ⟨rfl, fp', rfl⟩; refine ⟨.v _, rfl, ?_⟩) | (refine CallK_pack (key := 77) rfl (fun w hR h0 => cE _ _ _ _ h0) ?_; rintro _ _ ⟨rfl, fp', rfl⟩; refine ⟨.v _, rfl, ?_⟩) | (first | refine CallK_pure (.v _) (fun w hR => i9 w) ?_ | refine QCall_pure (.v _) (fun w hR => i9 w) ?_) | (first | refine CallK_pure (.v _) (fun w hR => y1 w) ?_ | refine QCall_pure (.v _) (fun w hR => y1 w) ?_) | (first | refine CallK_pure (.v _) (fun w hR => y2 w) ?_ | refine QCall_pure (.v _) (fun w hR => y2 w) ?_) | (first | refine CallK_pure (.v _) (fun w hR => y3 w) ?_ | refine QCall_pure (.v _) (fun w hR => y3 w) ?_) | (first | refine CallK_pure (.v _) (fun w hR => y4 w) ?_ | refine QCall_pure (.v _) (fun w hR => y4 w) ?_) | (first | refine CallK_pure (.v _) (fun w hR => y5 w) ?_ | refine QCall_pure (.v _) (fun w hR => y5 w) ?_) | (first | refine CallK_pure (.v _) (fun w hR => y6 w) ?_ | refine QCall_pure (.v _) (fun w hR => y6 w) ?_) | (first | refine CallK_pure (.v _) (fun w hR => i5 w) ?_ | refine QCall_pure (.v _) (fun w hR => i5 w) ?_) | (refine bcase_prop (fun h => ?_) (fun h => ?_) <;> try (exfalso; omega)) | (refine bcase_nprop (fun h => ?_) (fun h => ?_) <;> try (exfalso; omega)) | (refine bcase_intro (fun h => ?_) (fun h => ?_) <;> (try simp only [Bool.not_eq_true', Bool.not_eq_false', decide_eq_true_eq, decide_eq_false_iff_not, Bool.not_eq_true, Bool.not_eq_false, Decidable.not_not] at h)) | refine And.intro (by first | omega | exact rfl | assumption | exact ⟨rfl, rfl, rfl, rfl, rfl⟩ | exact ⟨rfl, rfl, rfl, rfl⟩ | exact ⟨rfl, by omega⟩ | exact oneAll_of rfl | exact ⟨rfl, oneAll_of rfl⟩ | exact Ref.refl _ | exact Thin.ref (.skip (Thin.refl _)) | exact Thin.ref (.skip (.skip (Thin.refl _))) | exact ⟨rfl, Nat.le_of_ble_eq_true rfl⟩ | ((try unfold maxLen); (try simp only [List.length_nil, List.length_cons, List.length_append]); omega) | (refine ⟨rfl, ?_⟩; (try simp only [List.length_nil, List.length_cons, List.length_append]); omega)) ?_ | intro _)); (all_goals (conv => whnf))
        all_goals first | (exfalso; omega) | exact ⟨rfl⟩ | exact absurd ‹k.tmod 2 = 0› he | exact absurd he ‹¬ k.tmod 2 = 0›
      · have y1 := fun b => p1 b ((3 + k9 : Nat) : Int) hq
        have y2 := fun b => p2 b ((3 + k9 : Nat) : Int) hq
        have y3 := fun b => p3 b ((3 + k9 : Nat) : Int) hq
        have y4 := fun b => p4 b ((3 + k9 : Nat) : Int) hq
        have y5 := fun b => p5 b ((3 + k9 : Nat) : Int) hq
        have y6 := fun b => p6 b ((3 + k9 : Nat) : Int) hq
        (repeat' ((conv => whnf); first | rw [qn] | rw [qf] | rw [qk] | rw [hm] | rw [hm1] | rw [h3] | rw [Int.toNat_natCast] | rw [Nat.mul_one] | (first | refine CallK_pure (.v _) (fun w hR => c0 w) ?_ | refine QCall_pure (.v _) (fun w hR => c0 w) ?_) | (refine CallK_new (fun w hR => cn w) ?_; rintro _ _ ⟨bn, fpn, rfl, rfl⟩; refine ⟨.v _, rfl, ?_⟩) | (refine CallK_pack (key := 77) rfl (fun w hR h0 => cL _ _ _ _ h0) ?_; rintro _ _ ⟨rfl, fp', rfl⟩; refine ⟨.v _, rfl, ?_⟩) | (refine CallK_pack (key := 77) rfl (fun w hR h0 => cP _ _ _ _ h0) ?_; rintro _ _ ⟨rfl, fp', rfl⟩; refine ⟨.v _, rfl, ?_⟩) | (refine CallK_pack (key := 77) rfl (fun w hR h0 => cE _ _ _ _ h0) ?_; rintro _ _ ⟨rfl, fp', rfl⟩; refine ⟨.v _, rfl, ?_⟩) | (first | refine CallK_pure (.v _) (fun w hR => i9 w) ?_ | refine QCall_pure (.v _) (fun w hR => i9 w) ?_) | (refine CallK_pack (key := 77) rfl (fun w hR h0 => y1 _ _ _ _ h0) ?_; rintro _ _ ⟨rfl, fp', rfl⟩; refine ⟨.v _, rfl, ?_⟩) | (refine CallK_pack (key := 77) rfl (fun w hR h0 => y2 _ _ _ _ h0) ?_; rintro _ _ ⟨rfl, fp', rfl⟩; refine ⟨.v _, rfl, ?_⟩) | (refine CallK_pack (key := 77) rfl (fun w hR h0 => y3 _ _ _ _ h0) ?_; rintro _ _ ⟨rfl, fp', rfl⟩; refine ⟨.v _, rfl, ?_⟩) | (refine CallK_pack (key := 77) rfl (fun w hR h0 => y4 _ _ _ _ h0) ?_; rintro _ _ ⟨rfl, fp', rfl⟩; refine ⟨.v _, rfl, ?_⟩) | (refine CallK_pack (key := 77) rfl (fun w hR h0 => y5 _ _ _ _ h0) ?_; rintro _ _ ⟨rfl, fp', rfl⟩; refine ⟨.v _, rfl, ?_⟩) | (refine CallK_pack (key := 77) rfl (fun w hR h0 => y6 _ _ _ _ h0) ?_; rintro _ _ ⟨rfl, fp', rfl⟩; refine ⟨.v _, rfl, ?_⟩) | (first | refine CallK_pure (.v _) (fun w hR => i1 w) ?_ | refine QCall_pure (.v _) (fun w hR => i1 w) ?_) | (refine bcase_prop (fun h => ?_) (fun h => ?_) <;> try (exfalso; omega)) | (refine bcase_nprop (fun h => ?_) (fun h => ?_) <;> try (exfalso; omega)) | (refine bcase_intro (fun h => ?_) (fun h => ?_) <;> (try simp only [Bool.not_eq_true', Bool.not_eq_false', decide_eq_true_eq, decide_eq_false_iff_not, Bool.not_eq_true, Bool.not_eq_false, Decidable.not_not] at h)) | refine And.intro (by first | omega | exact rfl | assumption | exact ⟨rfl, rfl, rfl, rfl, rfl⟩ | exact ⟨rfl, rfl, rfl, rfl⟩ | exact ⟨rfl, by omega⟩ | exact oneAll_of rfl | exact ⟨rfl, oneAll_of rfl⟩ | exact Ref.refl _ | exact Thin.ref (.skip (Thin.refl _)) | exact Thin.ref (.skip (.skip (Thin.refl _))) | exact ⟨rfl, Nat.le_of_ble_eq_true rfl⟩ | ((try unfold maxLen); (try simp only [List.length_nil, List.length_cons, List.length_append]); omega) | (refine ⟨rfl, ?_⟩; (try simp only [List.length_nil, List.length_cons, List.length_append]); omega)) ?_ | intro _)); (all_goals (conv => whnf))
        all_goals first | (exfalso; omega) | exact ⟨rfl⟩ | exact absurd ‹k.tmod 2 = 0› he | exact absurd he ‹¬ k.tmod 2 = 0›
end Go.Proofs.Ytohlphngnhcbfaa
