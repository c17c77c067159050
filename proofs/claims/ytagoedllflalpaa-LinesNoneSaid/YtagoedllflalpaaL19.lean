/- The statements of chapter 19 that need no list: the program. -/
import Derived.Test.YtagoedllflalpaaLinW
import Derived.Test.YtagoedllflalpaaSRef
import Derived.Test.YtagoedllflalpaaSGram
namespace Go.Proofs.Ytagoedllflalpaa
open Go.EG
attribute [local irreducible] CallK QCall Go.Calls
set_option linter.unusedSimpArgs false
set_option linter.unusedVariables false
set_option maxRecDepth 20000
set_option maxHeartbeats 2000000

def gA : List Rul := [⟨1, 97, 0, 0, 0⟩, ⟨1, 10, 0, 0, 0⟩, ⟨3, 0, 1, 0, 2⟩, ⟨2, 0, 3, 2, 0⟩, ⟨3, 0, 4, 0, 2⟩]
abbrev tA : Tm := .pw (.pr (.pw (.lt 97) 2) (.lt 10)) 2
theorem gA_chk : chk 1 gA = 0 := by decide
theorem gA_rul : ∀ i, i < gA.length → okR (gA.getD i rul0) (i + 1) := fun i hi => by
  have := (chk_zero.1 gA_chk) i hi
  rwa [show (1 : Int) + (i : Int) = i + 1 by omega] at this
theorem gA_let : ∀ i, i < gA.length → 0 ≤ (gA.getD i rul0).l ∧ (gA.getD i rul0).l < 256 := by decide
theorem gA_gram : Gram gA := ⟨gA_rul, gA_let, by decide⟩
theorem gA_imp : ∃ S to, stImp ⟨10, []⟩ [0] gA = some (S, to) ∧ WF S ∧ known S (to.getD 5 0) ∧ tm S.E (to.getD 5 0) = tA := by
  obtain ⟨S, to, h1, h2, _, h4, _⟩ := stImp_ok (g := gA) (WF.new 10 (by decide)) (Rel.start _) (fun i hi => by
    have := gA_rul i hi
    rwa [show (([] : List Tm).length : Int) + 1 + (i : Int) = i + 1 by simp; omega]) gA_let (by decide) (by decide)
  obtain ⟨a, b, c⟩ := h4.at_ 5 (by decide) (by decide)
  exact ⟨S, to, h1, h2, ⟨by omega, b⟩, c⟩
theorem calls_awake19 (w : World) : Calls Try.prog fn_evergreenlaw19_awake #[] w fun e w' => e = .returned (.bool true) ∧ Ext w w' := by
  refine pure_call [] w ok_evergreenlaw19_awake (by simp) ?_
  have c1 := fun w => calls_New 10 77 w
  rw [show clipS 10 = 10 from rfl] at c1
  obtain ⟨S, to, himp, hw, hk, ht⟩ := gA_imp
  have c2 := fun b key fp w hR a c hin => calls_Import b ⟨10, []⟩ (WF.new 10 (by decide)) gA gA_gram S to himp (by decide) a c key fp w hR hin
  have hl : gA.length = 5 := rfl
  rw [hl] at c2
  generalize to.getD 5 0 = n at *
  have c3 := fun b => calls_LCount b S hw n
  have c4 := fun b => calls_LLine b S hw n 1
  have c5 := fun b => calls_LPosition b S hw n 4
  unfold cntRes at c3
  unfold linRes at c4
  unfold posRes at c5
  rw [ht] at c3 c4 c5
  rw [if_pos hk] at c3
  rw [if_pos ⟨hk, by decide⟩] at c4
  rw [if_pos ⟨hk, by decide⟩] at c5
  rw [show (linesN tA.txt + 1 : Nat) = 3 from by decide] at c3
  rw [show lineS tA.txt (1 : Int).toNat = 3 from by decide, show lineE tA.txt (1 : Int).toNat = 5 from by decide] at c4
  rw [show linesN (tA.txt.take (4 : Int).toNat) = 1 from by decide, show tailN (tA.txt.take (4 : Int).toNat) = 1 from by decide] at c5
  (repeat' ((conv => whnf); first | (refine CallK_new (fun w hR => c1 w) ?_; rintro _ _ ⟨bn, fpn, rfl, rfl⟩; refine ⟨.v _, rfl, ?_⟩) | (refine CallK_pack (key := 77) rfl (fun w hR h0 => c2 _ _ _ _ h0 _ _ (In.beside (key := 21) hR rfl)) ?_; rintro _ _ ⟨rfl, fp', rfl⟩; refine ⟨.v _, rfl, ?_⟩) | (refine CallK_pack (key := 77) rfl (fun w hR h0 => c3 _ _ _ _ h0) ?_; rintro _ _ ⟨rfl, fp', rfl⟩; refine ⟨.v _, rfl, ?_⟩) | (refine CallK_pack (key := 77) rfl (fun w hR h0 => c4 _ _ _ _ h0) ?_; rintro _ _ ⟨rfl, fp', rfl⟩; refine ⟨.v _, rfl, ?_⟩) | (refine CallK_pack (key := 77) rfl (fun w hR h0 => c5 _ _ _ _ h0) ?_; rintro _ _ ⟨rfl, fp', rfl⟩; refine ⟨.v _, rfl, ?_⟩) | (refine bcase_prop (fun h => ?_) (fun h => ?_) <;> try (exfalso; omega)) | (refine bcase_nprop (fun h => ?_) (fun h => ?_) <;> try (exfalso; omega)) | (refine bcase_intro (fun h => ?_) (fun h => ?_) <;> (try simp only [Bool.not_eq_true', Bool.not_eq_false', decide_eq_true_eq, decide_eq_false_iff_not, Bool.not_eq_true, Bool.not_eq_false, Decidable.not_not] at h)) | refine And.intro (by first | omega | exact rfl | assumption | exact ⟨rfl, rfl, rfl, rfl, rfl⟩ | exact ⟨rfl, rfl, rfl, rfl⟩ | exact ⟨rfl, by omega⟩ | exact oneAll_of rfl | exact ⟨rfl, oneAll_of rfl⟩ | exact Ref.refl _ | exact Thin.ref (.skip (Thin.refl _)) | exact Thin.ref (.skip (.skip (Thin.refl _))) | exact ⟨rfl, Nat.le_of_ble_eq_true rfl⟩ | ((try unfold maxLen); (try simp only [List.length_nil, List.length_cons, List.length_append]); omega) | (refine ⟨rfl, ?_⟩; (try simp only [List.length_nil, List.length_cons, List.length_append]); omega)) ?_ | intro _)); (all_goals (conv => whnf))
  all_goals exact ⟨rfl⟩
theorem law_LinesNone (w : World) (k : Int) (full : Bool) :
    Calls Try.prog fn_evergreenlaw19_LinesNone #[.int .i64 k, .bool full] w fun e w' => e = .returned (.bool true) ∧ Ext w w' := by
  refine pure_call [.v (.int .i64 k), .v (.bool full)] w ok_evergreenlaw19_LinesNone (by simp) ?_
  have c0 := calls_awake19
  cases full
  · have c1 := calls_LCountNil k
    have c2 := calls_LStartNil k 0
    have c3 := calls_LLineNil k 0
    have c4 := calls_LPositionNil k 0
    have c5 := calls_LOffsetNil k 0 0
    have c6 := calls_LFeedsNil k 0 0
    have c7 := calls_Is 5 5 (by decide)
    (repeat' ((conv => whnf); first | (first | refine CallK_pure (.v _) (fun w hR => c0 w) ?_ | refine QCall_pure (.v _) (fun w hR => c0 w) ?_) | (first | refine CallK_pure (.v _) (fun w hR => c1 w) ?_ | refine QCall_pure (.v _) (fun w hR => c1 w) ?_) | (first | refine CallK_pure (.v _) (fun w hR => c2 w) ?_ | refine QCall_pure (.v _) (fun w hR => c2 w) ?_) | (first | refine CallK_pure (.v _) (fun w hR => c3 w) ?_ | refine QCall_pure (.v _) (fun w hR => c3 w) ?_) | (first | refine CallK_pure (.v _) (fun w hR => c4 w) ?_ | refine QCall_pure (.v _) (fun w hR => c4 w) ?_) | (first | refine CallK_pure (.v _) (fun w hR => c5 w) ?_ | refine QCall_pure (.v _) (fun w hR => c5 w) ?_) | (first | refine CallK_pure (.v _) (fun w hR => c6 w) ?_ | refine QCall_pure (.v _) (fun w hR => c6 w) ?_) | (first | refine CallK_pure (.v _) (fun w hR => c7 w) ?_ | refine QCall_pure (.v _) (fun w hR => c7 w) ?_) | (refine bcase_prop (fun h => ?_) (fun h => ?_) <;> try (exfalso; omega)) | (refine bcase_nprop (fun h => ?_) (fun h => ?_) <;> try (exfalso; omega)) | (refine bcase_intro (fun h => ?_) (fun h => ?_) <;> (try simp only [Bool.not_eq_true', Bool.not_eq_false', decide_eq_true_eq, decide_eq_false_iff_not, Bool.not_eq_true, Bool.not_eq_false, Decidable.not_not] at h)) | refine And.intro (by first | omega | exact rfl | assumption | exact ⟨rfl, rfl, rfl, rfl, rfl⟩ | exact ⟨rfl, rfl, rfl, rfl⟩ | exact ⟨rfl, by omega⟩ | exact oneAll_of rfl | exact ⟨rfl, oneAll_of rfl⟩ | exact Ref.refl _ | exact Thin.ref (.skip (Thin.refl _)) | exact Thin.ref (.skip (.skip (Thin.refl _))) | exact ⟨rfl, Nat.le_of_ble_eq_true rfl⟩ | ((try unfold maxLen); (try simp only [List.length_nil, List.length_cons, List.length_append]); omega) | (refine ⟨rfl, ?_⟩; (try simp only [List.length_nil, List.length_cons, List.length_append]); omega)) ?_ | intro _)); (all_goals (conv => whnf))
    all_goals exact ⟨rfl⟩
  · have cn := fun w => calls_New 5 77 w
    rw [show clipS 5 = 5 from rfl] at cn
    have cl := fun b => calls_sLen b ⟨5, []⟩
    have hw := WF.new 5 (by decide)
    have hnk : ∀ j : Int, j ≠ 0 → ¬ known ⟨5, []⟩ j := fun j hj h => by
      have h1 := h.1
      have h2 := h.2
      simp at h2
      omega
    have c1 := fun (b : Nat) (j : Int) (hj : j ≠ 0) => by
      have := calls_LCount b ⟨5, []⟩ hw j
      unfold cntRes at this
      rw [if_neg (hnk j hj)] at this
      exact this
    have c2 := fun (b : Nat) (j : Int) (hj : j ≠ 0) => by
      have := calls_LStart b ⟨5, []⟩ hw j 0
      unfold begRes at this
      rw [if_neg (fun h => hnk j hj h.1)] at this
      exact this
    have c3 := fun (b : Nat) (j : Int) (hj : j ≠ 0) => by
      have := calls_LLine b ⟨5, []⟩ hw j 0
      unfold linRes at this
      rw [if_neg (fun h => hnk j hj h.1)] at this
      exact this
    have c4 := fun (b : Nat) (j : Int) (hj : j ≠ 0) => by
      have := calls_LPosition b ⟨5, []⟩ hw j 0
      unfold posRes at this
      rw [if_neg (fun h => hnk j hj h.1)] at this
      exact this
    have c5 := fun (b : Nat) (j : Int) (hj : j ≠ 0) => by
      have := calls_LOffset b ⟨5, []⟩ hw j 0 0
      unfold offRes at this
      rw [if_neg (fun h => hnk j hj h.1)] at this
      exact this
    have c6 := fun (b : Nat) (j : Int) (hj : j ≠ 0) => by
      have := calls_LFeeds b ⟨5, []⟩ hw j 0 0
      unfold feeRes at this
      rw [if_neg (fun h => hnk j hj h.1)] at this
      exact this
    have c7 := calls_Is 1 1 (by decide)
    (repeat' ((conv => whnf); first | (first | refine CallK_pure (.v _) (fun w hR => c0 w) ?_ | refine QCall_pure (.v _) (fun w hR => c0 w) ?_) | (refine CallK_new (fun w hR => cn w) ?_; rintro _ _ ⟨bn, fpn, rfl, rfl⟩; refine ⟨.v _, rfl, ?_⟩) | (refine CallK_pack (key := 77) rfl (fun w hR h0 => cl _ _ _ _ h0) ?_; rintro _ _ ⟨rfl, fp', rfl⟩; refine ⟨.v _, rfl, ?_⟩) | (refine CallK_pack (key := 77) rfl (fun w hR h0 => c1 _ _ (by omega) _ _ _ h0) ?_; rintro _ _ ⟨rfl, fp', rfl⟩; refine ⟨.v _, rfl, ?_⟩) | (refine CallK_pack (key := 77) rfl (fun w hR h0 => c2 _ _ (by omega) _ _ _ h0) ?_; rintro _ _ ⟨rfl, fp', rfl⟩; refine ⟨.v _, rfl, ?_⟩) | (refine CallK_pack (key := 77) rfl (fun w hR h0 => c3 _ _ (by omega) _ _ _ h0) ?_; rintro _ _ ⟨rfl, fp', rfl⟩; refine ⟨.v _, rfl, ?_⟩) | (refine CallK_pack (key := 77) rfl (fun w hR h0 => c4 _ _ (by omega) _ _ _ h0) ?_; rintro _ _ ⟨rfl, fp', rfl⟩; refine ⟨.v _, rfl, ?_⟩) | (refine CallK_pack (key := 77) rfl (fun w hR h0 => c5 _ _ (by omega) _ _ _ h0) ?_; rintro _ _ ⟨rfl, fp', rfl⟩; refine ⟨.v _, rfl, ?_⟩) | (refine CallK_pack (key := 77) rfl (fun w hR h0 => c6 _ _ (by omega) _ _ _ h0) ?_; rintro _ _ ⟨rfl, fp', rfl⟩; refine ⟨.v _, rfl, ?_⟩) | (first | refine CallK_pure (.v _) (fun w hR => c7 w) ?_ | refine QCall_pure (.v _) (fun w hR => c7 w) ?_) | (refine bcase_prop (fun h => ?_) (fun h => ?_) <;> try (exfalso; omega)) | (refine bcase_nprop (fun h => ?_) (fun h => ?_) <;> try (exfalso; omega)) | (refine bcase_intro (fun h => ?_) (fun h => ?_) <;> (try simp only [Bool.not_eq_true', Bool.not_eq_false', decide_eq_true_eq, decide_eq_false_iff_not, Bool.not_eq_true, Bool.not_eq_false, Decidable.not_not] at h)) | refine And.intro (by first | omega | exact rfl | assumption | exact ⟨rfl, rfl, rfl, rfl, rfl⟩ | exact ⟨rfl, rfl, rfl, rfl⟩ | exact ⟨rfl, by omega⟩ | exact oneAll_of rfl | exact ⟨rfl, oneAll_of rfl⟩ | exact Ref.refl _ | exact Thin.ref (.skip (Thin.refl _)) | exact Thin.ref (.skip (.skip (Thin.refl _))) | exact ⟨rfl, Nat.le_of_ble_eq_true rfl⟩ | ((try unfold maxLen); (try simp only [List.length_nil, List.length_cons, List.length_append]); omega) | (refine ⟨rfl, ?_⟩; (try simp only [List.length_nil, List.length_cons, List.length_append]); omega)) ?_ | intro _)); (all_goals (conv => whnf))
    all_goals exact ⟨rfl⟩
end Go.Proofs.Ytagoedllflalpaa
