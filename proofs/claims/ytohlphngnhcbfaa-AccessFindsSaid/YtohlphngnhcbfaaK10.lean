/- Line feeds of the parts of a range: the program. -/
import Derived.Test.YtohlphngnhcbfaaK8
import Derived.Test.YtohlphngnhcbfaaK9
namespace Go.Proofs.Ytohlphngnhcbfaa
open Go.EG
attribute [local irreducible] CallK QCall Go.Calls
set_option linter.unusedSimpArgs false
set_option linter.unusedVariables false
set_option maxRecDepth 20000
set_option maxHeartbeats 4000000

end Go.Proofs.Ytohlphngnhcbfaa
/- Finding and counting letters of a text: the program. -/
namespace Go.Proofs.Ytohlphngnhcbfaa
open Go.EG
attribute [local irreducible] CallK QCall Go.Calls
set_option linter.unusedSimpArgs false
set_option linter.unusedVariables false
set_option maxRecDepth 20000
set_option maxHeartbeats 4000000

theorem law_AccessFinds (hs : SortsI Try.prog fn_slices_Sort_Sl_api_ID_api_ID) (w : World) (g : List Rul) (hg : MIn g) (a : Option Addr) (c : Nat) (hin : In w [] a (rulsC g)) (pick x from_ : Int) (hp : -9223372036854775808 ≤ pick ∧ pick ≤ 9223372036854775807) (hx : 0 ≤ x ∧ x ≤ 255) :
    Calls Try.prog fn_evergreenlaw16_AccessFinds #[.slice a g.length c, .int .i64 pick, .int .u8 x, .int .i64 from_] w fun e w' => e = .returned (.bool true) ∧ Ext w w' := by
  obtain ⟨y, rfl⟩ := Int.eq_ofNat_of_zero_le hx.1
  have hy : y < 256 := by omega
  refine pure_call [.v (.slice a g.length c), .v (.int .i64 pick), .v (.int .u8 y), .v (.int .i64 from_)] w ok_evergreenlaw16_AccessFinds (by simp) ?_
  have c0 := calls_awake16
  by_cases hl : g.length ≤ 40
  case neg =>
    (repeat' ((conv => whnf); first | (first | refine CallK_pure (.v _) (fun w hR => c0 w) ?_ | refine QCall_pure (.v _) (fun w hR => c0 w) ?_) | (refine bcase_prop (fun h => ?_) (fun h => ?_) <;> try (exfalso; omega)) | (refine bcase_nprop (fun h => ?_) (fun h => ?_) <;> try (exfalso; omega)) | (refine bcase_intro (fun h => ?_) (fun h => ?_) <;> (try simp only [Bool.not_eq_true', Bool.not_eq_false', decide_eq_true_eq, decide_eq_false_iff_not, Bool.not_eq_true, Bool.not_eq_false, Decidable.not_not] at h)) | refine And.intro (by first | omega | exact rfl | assumption | exact ⟨rfl, rfl, rfl, rfl, rfl⟩ | exact ⟨rfl, rfl, rfl, rfl⟩ | exact ⟨rfl, by omega⟩ | exact oneAll_of rfl | exact ⟨rfl, oneAll_of rfl⟩ | exact Ref.refl _ | exact Thin.ref (.skip (Thin.refl _)) | exact Thin.ref (.skip (.skip (Thin.refl _))) | exact ⟨rfl, Nat.le_of_ble_eq_true rfl⟩ | ((try unfold maxLen); (try simp only [List.length_nil, List.length_cons, List.length_append]); omega) | (refine ⟨rfl, ?_⟩; (try simp only [List.length_nil, List.length_cons, List.length_append]); omega)) ?_ | intro _)); (all_goals (conv => whnf))
    all_goals first | (exfalso; omega) | exact ⟨rfl⟩
  have c1 := fun w h => calls_plain16 g hg hl pick hp a c w h
  have hw := gS_wf hg hl
  have hk := gId_known hg hl pick
  have hE := gE_len hg hl
  have hby := hw.bytes (gId g pick).toNat (gId g pick) (Nat.le_refl _) hk.2
  unfold plQ at c1
  generalize gId g pick = id at *
  have cN := fun b => calls_sLen b (gS g)
  have c7 := calls_Is 1 1 (by decide)
  have c8 := calls_Is 5 5 (by decide)
  have cF := fun b => calls_Find hs b (gS g) hw id y hy from_
  unfold fdRes at cF
  have hTl : (tm (gS g).E id).len = (tm (gS g).E id).txt.length := rfl
  rw [hTl] at cF
  by_cases hsh : (tm (gS g).E id).txt.length ≤ 4096
  case neg =>
    (repeat' ((conv => whnf); first | (first | refine CallK_pure (.v _) (fun w hR => c0 w) ?_ | refine QCall_pure (.v _) (fun w hR => c0 w) ?_) | ((refine CallK_new (fun w hR => c1 w (hin.cast hR (by simp))) ?_); rintro _ _ ⟨b, fpb, (⟨hq, a5, k5, hk5, rfl, rfl⟩ | ⟨hq, rfl, rfl⟩)⟩ <;> refine ⟨.v _, rfl, ?_⟩) | (refine bcase_prop (fun h => ?_) (fun h => ?_) <;> try (exfalso; omega)) | (refine bcase_nprop (fun h => ?_) (fun h => ?_) <;> try (exfalso; omega)) | (refine bcase_intro (fun h => ?_) (fun h => ?_) <;> (try simp only [Bool.not_eq_true', Bool.not_eq_false', decide_eq_true_eq, decide_eq_false_iff_not, Bool.not_eq_true, Bool.not_eq_false, Decidable.not_not] at h)) | refine And.intro (by first | omega | exact rfl | assumption | exact ⟨rfl, rfl, rfl, rfl, rfl⟩ | exact ⟨rfl, rfl, rfl, rfl⟩ | exact ⟨rfl, by omega⟩ | exact oneAll_of rfl | exact ⟨rfl, oneAll_of rfl⟩ | exact Ref.refl _ | exact Thin.ref (.skip (Thin.refl _)) | exact Thin.ref (.skip (.skip (Thin.refl _))) | exact ⟨rfl, Nat.le_of_ble_eq_true rfl⟩ | ((try unfold maxLen); (try simp only [List.length_nil, List.length_cons, List.length_append]); omega) | (refine ⟨rfl, ?_⟩; (try simp only [List.length_nil, List.length_cons, List.length_append]); omega)) ?_ | intro _)); (all_goals (conv => whnf))
    all_goals first | (exfalso; omega) | exact ⟨rfl⟩
  generalize (tm (gS g).E id).txt = T at *
  by_cases hv : 0 ≤ from_ ∧ from_ ≤ T.length
  · obtain ⟨i, rfl⟩ := Int.eq_ofNat_of_zero_le hv.1
    have hiT : i ≤ T.length := by omega
    rw [if_pos ⟨hk, hv⟩, Int.toNat_natCast] at cF
    have cR := fun a c w h => calls_r16Find y hy i T (by omega) hiT a c w h
    have hF := fndN_spec (b := y) (i := i) (t := T) hiT
    generalize fndN y i T = F at *
    by_cases hF0 : 0 ≤ F
    · rw [if_pos hF0] at cF
      (repeat' ((conv => whnf); first | (first | refine CallK_pure (.v _) (fun w hR => c0 w) ?_ | refine QCall_pure (.v _) (fun w hR => c0 w) ?_) | (first | refine CallK_pure (.v _) (fun w hR => c7 w) ?_ | refine QCall_pure (.v _) (fun w hR => c7 w) ?_) | (first | refine CallK_pure (.v _) (fun w hR => c8 w) ?_ | refine QCall_pure (.v _) (fun w hR => c8 w) ?_) | ((refine CallK_new (fun w hR => c1 w (hin.cast hR (by simp))) ?_); rintro _ _ ⟨b, fpb, (⟨hq, a5, k5, hk5, rfl, rfl⟩ | ⟨hq, rfl, rfl⟩)⟩ <;> refine ⟨.v _, rfl, ?_⟩) | (refine CallK_pure (.v _) (fun w hR => cR _ _ w (In.ownR (key := 807) hR rfl)) ?_) | (refine CallK_pack (key := 77) rfl (fun w hR h0 => cN _ _ _ _ h0) ?_; rintro _ _ ⟨rfl, fp', rfl⟩; refine ⟨.v _, rfl, ?_⟩) | (refine CallK_pack (key := 77) rfl (fun w hR h0 => cF _ _ _ _ h0) ?_; rintro _ _ ⟨rfl, fp', rfl⟩; refine ⟨.v _, rfl, ?_⟩) | (refine bcase_prop (fun h => ?_) (fun h => ?_) <;> try (exfalso; omega)) | (refine bcase_nprop (fun h => ?_) (fun h => ?_) <;> try (exfalso; omega)) | (refine bcase_intro (fun h => ?_) (fun h => ?_) <;> (try simp only [Bool.not_eq_true', Bool.not_eq_false', decide_eq_true_eq, decide_eq_false_iff_not, Bool.not_eq_true, Bool.not_eq_false, Decidable.not_not] at h)) | refine And.intro (by first | omega | exact rfl | assumption | exact ⟨rfl, rfl, rfl, rfl, rfl⟩ | exact ⟨rfl, rfl, rfl, rfl⟩ | exact ⟨rfl, by omega⟩ | exact oneAll_of rfl | exact ⟨rfl, oneAll_of rfl⟩ | exact Ref.refl _ | exact Thin.ref (.skip (Thin.refl _)) | exact Thin.ref (.skip (.skip (Thin.refl _))) | exact ⟨rfl, Nat.le_of_ble_eq_true rfl⟩ | ((try unfold maxLen); (try simp only [List.length_nil, List.length_cons, List.length_append]); omega) | (refine ⟨rfl, ?_⟩; (try simp only [List.length_nil, List.length_cons, List.length_append]); omega)) ?_ | intro _)); (all_goals (conv => whnf))
      all_goals first | (exfalso; omega) | exact ⟨rfl⟩ | (refine ⟨?_⟩; show Value.bool (decide _) = _; rw [decide_eq_true (by omega)])
    · rw [if_neg hF0] at cF
      (repeat' ((conv => whnf); first | (first | refine CallK_pure (.v _) (fun w hR => c0 w) ?_ | refine QCall_pure (.v _) (fun w hR => c0 w) ?_) | (first | refine CallK_pure (.v _) (fun w hR => c7 w) ?_ | refine QCall_pure (.v _) (fun w hR => c7 w) ?_) | (first | refine CallK_pure (.v _) (fun w hR => c8 w) ?_ | refine QCall_pure (.v _) (fun w hR => c8 w) ?_) | ((refine CallK_new (fun w hR => c1 w (hin.cast hR (by simp))) ?_); rintro _ _ ⟨b, fpb, (⟨hq, a5, k5, hk5, rfl, rfl⟩ | ⟨hq, rfl, rfl⟩)⟩ <;> refine ⟨.v _, rfl, ?_⟩) | (refine CallK_pure (.v _) (fun w hR => cR _ _ w (In.ownR (key := 807) hR rfl)) ?_) | (refine CallK_pack (key := 77) rfl (fun w hR h0 => cN _ _ _ _ h0) ?_; rintro _ _ ⟨rfl, fp', rfl⟩; refine ⟨.v _, rfl, ?_⟩) | (refine CallK_pack (key := 77) rfl (fun w hR h0 => cF _ _ _ _ h0) ?_; rintro _ _ ⟨rfl, fp', rfl⟩; refine ⟨.v _, rfl, ?_⟩) | (refine bcase_prop (fun h => ?_) (fun h => ?_) <;> try (exfalso; omega)) | (refine bcase_nprop (fun h => ?_) (fun h => ?_) <;> try (exfalso; omega)) | (refine bcase_intro (fun h => ?_) (fun h => ?_) <;> (try simp only [Bool.not_eq_true', Bool.not_eq_false', decide_eq_true_eq, decide_eq_false_iff_not, Bool.not_eq_true, Bool.not_eq_false, Decidable.not_not] at h)) | refine And.intro (by first | omega | exact rfl | assumption | exact ⟨rfl, rfl, rfl, rfl, rfl⟩ | exact ⟨rfl, rfl, rfl, rfl⟩ | exact ⟨rfl, by omega⟩ | exact oneAll_of rfl | exact ⟨rfl, oneAll_of rfl⟩ | exact Ref.refl _ | exact Thin.ref (.skip (Thin.refl _)) | exact Thin.ref (.skip (.skip (Thin.refl _))) | exact ⟨rfl, Nat.le_of_ble_eq_true rfl⟩ | ((try unfold maxLen); (try simp only [List.length_nil, List.length_cons, List.length_append]); omega) | (refine ⟨rfl, ?_⟩; (try simp only [List.length_nil, List.length_cons, List.length_append]); omega)) ?_ | intro _)); (all_goals (conv => whnf))
      all_goals first | (exfalso; omega) | exact ⟨rfl⟩ | (refine ⟨?_⟩; show Value.bool (decide _) = _; rw [decide_eq_true (by omega)])
  · rw [if_neg (fun h => hv h.2)] at cF
    (repeat' ((conv => whnf); first | (first | refine CallK_pure (.v _) (fun w hR => c0 w) ?_ | refine QCall_pure (.v _) (fun w hR => c0 w) ?_) | (first | refine CallK_pure (.v _) (fun w hR => c7 w) ?_ | refine QCall_pure (.v _) (fun w hR => c7 w) ?_) | ((refine CallK_new (fun w hR => c1 w (hin.cast hR (by simp))) ?_); rintro _ _ ⟨b, fpb, (⟨hq, a5, k5, hk5, rfl, rfl⟩ | ⟨hq, rfl, rfl⟩)⟩ <;> refine ⟨.v _, rfl, ?_⟩) | (refine CallK_pack (key := 77) rfl (fun w hR h0 => cN _ _ _ _ h0) ?_; rintro _ _ ⟨rfl, fp', rfl⟩; refine ⟨.v _, rfl, ?_⟩) | (refine CallK_pack (key := 77) rfl (fun w hR h0 => cF _ _ _ _ h0) ?_; rintro _ _ ⟨rfl, fp', rfl⟩; refine ⟨.v _, rfl, ?_⟩) | (refine bcase_prop (fun h => ?_) (fun h => ?_) <;> try (exfalso; omega)) | (refine bcase_nprop (fun h => ?_) (fun h => ?_) <;> try (exfalso; omega)) | (refine bcase_intro (fun h => ?_) (fun h => ?_) <;> (try simp only [Bool.not_eq_true', Bool.not_eq_false', decide_eq_true_eq, decide_eq_false_iff_not, Bool.not_eq_true, Bool.not_eq_false, Decidable.not_not] at h)) | refine And.intro (by first | omega | exact rfl | assumption | exact ⟨rfl, rfl, rfl, rfl, rfl⟩ | exact ⟨rfl, rfl, rfl, rfl⟩ | exact ⟨rfl, by omega⟩ | exact oneAll_of rfl | exact ⟨rfl, oneAll_of rfl⟩ | exact Ref.refl _ | exact Thin.ref (.skip (Thin.refl _)) | exact Thin.ref (.skip (.skip (Thin.refl _))) | exact ⟨rfl, Nat.le_of_ble_eq_true rfl⟩ | ((try unfold maxLen); (try simp only [List.length_nil, List.length_cons, List.length_append]); omega) | (refine ⟨rfl, ?_⟩; (try simp only [List.length_nil, List.length_cons, List.length_append]); omega)) ?_ | intro _)); (all_goals (conv => whnf))
    all_goals first | (exfalso; omega) | exact ⟨rfl⟩ | (refine ⟨?_⟩; show Value.bool (decide _) = _; rw [decide_eq_true (by omega)])

end Go.Proofs.Ytohlphngnhcbfaa
