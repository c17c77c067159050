/- Line feeds of the parts of a range: the program. -/
import Derived.Test.YtohlphngnhcbfaaK8
import Derived.Test.YtohlphngnhcbfaaK9
namespace Go.Proofs.Ytohlphngnhcbfaa
open Go.EG
attribute [local irreducible] CallK QCall Go.Calls
set_option linter.unusedSimpArgs false
set_option linter.unusedVariables false
set_option maxRecDepth 20000
set_option maxHeartbeats 4000000

end Go.Proofs.Ytohlphngnhcbfaa
/- Finding and counting letters of a text: the program. -/
namespace Go.Proofs.Ytohlphngnhcbfaa
open Go.EG
attribute [local irreducible] CallK QCall Go.Calls
set_option linter.unusedSimpArgs false
set_option linter.unusedVariables false
set_option maxRecDepth 20000
set_option maxHeartbeats 4000000

theorem law_AccessCounts (hs : SortsI Try.prog fn_slices_Sort_Sl_api_ID_api_ID) (w : World) (g : List Rul) (hg : MIn g) (a : Option Addr) (c : Nat) (hin : In w [] a (rulsC g)) (pick : Int) (s : Let4) (hs4 : s.Ok) (from_ n : Int) (hp : -9223372036854775808 ≤ pick ∧ pick ≤ 9223372036854775807) (hf : -9223372036854775808 ≤ from_ ∧ from_ ≤ 9223372036854775807) :
    Calls Try.prog fn_evergreenlaw16_AccessCounts #[.slice a g.length c, .int .i64 pick, l4V s, .int .i64 from_, .int .i64 n] w fun e w' => e = .returned (.bool true) ∧ Ext w w' := by
  refine pure_call [.v (.slice a g.length c), .v (.int .i64 pick), .v (l4V s), .v (.int .i64 from_), .v (.int .i64 n)] w ok_evergreenlaw16_AccessCounts (by simp) ?_
  have c0 := calls_awake16
  by_cases hl : g.length ≤ 40
  case neg =>
    (repeat' ((conv => whnf); first | (first | refine CallK_pure (.v _) (fun w hR => c0 w) ?_ | refine QCall_pure (.v _) (fun w hR => c0 w) ?_) | (refine bcase_prop (fun h => ?_) (fun h => ?_) <;> try (exfalso; omega)) | (refine bcase_nprop (fun h => ?_) (fun h => ?_) <;> try (exfalso; omega)) | (refine bcase_intro (fun h => ?_) (fun h => ?_) <;> (try simp only [Bool.not_eq_true', Bool.not_eq_false', decide_eq_true_eq, decide_eq_false_iff_not, Bool.not_eq_true, Bool.not_eq_false, Decidable.not_not] at h)) | refine And.intro (by first | omega | exact rfl | assumption | exact ⟨rfl, rfl, rfl, rfl, rfl⟩ | exact ⟨rfl, rfl, rfl, rfl⟩ | exact ⟨rfl, by omega⟩ | exact oneAll_of rfl | exact ⟨rfl, oneAll_of rfl⟩ | exact Ref.refl _ | exact Thin.ref (.skip (Thin.refl _)) | exact Thin.ref (.skip (.skip (Thin.refl _))) | exact ⟨rfl, Nat.le_of_ble_eq_true rfl⟩ | ((try unfold maxLen); (try simp only [List.length_nil, List.length_cons, List.length_append]); omega) | (refine ⟨rfl, ?_⟩; (try simp only [List.length_nil, List.length_cons, List.length_append]); omega)) ?_ | intro _)); (all_goals (conv => whnf))
    all_goals first | (exfalso; omega) | exact ⟨rfl⟩
  have c1 := fun w h => calls_plain16 g hg hl pick hp a c w h
  have hw := gS_wf hg hl
  have hk := gId_known hg hl pick
  have hE := gE_len hg hl
  have hby := hw.bytes (gId g pick).toNat (gId g pick) (Nat.le_refl _) hk.2
  unfold plQ at c1
  generalize gId g pick = id at *
  have cN := fun b => calls_sLen b (gS g)
  have c7 := calls_Is 1 1 (by decide)
  have cF := fun b => calls_Count hs b (gS g) hw id s hs4 from_ n
  unfold ctRes at cF
  have hTl : (tm (gS g).E id).len = (tm (gS g).E id).txt.length := rfl
  rw [hTl] at cF
  by_cases hsh : (tm (gS g).E id).txt.length ≤ 4096
  case neg =>
    (repeat' ((conv => whnf); first | (first | refine CallK_pure (.v _) (fun w hR => c0 w) ?_ | refine QCall_pure (.v _) (fun w hR => c0 w) ?_) | ((refine CallK_new (fun w hR => c1 w (hin.cast hR (by simp))) ?_); rintro _ _ ⟨b, fpb, (⟨hq, a5, k5, hk5, rfl, rfl⟩ | ⟨hq, rfl, rfl⟩)⟩ <;> refine ⟨.v _, rfl, ?_⟩) | (refine bcase_prop (fun h => ?_) (fun h => ?_) <;> try (exfalso; omega)) | (refine bcase_nprop (fun h => ?_) (fun h => ?_) <;> try (exfalso; omega)) | (refine bcase_intro (fun h => ?_) (fun h => ?_) <;> (try simp only [Bool.not_eq_true', Bool.not_eq_false', decide_eq_true_eq, decide_eq_false_iff_not, Bool.not_eq_true, Bool.not_eq_false, Decidable.not_not] at h)) | refine And.intro (by first | omega | exact rfl | assumption | exact ⟨rfl, rfl, rfl, rfl, rfl⟩ | exact ⟨rfl, rfl, rfl, rfl⟩ | exact ⟨rfl, by omega⟩ | exact oneAll_of rfl | exact ⟨rfl, oneAll_of rfl⟩ | exact Ref.refl _ | exact Thin.ref (.skip (Thin.refl _)) | exact Thin.ref (.skip (.skip (Thin.refl _))) | exact ⟨rfl, Nat.le_of_ble_eq_true rfl⟩ | ((try unfold maxLen); (try simp only [List.length_nil, List.length_cons, List.length_append]); omega) | (refine ⟨rfl, ?_⟩; (try simp only [List.length_nil, List.length_cons, List.length_append]); omega)) ?_ | intro _)); (all_goals (conv => whnf))
    all_goals first | (exfalso; omega) | exact ⟨rfl⟩
  have cV := calls_r16Valid from_ n (tm (gS g).E id).txt.length hf (by unfold LM; omega)
  generalize (tm (gS g).E id).txt = T at *
  by_cases hv : 0 ≤ from_ ∧ 0 ≤ n ∧ from_ ≤ T.length ∧ n ≤ T.length - from_
  · obtain ⟨i, rfl⟩ := Int.eq_ofNat_of_zero_le hv.1
    obtain ⟨m, rfl⟩ := Int.eq_ofNat_of_zero_le hv.2.1
    rw [decide_eq_true hv] at cV
    rw [if_pos ⟨hk, hv⟩, Int.toNat_natCast, Int.toNat_natCast] at cF
    have hsl : (sub T i m).length = m := sub_length (by omega)
    have him : ((i : Int) + (m : Int)).toNat - i = (sub T i m).length := by omega
    have cR := fun a c w h => calls_r16Count s hs4 (sub T i m) (by omega) (fun x hx => hby x (sub_mem hx)) a c w h
    generalize cnt s.has (sub T i m) = F at *
    (repeat' ((conv => whnf); first | rw [Int.toNat_natCast] | rw [him] | (first | refine CallK_pure (.v _) (fun w hR => c0 w) ?_ | refine QCall_pure (.v _) (fun w hR => c0 w) ?_) | (first | refine CallK_pure (.v _) (fun w hR => c7 w) ?_ | refine QCall_pure (.v _) (fun w hR => c7 w) ?_) | (first | refine CallK_pure (.v _) (fun w hR => cV w) ?_ | refine QCall_pure (.v _) (fun w hR => cV w) ?_) | ((refine CallK_new (fun w hR => c1 w (hin.cast hR (by simp))) ?_); rintro _ _ ⟨b, fpb, (⟨hq, a5, k5, hk5, rfl, rfl⟩ | ⟨hq, rfl, rfl⟩)⟩ <;> refine ⟨.v _, rfl, ?_⟩) | (refine CallK_pure (.v _) (fun w hR => cR _ _ w (inSub (In.ownR (key := 807) hR rfl) hk5)) ?_) | (refine CallK_pack (key := 77) rfl (fun w hR h0 => cN _ _ _ _ h0) ?_; rintro _ _ ⟨rfl, fp', rfl⟩; refine ⟨.v _, rfl, ?_⟩) | (refine CallK_pack (key := 77) rfl (fun w hR h0 => cF _ _ _ _ h0) ?_; rintro _ _ ⟨rfl, fp', rfl⟩; refine ⟨.v _, rfl, ?_⟩) | (refine bcase_prop (fun h => ?_) (fun h => ?_) <;> try (exfalso; omega)) | (refine bcase_nprop (fun h => ?_) (fun h => ?_) <;> try (exfalso; omega)) | (refine bcase_intro (fun h => ?_) (fun h => ?_) <;> (try simp only [Bool.not_eq_true', Bool.not_eq_false', decide_eq_true_eq, decide_eq_false_iff_not, Bool.not_eq_true, Bool.not_eq_false, Decidable.not_not] at h)) | refine And.intro (by first | omega | exact rfl | assumption | exact ⟨rfl, rfl, rfl, rfl, rfl⟩ | exact ⟨rfl, rfl, rfl, rfl⟩ | exact ⟨rfl, by omega⟩ | exact oneAll_of rfl | exact ⟨rfl, oneAll_of rfl⟩ | exact Ref.refl _ | exact Thin.ref (.skip (Thin.refl _)) | exact Thin.ref (.skip (.skip (Thin.refl _))) | exact ⟨rfl, Nat.le_of_ble_eq_true rfl⟩ | ((try unfold maxLen); (try simp only [List.length_nil, List.length_cons, List.length_append]); omega) | (refine ⟨rfl, ?_⟩; (try simp only [List.length_nil, List.length_cons, List.length_append]); omega)) ?_ | intro _)); (all_goals (conv => whnf))
    all_goals first | (exfalso; omega) | exact ⟨rfl⟩ | (refine ⟨?_⟩; show Value.bool (decide _) = _; rw [decide_eq_true (by omega)])
  · rw [decide_eq_false hv] at cV
    rw [if_neg (fun h => hv h.2)] at cF
    (repeat' ((conv => whnf); first | (first | refine CallK_pure (.v _) (fun w hR => c0 w) ?_ | refine QCall_pure (.v _) (fun w hR => c0 w) ?_) | (first | refine CallK_pure (.v _) (fun w hR => c7 w) ?_ | refine QCall_pure (.v _) (fun w hR => c7 w) ?_) | (first | refine CallK_pure (.v _) (fun w hR => cV w) ?_ | refine QCall_pure (.v _) (fun w hR => cV w) ?_) | ((refine CallK_new (fun w hR => c1 w (hin.cast hR (by simp))) ?_); rintro _ _ ⟨b, fpb, (⟨hq, a5, k5, hk5, rfl, rfl⟩ | ⟨hq, rfl, rfl⟩)⟩ <;> refine ⟨.v _, rfl, ?_⟩) | (refine CallK_pack (key := 77) rfl (fun w hR h0 => cN _ _ _ _ h0) ?_; rintro _ _ ⟨rfl, fp', rfl⟩; refine ⟨.v _, rfl, ?_⟩) | (refine CallK_pack (key := 77) rfl (fun w hR h0 => cF _ _ _ _ h0) ?_; rintro _ _ ⟨rfl, fp', rfl⟩; refine ⟨.v _, rfl, ?_⟩) | (refine bcase_prop (fun h => ?_) (fun h => ?_) <;> try (exfalso; omega)) | (refine bcase_nprop (fun h => ?_) (fun h => ?_) <;> try (exfalso; omega)) | (refine bcase_intro (fun h => ?_) (fun h => ?_) <;> (try simp only [Bool.not_eq_true', Bool.not_eq_false', decide_eq_true_eq, decide_eq_false_iff_not, Bool.not_eq_true, Bool.not_eq_false, Decidable.not_not] at h)) | refine And.intro (by first | omega | exact rfl | assumption | exact ⟨rfl, rfl, rfl, rfl, rfl⟩ | exact ⟨rfl, rfl, rfl, rfl⟩ | exact ⟨rfl, by omega⟩ | exact oneAll_of rfl | exact ⟨rfl, oneAll_of rfl⟩ | exact Ref.refl _ | exact Thin.ref (.skip (Thin.refl _)) | exact Thin.ref (.skip (.skip (Thin.refl _))) | exact ⟨rfl, Nat.le_of_ble_eq_true rfl⟩ | ((try unfold maxLen); (try simp only [List.length_nil, List.length_cons, List.length_append]); omega) | (refine ⟨rfl, ?_⟩; (try simp only [List.length_nil, List.length_cons, List.length_append]); omega)) ?_ | intro _)); (all_goals (conv => whnf))
    all_goals first | (exfalso; omega) | exact ⟨rfl⟩ | (refine ⟨?_⟩; show Value.bool (decide _) = _; rw [decide_eq_true (by omega)])
end Go.Proofs.Ytohlphngnhcbfaa
