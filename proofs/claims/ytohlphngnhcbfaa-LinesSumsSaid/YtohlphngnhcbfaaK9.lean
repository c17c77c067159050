/- Line feeds of the parts of a range: the program. -/
import Derived.Test.YtohlphngnhcbfaaK7
import Derived.Test.YtohlphngnhcbfaaK8
namespace Go.Proofs.Ytohlphngnhcbfaa
open Go.EG
attribute [local irreducible] CallK QCall Go.Calls
set_option linter.unusedSimpArgs false
set_option linter.unusedVariables false
set_option maxRecDepth 20000
set_option maxHeartbeats 4000000

theorem law_LinesSums (hs : SortsI Try.prog fn_slices_Sort_Sl_api_ID_api_ID) (w : World) (g : List Rul) (hg : MIn g) (a : Option Addr) (c : Nat) (hin : In w [] a (rulsC g)) (pick from_ n cut : Int) (hp : -9223372036854775808 ≤ pick ∧ pick ≤ 9223372036854775807) :
    Calls Try.prog fn_evergreenlaw19_LinesSums #[.slice a g.length c, .int .i64 pick, .int .i64 from_, .int .i64 n, .int .i64 cut] w fun e w' => e = .returned (.bool true) ∧ Ext w w' := by
  refine pure_call [.v (.slice a g.length c), .v (.int .i64 pick), .v (.int .i64 from_), .v (.int .i64 n), .v (.int .i64 cut)] w ok_evergreenlaw19_LinesSums (by simp) ?_
  have c0 := calls_awake19
  by_cases hl : g.length ≤ 40
  case neg =>
    (repeat' ((conv => whnf); first | (first | refine CallK_pure (.v _) (fun w hR => c0 w) ?_ | refine QCall_pure (.v _) (fun w hR => c0 w) ?_) | (refine bcase_prop (fun h => ?_) (fun h => ?_) <;> try (exfalso; omega)) | (refine bcase_nprop (fun h => ?_) (fun h => ?_) <;> try (exfalso; omega)) | (refine bcase_intro (fun h => ?_) (fun h => ?_) <;> (try simp only [Bool.not_eq_true', Bool.not_eq_false', decide_eq_true_eq, decide_eq_false_iff_not, Bool.not_eq_true, Bool.not_eq_false, Decidable.not_not] at h)) | refine And.intro (by first | omega | exact rfl | assumption | exact ⟨rfl, rfl, rfl, rfl, rfl⟩ | exact ⟨rfl, rfl, rfl, rfl⟩ | exact ⟨rfl, by omega⟩ | exact oneAll_of rfl | exact ⟨rfl, oneAll_of rfl⟩ | exact Ref.refl _ | exact Thin.ref (.skip (Thin.refl _)) | exact Thin.ref (.skip (.skip (Thin.refl _))) | exact ⟨rfl, Nat.le_of_ble_eq_true rfl⟩ | ((try unfold maxLen); (try simp only [List.length_nil, List.length_cons, List.length_append]); omega) | (refine ⟨rfl, ?_⟩; (try simp only [List.length_nil, List.length_cons, List.length_append]); omega)) ?_ | intro _)); (all_goals (conv => whnf))
    all_goals first | (exfalso; omega) | exact ⟨rfl⟩
  have c1 := fun w h => calls_begun19 g hg hl pick hp a c w h
  have hw := gS_wf hg hl
  have hk := gId_known hg hl pick
  have hE := gE_len hg hl
  have hby := hw.bytes (gId g pick).toNat (gId g pick) (Nat.le_refl _) hk.2
  unfold begQ at c1
  generalize gId g pick = id at *
  have hlen := hw.le hk.2
  have cL := fun a1 c1 a2 c2 w h => calls_Length (a1 := a1) (c1 := c1) (a2 := a2) (c2 := c2) (gE g) (by omega) hk.1 hk.2 w h
  have l1 := uMod_le from_ (tm (gS g).E id).len
  have l2 := uMod_le n ((tm (gS g).E id).len - uMod from_ (tm (gS g).E id).len)
  have q1 := uMod_eq from_ hlen
  have q2 := uMod_eq n (L := (tm (gS g).E id).len - uMod from_ (tm (gS g).E id).len) (by omega)
  generalize uMod n ((tm (gS g).E id).len - uMod from_ (tm (gS g).E id).len) = m at *
  generalize uMod from_ (tm (gS g).E id).len = i at *
  have hlen' : (tm (gE g) id).len ≤ 1152921504606846976 := hlen
  have hlen2 : (tm (gS g).E id).len ≤ 1152921504606846976 := hlen
  have hTl : (tm (gS g).E id).len = (tm (gS g).E id).txt.length := rfl
  have hT2 : (tm (buildF [] [0] g).1 id).len = (tm (gS g).E id).len := rfl
  have q3 := uMod_eq cut (L := m) (by unfold LM; omega)
  have l3 := uMod_le cut m
  generalize uMod cut m = k at *
  have hli : ((tm (gS g).E id).len : Int) - (i : Int) = (((tm (gS g).E id).len - i : Nat) : Int) := by omega
  have hik : (i : Int) + (k : Int) = ((i + k : Nat) : Int) := by omega
  have hmk : (m : Int) - (k : Int) = ((m - k : Nat) : Int) := by omega
  have c2 := fun b => calls_LFeeds b (gS g) hw id i m
  have c3 := fun b => calls_LFeeds b (gS g) hw id i k
  have c4 := fun b => calls_LFeeds b (gS g) hw id ((i + k : Nat) : Int) ((m - k : Nat) : Int)
  have c5 := fun b => calls_Count hs b (gS g) hw id lFeed lFeed_ok i m
  unfold feeRes at c2 c3 c4
  unfold ctRes at c5
  rw [if_pos ⟨hk, by omega, by omega, by omega, by omega⟩] at c2 c3 c4 c5
  simp only [Int.toNat_natCast] at c2 c3 c4 c5
  rw [cnt_feed fun x hx => hby x (sub_mem hx)] at c5
  have e2 : linesN (sub (tm (gS g).E id).txt i m) = linesN (sub (tm (gS g).E id).txt i k) + linesN (sub (tm (gS g).E id).txt (i + k) (m - k)) := by
    conv => lhs; rw [show m = k + (m - k) by omega, sub_add]
    exact List.count_append
  have hln : linesN (sub (tm (gS g).E id).txt i m) ≤ m := by
    have : linesN (sub (tm (gS g).E id).txt i m) ≤ (sub (tm (gS g).E id).txt i m).length := List.count_le_length
    rwa [sub_length (by omega)] at this
  generalize linesN (sub (tm (gS g).E id).txt i m) = A at *
  generalize linesN (sub (tm (gS g).E id).txt i k) = B at *
  generalize linesN (sub (tm (gS g).E id).txt (i + k) (m - k)) = C at *
  (repeat' ((conv => whnf); first | rw [q1] | rw [hli] | rw [q2] | rw [q3] | rw [hik] | rw [hmk] | (first | refine CallK_pure (.v _) (fun w hR => c0 w) ?_ | refine QCall_pure (.v _) (fun w hR => c0 w) ?_) | ((refine CallK_new (fun w hR => c1 w (hin.cast hR (by simp))) ?_); rintro _ _ ⟨b, a1, k1, a2, k2, fpb, rfl, rfl⟩; refine ⟨.v _, rfl, ?_⟩) | (refine CallK_pure (.v _) (fun w hR => cL _ _ _ _ w (In.ownR (key := 802) hR rfl)) ?_) | (refine CallK_pack (key := 77) rfl (fun w hR h0 => c2 _ _ _ _ h0) ?_; rintro _ _ ⟨rfl, fp', rfl⟩; refine ⟨.v _, rfl, ?_⟩) | (refine CallK_pack (key := 77) rfl (fun w hR h0 => c3 _ _ _ _ h0) ?_; rintro _ _ ⟨rfl, fp', rfl⟩; refine ⟨.v _, rfl, ?_⟩) | (refine CallK_pack (key := 77) rfl (fun w hR h0 => c4 _ _ _ _ h0) ?_; rintro _ _ ⟨rfl, fp', rfl⟩; refine ⟨.v _, rfl, ?_⟩) | (refine CallK_pack (key := 77) rfl (fun w hR h0 => c5 _ _ _ _ h0) ?_; rintro _ _ ⟨rfl, fp', rfl⟩; refine ⟨.v _, rfl, ?_⟩) | (refine bcase_prop (fun h => ?_) (fun h => ?_) <;> try (exfalso; omega)) | (refine bcase_nprop (fun h => ?_) (fun h => ?_) <;> try (exfalso; omega)) | (refine bcase_intro (fun h => ?_) (fun h => ?_) <;> (try simp only [Bool.not_eq_true', Bool.not_eq_false', decide_eq_true_eq, decide_eq_false_iff_not, Bool.not_eq_true, Bool.not_eq_false, Decidable.not_not] at h)) | refine And.intro (by first | omega | exact rfl | assumption | exact ⟨rfl, rfl, rfl, rfl, rfl⟩ | exact ⟨rfl, rfl, rfl, rfl⟩ | exact ⟨rfl, by omega⟩ | exact oneAll_of rfl | exact ⟨rfl, oneAll_of rfl⟩ | exact Ref.refl _ | exact Thin.ref (.skip (Thin.refl _)) | exact Thin.ref (.skip (.skip (Thin.refl _))) | exact ⟨rfl, Nat.le_of_ble_eq_true rfl⟩ | ((try unfold maxLen); (try simp only [List.length_nil, List.length_cons, List.length_append]); omega) | (refine ⟨rfl, ?_⟩; (try simp only [List.length_nil, List.length_cons, List.length_append]); omega)) ?_ | intro _)); (all_goals (conv => whnf))
  all_goals first | (exfalso; omega) | exact ⟨rfl⟩ | (refine ⟨?_⟩; show Value.bool (decide _) = _; rw [decide_eq_true (by omega)])
end Go.Proofs.Ytohlphngnhcbfaa
/- Finding and counting letters of a text: the program. -/
namespace Go.Proofs.Ytohlphngnhcbfaa
open Go.EG
attribute [local irreducible] CallK QCall Go.Calls
set_option linter.unusedSimpArgs false
set_option linter.unusedVariables false
set_option maxRecDepth 20000
set_option maxHeartbeats 4000000

end Go.Proofs.Ytohlphngnhcbfaa
