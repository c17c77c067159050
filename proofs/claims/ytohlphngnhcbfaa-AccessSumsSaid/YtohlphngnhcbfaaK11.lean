/- Counts of the parts of a range; what is found: the program. -/
import Derived.Test.YtohlphngnhcbfaaK7
import Derived.Test.YtohlphngnhcbfaaK5
import Derived.Test.YtohlphngnhcbfaaK10
namespace Go.Proofs.Ytohlphngnhcbfaa
open Go.EG
attribute [local irreducible] CallK QCall Go.Calls
set_option linter.unusedSimpArgs false
set_option linter.unusedVariables false
set_option maxRecDepth 20000
set_option maxHeartbeats 4000000

theorem xor_all {v : Nat} (h : v < 18446744073709551616) : 18446744073709551615 ^^^ v = 18446744073709551615 - v := by
  refine Nat.eq_of_testBit_eq fun i => ?_
  have h1 := Nat.testBit_two_pow_sub_succ (n := 64) (x := v) (by simpa using h) i
  have h2 := Nat.testBit_two_pow_sub_succ (n := 64) (x := 0) (by decide) i
  rw [show 2 ^ 64 - (v + 1) = 18446744073709551615 - v by omega] at h1
  rw [show 2 ^ 64 - (0 + 1) = 18446744073709551615 by decide] at h2
  rw [Nat.testBit_xor, h1, h2]
  by_cases hi : i < 64
  · simp [hi]
  · have : v.testBit i = false := Nat.testBit_lt_two_pow (Nat.lt_of_lt_of_le h (by
      have : 2 ^ 64 ≤ 2 ^ i := Nat.pow_le_pow_right (by decide) (by omega)
      simpa using this))
    simp [hi, this]
theorem xor_i {v : Nat} (h : v < 18446744073709551616) : (((18446744073709551615 : Int).toNat ^^^ ((v : Nat) : Int).toNat : Nat) : Int) = ((18446744073709551615 - v : Nat) : Int) := by
  rw [Int.toNat_natCast, show (18446744073709551615 : Int).toNat = 18446744073709551615 from rfl, xor_all h]
def notC (s : Let4) (i : Nat) : List Value := [.int .u64 (if 0 < i then (18446744073709551615 - s.s0 : Nat) else 0), .int .u64 (if 1 < i then (18446744073709551615 - s.s1 : Nat) else 0), .int .u64 (if 2 < i then (18446744073709551615 - s.s2 : Nat) else 0), .int .u64 (if 3 < i then (18446744073709551615 - s.s3 : Nat) else 0)]

theorem law_AccessSums (hs : SortsI Try.prog fn_slices_Sort_Sl_api_ID_api_ID) (w : World) (g : List Rul) (hg : MIn g) (a : Option Addr) (c : Nat) (hin : In w [] a (rulsC g)) (pick : Int) (s : Let4) (hs4 : s.Ok) (from_ n cut : Int) (hp : -9223372036854775808 ≤ pick ∧ pick ≤ 9223372036854775807) :
    Calls Try.prog fn_evergreenlaw16_AccessSums #[.slice a g.length c, .int .i64 pick, l4V s, .int .i64 from_, .int .i64 n, .int .i64 cut] w fun e w' => e = .returned (.bool true) ∧ Ext w w' := by
  refine pure_call [.v (.slice a g.length c), .v (.int .i64 pick), .v (l4V s), .v (.int .i64 from_), .v (.int .i64 n), .v (.int .i64 cut)] w ok_evergreenlaw16_AccessSums (by simp) ?_
  have c0 := calls_awake16
  by_cases hl : g.length ≤ 40
  case neg =>
    (repeat' ((conv => whnf); first | (first | refine CallK_pure (.v _) (fun w hR => c0 w) ?_ | refine QCall_pure (.v _) (fun w hR => c0 w) ?_) | (refine bcase_prop (fun h => ?_) (fun h => ?_) <;> try (exfalso; omega)) | (refine bcase_nprop (fun h => ?_) (fun h => ?_) <;> try (exfalso; omega)) | (refine bcase_intro (fun h => ?_) (fun h => ?_) <;> (try simp only [Bool.not_eq_true', Bool.not_eq_false', decide_eq_true_eq, decide_eq_false_iff_not, Bool.not_eq_true, Bool.not_eq_false, Decidable.not_not] at h)) | refine And.intro (by first | omega | exact rfl | assumption | exact ⟨rfl, rfl, rfl, rfl, rfl⟩ | exact ⟨rfl, rfl, rfl, rfl⟩ | exact ⟨rfl, by omega⟩ | exact oneAll_of rfl | exact ⟨rfl, oneAll_of rfl⟩ | exact Ref.refl _ | exact Thin.ref (.skip (Thin.refl _)) | exact Thin.ref (.skip (.skip (Thin.refl _))) | exact ⟨rfl, Nat.le_of_ble_eq_true rfl⟩ | ((try unfold maxLen); (try simp only [List.length_nil, List.length_cons, List.length_append]); omega) | (refine ⟨rfl, ?_⟩; (try simp only [List.length_nil, List.length_cons, List.length_append]); omega)) ?_ | intro _)); (all_goals (conv => whnf))
    all_goals first | (exfalso; omega) | exact ⟨rfl⟩
  have c1 := fun w h => calls_begun16 g hg hl pick hp a c w h
  have hw := gS_wf hg hl
  have hk := gId_known hg hl pick
  have hE := gE_len hg hl
  have hby := hw.bytes (gId g pick).toNat (gId g pick) (Nat.le_refl _) hk.2
  unfold begQ at c1
  generalize gId g pick = id at *
  have hlen := hw.le hk.2
  have cL := fun a1 c1 a2 c2 w h => calls_Length (a1 := a1) (c1 := c1) (a2 := a2) (c2 := c2) (gE g) (by omega) hk.1 hk.2 w h
  have cI := calls_inside (tm (gS g).E id).len hlen from_ n
  have l1 := uMod_le from_ (tm (gS g).E id).len
  have l2 := uMod_le n ((tm (gS g).E id).len - uMod from_ (tm (gS g).E id).len)
  generalize uMod n ((tm (gS g).E id).len - uMod from_ (tm (gS g).E id).len) = m at *
  generalize uMod from_ (tm (gS g).E id).len = i at *
  have hlen' : (tm (gE g) id).len ≤ 1152921504606846976 := hlen
  have hlen2 : (tm (gS g).E id).len ≤ 1152921504606846976 := hlen
  have hTl : (tm (gS g).E id).len = (tm (gS g).E id).txt.length := rfl
  have q3 := uMod_eq cut (L := m) (by unfold LM; omega)
  have l3 := uMod_le cut m
  generalize uMod cut m = k at *
  have hik : (i : Int) + (k : Int) = ((i + k : Nat) : Int) := by omega
  have hmk : (m : Int) - (k : Int) = ((m - k : Nat) : Int) := by omega
  have c2 := fun b => calls_Count hs b (gS g) hw id s hs4 i m
  have c3 := fun b => calls_Count hs b (gS g) hw id s hs4 i k
  have c4 := fun b => calls_Count hs b (gS g) hw id s hs4 ((i + k : Nat) : Int) ((m - k : Nat) : Int)
  have c5 := fun b => calls_Count hs b (gS g) hw id s.not s.not_ok i m
  have c6 := fun b => calls_Count hs b (gS g) hw id lFeed lFeed_ok i m
  have c7 := fun b => calls_AWeight b (gS g) hw id i m
  unfold ctRes at c2 c3 c4 c5 c6
  unfold wgRes at c7
  rw [if_pos ⟨hk, by omega, by omega, by omega, by omega⟩] at c2 c3 c4 c5 c6 c7
  simp only [Int.toNat_natCast] at c2 c3 c4 c5 c6 c7
  rw [cnt_feed fun x hx => hby x (sub_mem hx)] at c6
  have hsl : (sub (tm (gS g).E id).txt i m).length = m := sub_length (by omega)
  have e2 : cnt s.has (sub (tm (gS g).E id).txt i m) = cnt s.has (sub (tm (gS g).E id).txt i k) + cnt s.has (sub (tm (gS g).E id).txt (i + k) (m - k)) := by
    conv => lhs; rw [show m = k + (m - k) by omega, sub_add]
    exact cnt_append _ _ _
  have e3 : cnt s.has (sub (tm (gS g).E id).txt i m) + cnt s.not.has (sub (tm (gS g).E id).txt i m) = m := by
    rw [cnt_congr (p := s.not.has) (q := fun x => !s.has x) fun x hx => Let4.not_has hs4 (hby x (sub_mem hx)), cnt_not, hsl]
  generalize sub (tm (gS g).E id).txt i m = X at *
  generalize cnt s.has X = A at *
  generalize cnt s.not.has X = D at *
  generalize cnt s.has (sub (tm (gS g).E id).txt i k) = B at *
  generalize cnt s.has (sub (tm (gS g).E id).txt (i + k) (m - k)) = C at *
  have x0 := xor_i hs4.h0
  have x1 := xor_i hs4.h1
  have x2 := xor_i hs4.h2
  have x3 := xor_i hs4.h3
  have ho := hs4.h0
  have hp1 := hs4.h1
  have hp2 := hs4.h2
  have hp3 := hs4.h3
  (repeat' ((conv => whnf); first | rw [q3] | rw [hik] | rw [hmk] | (first | refine CallK_pure (.v _) (fun w hR => c0 w) ?_ | refine QCall_pure (.v _) (fun w hR => c0 w) ?_) | (first | refine CallK_pure (.v _) (fun w hR => cI w) ?_ | refine QCall_pure (.v _) (fun w hR => cI w) ?_) | ((refine CallK_new (fun w hR => c1 w (hin.cast hR (by simp))) ?_); rintro _ _ ⟨b, a1, k1, a2, k2, fpb, rfl, rfl⟩; refine ⟨.v _, rfl, ?_⟩) | (refine CallK_pure (.v _) (fun w hR => cL _ _ _ _ w (In.ownR (key := 802) hR rfl)) ?_) | (refine bcase_prop (fun h => ?_) (fun h => ?_) <;> try (exfalso; omega)) | (refine bcase_nprop (fun h => ?_) (fun h => ?_) <;> try (exfalso; omega)) | (refine bcase_intro (fun h => ?_) (fun h => ?_) <;> (try simp only [Bool.not_eq_true', Bool.not_eq_false', decide_eq_true_eq, decide_eq_false_iff_not, Bool.not_eq_true, Bool.not_eq_false, Decidable.not_not] at h)) | refine And.intro (by first | omega | exact rfl | assumption | exact ⟨rfl, rfl, rfl, rfl, rfl⟩ | exact ⟨rfl, rfl, rfl, rfl⟩ | exact ⟨rfl, by omega⟩ | exact oneAll_of rfl | exact ⟨rfl, oneAll_of rfl⟩ | exact Ref.refl _ | exact Thin.ref (.skip (Thin.refl _)) | exact Thin.ref (.skip (.skip (Thin.refl _))) | exact ⟨rfl, Nat.le_of_ble_eq_true rfl⟩ | ((try unfold maxLen); (try simp only [List.length_nil, List.length_cons, List.length_append]); omega) | (refine ⟨rfl, ?_⟩; (try simp only [List.length_nil, List.length_cons, List.length_append]); omega)) ?_ | intro _)); (all_goals (conv => whnf))
  rename_i b8 b14 b17
  refine VC_loop Nat (fun x => [(3, .v (.int .i64 i)), (4, .v (.int .i64 m)), (5, .v (.int .i64 k)), (8, .ptr 8 b8 0), (13, .v (pS b)), (15, .v (.int .i64 id)), (17, .ptr 17 b17 0), (65, .v (.int .i64 x))])
    (fun x => [.box 17 b17 (notC s x) ty_api_Letters, packE 77 fpb (fS b (gS g)), .box 8 b8 (l4C s) ty_api_Letters]) (fun x => x ≤ 4) (fun x => 4 - x) 0 (Nat.zero_le _) (by (repeat ((conv => whnf); refine And.intro (by first | exact rfl | exact vint_eq (by omega) | exact vint_eq (by (dsimp only; omega)) | exact vsl_eq (by omega) | exact vsl_eq (by first | (dsimp only; omega) | (simp; done) | (simp; omega))) ?_)); exact trivial) (Thin.ref (.keep rfl (fun _ h => h) (.skip (.keep rfl (fun _ h => h) (.skip (.skip (.keep rfl (fun _ h => h) (.nil _)))))))) ?_
  intro x hx
  have hx5 : x = 0 ∨ x = 1 ∨ x = 2 ∨ x = 3 ∨ x = 4 := by omega
  rcases hx5 with rfl | rfl | rfl | rfl | rfl
  · (repeat' ((conv => whnf); first | rw [x0] | (refine bcase_prop (fun h => ?_) (fun h => ?_) <;> try (exfalso; omega)) | (refine bcase_nprop (fun h => ?_) (fun h => ?_) <;> try (exfalso; omega)) | (refine bcase_intro (fun h => ?_) (fun h => ?_) <;> (try simp only [Bool.not_eq_true', Bool.not_eq_false', decide_eq_true_eq, decide_eq_false_iff_not, Bool.not_eq_true, Bool.not_eq_false, Decidable.not_not] at h)) | refine And.intro (by first | omega | exact rfl | assumption | exact ⟨rfl, rfl, rfl, rfl, rfl⟩ | exact ⟨rfl, rfl, rfl, rfl⟩ | exact ⟨rfl, by omega⟩ | exact oneAll_of rfl | exact ⟨rfl, oneAll_of rfl⟩ | exact Ref.refl _ | exact Thin.ref (.skip (Thin.refl _)) | exact Thin.ref (.skip (.skip (Thin.refl _))) | exact ⟨rfl, Nat.le_of_ble_eq_true rfl⟩ | ((try unfold maxLen); (try simp only [List.length_nil, List.length_cons, List.length_append]); omega) | (refine ⟨rfl, ?_⟩; (try simp only [List.length_nil, List.length_cons, List.length_append]); omega)) ?_ | intro _)); (all_goals (conv => whnf))
    all_goals first | (exfalso; omega) | skip
    exact loop_next 1 (by omega) (by omega) (by (repeat ((conv => whnf); refine And.intro (by first | exact rfl | exact vint_eq (by omega) | exact vint_eq (by (dsimp only; omega)) | exact vsl_eq (by omega) | exact vsl_eq (by first | (dsimp only; omega) | (simp; done) | (simp; omega))) ?_)); exact trivial) (Ref.refl _)
  · (repeat' ((conv => whnf); first | rw [x1] | (refine bcase_prop (fun h => ?_) (fun h => ?_) <;> try (exfalso; omega)) | (refine bcase_nprop (fun h => ?_) (fun h => ?_) <;> try (exfalso; omega)) | (refine bcase_intro (fun h => ?_) (fun h => ?_) <;> (try simp only [Bool.not_eq_true', Bool.not_eq_false', decide_eq_true_eq, decide_eq_false_iff_not, Bool.not_eq_true, Bool.not_eq_false, Decidable.not_not] at h)) | refine And.intro (by first | omega | exact rfl | assumption | exact ⟨rfl, rfl, rfl, rfl, rfl⟩ | exact ⟨rfl, rfl, rfl, rfl⟩ | exact ⟨rfl, by omega⟩ | exact oneAll_of rfl | exact ⟨rfl, oneAll_of rfl⟩ | exact Ref.refl _ | exact Thin.ref (.skip (Thin.refl _)) | exact Thin.ref (.skip (.skip (Thin.refl _))) | exact ⟨rfl, Nat.le_of_ble_eq_true rfl⟩ | ((try unfold maxLen); (try simp only [List.length_nil, List.length_cons, List.length_append]); omega) | (refine ⟨rfl, ?_⟩; (try simp only [List.length_nil, List.length_cons, List.length_append]); omega)) ?_ | intro _)); (all_goals (conv => whnf))
    all_goals first | (exfalso; omega) | skip
    exact loop_next 2 (by omega) (by omega) (by (repeat ((conv => whnf); refine And.intro (by first | exact rfl | exact vint_eq (by omega) | exact vint_eq (by (dsimp only; omega)) | exact vsl_eq (by omega) | exact vsl_eq (by first | (dsimp only; omega) | (simp; done) | (simp; omega))) ?_)); exact trivial) (Ref.refl _)
  · (repeat' ((conv => whnf); first | rw [x2] | (refine bcase_prop (fun h => ?_) (fun h => ?_) <;> try (exfalso; omega)) | (refine bcase_nprop (fun h => ?_) (fun h => ?_) <;> try (exfalso; omega)) | (refine bcase_intro (fun h => ?_) (fun h => ?_) <;> (try simp only [Bool.not_eq_true', Bool.not_eq_false', decide_eq_true_eq, decide_eq_false_iff_not, Bool.not_eq_true, Bool.not_eq_false, Decidable.not_not] at h)) | refine And.intro (by first | omega | exact rfl | assumption | exact ⟨rfl, rfl, rfl, rfl, rfl⟩ | exact ⟨rfl, rfl, rfl, rfl⟩ | exact ⟨rfl, by omega⟩ | exact oneAll_of rfl | exact ⟨rfl, oneAll_of rfl⟩ | exact Ref.refl _ | exact Thin.ref (.skip (Thin.refl _)) | exact Thin.ref (.skip (.skip (Thin.refl _))) | exact ⟨rfl, Nat.le_of_ble_eq_true rfl⟩ | ((try unfold maxLen); (try simp only [List.length_nil, List.length_cons, List.length_append]); omega) | (refine ⟨rfl, ?_⟩; (try simp only [List.length_nil, List.length_cons, List.length_append]); omega)) ?_ | intro _)); (all_goals (conv => whnf))
    all_goals first | (exfalso; omega) | skip
    exact loop_next 3 (by omega) (by omega) (by (repeat ((conv => whnf); refine And.intro (by first | exact rfl | exact vint_eq (by omega) | exact vint_eq (by (dsimp only; omega)) | exact vsl_eq (by omega) | exact vsl_eq (by first | (dsimp only; omega) | (simp; done) | (simp; omega))) ?_)); exact trivial) (Ref.refl _)
  · (repeat' ((conv => whnf); first | rw [x3] | (refine bcase_prop (fun h => ?_) (fun h => ?_) <;> try (exfalso; omega)) | (refine bcase_nprop (fun h => ?_) (fun h => ?_) <;> try (exfalso; omega)) | (refine bcase_intro (fun h => ?_) (fun h => ?_) <;> (try simp only [Bool.not_eq_true', Bool.not_eq_false', decide_eq_true_eq, decide_eq_false_iff_not, Bool.not_eq_true, Bool.not_eq_false, Decidable.not_not] at h)) | refine And.intro (by first | omega | exact rfl | assumption | exact ⟨rfl, rfl, rfl, rfl, rfl⟩ | exact ⟨rfl, rfl, rfl, rfl⟩ | exact ⟨rfl, by omega⟩ | exact oneAll_of rfl | exact ⟨rfl, oneAll_of rfl⟩ | exact Ref.refl _ | exact Thin.ref (.skip (Thin.refl _)) | exact Thin.ref (.skip (.skip (Thin.refl _))) | exact ⟨rfl, Nat.le_of_ble_eq_true rfl⟩ | ((try unfold maxLen); (try simp only [List.length_nil, List.length_cons, List.length_append]); omega) | (refine ⟨rfl, ?_⟩; (try simp only [List.length_nil, List.length_cons, List.length_append]); omega)) ?_ | intro _)); (all_goals (conv => whnf))
    all_goals first | (exfalso; omega) | skip
    exact loop_next 4 (by omega) (by omega) (by (repeat ((conv => whnf); refine And.intro (by first | exact rfl | exact vint_eq (by omega) | exact vint_eq (by (dsimp only; omega)) | exact vsl_eq (by omega) | exact vsl_eq (by first | (dsimp only; omega) | (simp; done) | (simp; omega))) ?_)); exact trivial) (Ref.refl _)
  · (repeat' ((conv => whnf); first | rw [hik] | rw [hmk] | (refine CallK_pack (key := 77) rfl (fun w hR h0 => c2 _ _ _ _ h0) ?_; rintro _ _ ⟨rfl, fp', rfl⟩; refine ⟨.v _, rfl, ?_⟩) | (refine CallK_pack (key := 77) rfl (fun w hR h0 => c3 _ _ _ _ h0) ?_; rintro _ _ ⟨rfl, fp', rfl⟩; refine ⟨.v _, rfl, ?_⟩) | (refine CallK_pack (key := 77) rfl (fun w hR h0 => c4 _ _ _ _ h0) ?_; rintro _ _ ⟨rfl, fp', rfl⟩; refine ⟨.v _, rfl, ?_⟩) | (refine CallK_pack (key := 77) rfl (fun w hR h0 => c5 _ _ _ _ h0) ?_; rintro _ _ ⟨rfl, fp', rfl⟩; refine ⟨.v _, rfl, ?_⟩) | (refine CallK_pack (key := 77) rfl (fun w hR h0 => c6 _ _ _ _ h0) ?_; rintro _ _ ⟨rfl, fp', rfl⟩; refine ⟨.v _, rfl, ?_⟩) | (refine CallK_pack (key := 77) rfl (fun w hR h0 => c7 _ _ _ _ h0) ?_; rintro _ _ ⟨rfl, fp', rfl⟩; refine ⟨.v _, rfl, ?_⟩) | (refine bcase_prop (fun h => ?_) (fun h => ?_) <;> try (exfalso; omega)) | (refine bcase_nprop (fun h => ?_) (fun h => ?_) <;> try (exfalso; omega)) | (refine bcase_intro (fun h => ?_) (fun h => ?_) <;> (try simp only [Bool.not_eq_true', Bool.not_eq_false', decide_eq_true_eq, decide_eq_false_iff_not, Bool.not_eq_true, Bool.not_eq_false, Decidable.not_not] at h)) | refine And.intro (by first | omega | exact rfl | assumption | exact ⟨rfl, rfl, rfl, rfl, rfl⟩ | exact ⟨rfl, rfl, rfl, rfl⟩ | exact ⟨rfl, by omega⟩ | exact oneAll_of rfl | exact ⟨rfl, oneAll_of rfl⟩ | exact Ref.refl _ | exact Thin.ref (.skip (Thin.refl _)) | exact Thin.ref (.skip (.skip (Thin.refl _))) | exact ⟨rfl, Nat.le_of_ble_eq_true rfl⟩ | ((try unfold maxLen); (try simp only [List.length_nil, List.length_cons, List.length_append]); omega) | (refine ⟨rfl, ?_⟩; (try simp only [List.length_nil, List.length_cons, List.length_append]); omega)) ?_ | intro _)); (all_goals (conv => whnf))
    all_goals first | (exfalso; omega) | exact ⟨rfl⟩ | (refine ⟨?_⟩; show Value.bool (decide _) = _; rw [decide_eq_true (by omega)])

end Go.Proofs.Ytohlphngnhcbfaa
