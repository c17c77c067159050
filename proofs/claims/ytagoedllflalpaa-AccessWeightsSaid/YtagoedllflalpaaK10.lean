/- Weights of ranges and their parts: the program. -/
import Derived.Test.YtagoedllflalpaaK6
import Derived.Test.YtagoedllflalpaaK9
namespace Go.Proofs.Ytagoedllflalpaa
open Go.EG
attribute [local irreducible] CallK QCall Go.Calls
set_option linter.unusedSimpArgs false
set_option linter.unusedVariables false
set_option maxRecDepth 20000
set_option maxHeartbeats 4000000

theorem calls_inside (L : Nat) (hL : L ≤ LM) (f n : Int) (w : World) : Calls Try.prog fn_evergreenlaw16_inside #[.int .i64 L, .int .i64 f, .int .i64 n] w fun e w' => e = .returned (.tuple #[.int .i64 (uMod f L), .int .i64 (uMod n (L - uMod f L))]) ∧ Ext w w' := by
  refine pure_call [.v (.int .i64 L), .v (.int .i64 f), .v (.int .i64 n)] w ok_evergreenlaw16_inside (by simp) ?_
  have q1 := uMod_eq f hL
  have l1 := uMod_le f L
  have q2 := uMod_eq n (L := L - uMod f L) (by omega)
  have l2 := uMod_le n (L - uMod f L)
  have hL' : L ≤ 1152921504606846976 := hL
  generalize uMod n (L - uMod f L) = v at *
  generalize uMod f L = u at *
  have hs : (L : Int) - (u : Int) = ((L - u : Nat) : Int) := by omega
  (repeat' ((conv => whnf); first | rw [q1] | rw [hs] | rw [q2] | (refine bcase_prop (fun h => ?_) (fun h => ?_) <;> try (exfalso; omega)) | (refine bcase_nprop (fun h => ?_) (fun h => ?_) <;> try (exfalso; omega)) | (refine bcase_intro (fun h => ?_) (fun h => ?_) <;> (try simp only [Bool.not_eq_true', Bool.not_eq_false', decide_eq_true_eq, decide_eq_false_iff_not, Bool.not_eq_true, Bool.not_eq_false, Decidable.not_not] at h)) | refine And.intro (by first | omega | exact rfl | assumption | exact ⟨rfl, rfl, rfl, rfl, rfl⟩ | exact ⟨rfl, rfl, rfl, rfl⟩ | exact ⟨rfl, by omega⟩ | exact oneAll_of rfl | exact ⟨rfl, oneAll_of rfl⟩ | exact Ref.refl _ | exact Thin.ref (.skip (Thin.refl _)) | exact Thin.ref (.skip (.skip (Thin.refl _))) | exact ⟨rfl, Nat.le_of_ble_eq_true rfl⟩ | ((try unfold maxLen); (try simp only [List.length_nil, List.length_cons, List.length_append]); omega) | (refine ⟨rfl, ?_⟩; (try simp only [List.length_nil, List.length_cons, List.length_append]); omega)) ?_ | intro _)); (all_goals (conv => whnf))
  exact ⟨rfl⟩

theorem law_AccessGreat (w : World) (g : List Rul) (hg : MIn g) (a : Option Addr) (c : Nat) (hin : In w [] a (rulsC g)) (pick from_ n cut : Int) (hp : -9223372036854775808 ≤ pick ∧ pick ≤ 9223372036854775807) :
    Calls Try.prog fn_evergreenlaw16_AccessGreat #[.slice a g.length c, .int .i64 pick, .int .i64 from_, .int .i64 n, .int .i64 cut] w fun e w' => e = .returned (.bool true) ∧ Ext w w' := by
  refine pure_call [.v (.slice a g.length c), .v (.int .i64 pick), .v (.int .i64 from_), .v (.int .i64 n), .v (.int .i64 cut)] w ok_evergreenlaw16_AccessGreat (by simp) ?_
  have c0 := calls_awake16
  by_cases hl : g.length ≤ 40
  case neg =>
    (repeat' ((conv => whnf); first | (first | refine CallK_pure (.v _) (fun w hR => c0 w) ?_ | refine QCall_pure (.v _) (fun w hR => c0 w) ?_) | (refine bcase_prop (fun h => ?_) (fun h => ?_) <;> try (exfalso; omega)) | (refine bcase_nprop (fun h => ?_) (fun h => ?_) <;> try (exfalso; omega)) | (refine bcase_intro (fun h => ?_) (fun h => ?_) <;> (try simp only [Bool.not_eq_true', Bool.not_eq_false', decide_eq_true_eq, decide_eq_false_iff_not, Bool.not_eq_true, Bool.not_eq_false, Decidable.not_not] at h)) | refine And.intro (by first | omega | exact rfl | assumption | exact ⟨rfl, rfl, rfl, rfl, rfl⟩ | exact ⟨rfl, rfl, rfl, rfl⟩ | exact ⟨rfl, by omega⟩ | exact oneAll_of rfl | exact ⟨rfl, oneAll_of rfl⟩ | exact Ref.refl _ | exact Thin.ref (.skip (Thin.refl _)) | exact Thin.ref (.skip (.skip (Thin.refl _))) | exact ⟨rfl, Nat.le_of_ble_eq_true rfl⟩ | ((try unfold maxLen); (try simp only [List.length_nil, List.length_cons, List.length_append]); omega) | (refine ⟨rfl, ?_⟩; (try simp only [List.length_nil, List.length_cons, List.length_append]); omega)) ?_ | intro _)); (all_goals (conv => whnf))
    all_goals first | (exfalso; omega) | exact ⟨rfl⟩
  have c1 := fun w h => calls_begun16 g hg hl pick hp a c w h
  have hw := gS_wf hg hl
  have hk := gId_known hg hl pick
  have hE := gE_len hg hl
  unfold begQ at c1
  generalize gId g pick = id at *
  have hlen := hw.le hk.2
  have cL := fun a1 c1 a2 c2 w h => calls_Length (a1 := a1) (c1 := c1) (a2 := a2) (c2 := c2) (gE g) (by omega) hk.1 hk.2 w h
  have cI := calls_inside (tm (gS g).E id).len hlen from_ n
  have l1 := uMod_le from_ (tm (gS g).E id).len
  have l2 := uMod_le n ((tm (gS g).E id).len - uMod from_ (tm (gS g).E id).len)
  generalize uMod n ((tm (gS g).E id).len - uMod from_ (tm (gS g).E id).len) = m at *
  generalize uMod from_ (tm (gS g).E id).len = i at *
  have hlen' : (tm (gE g) id).len ≤ 1152921504606846976 := hlen
  have hlen2 : (tm (gS g).E id).len ≤ 1152921504606846976 := hlen
  have hTl : (tm (gS g).E id).len = (tm (gS g).E id).txt.length := rfl
  have q3 := uMod_eq cut (L := m) (by unfold LM; omega)
  have l3 := uMod_le cut m
  generalize uMod cut m = k at *
  have hik : (i : Int) + (k : Int) = ((i + k : Nat) : Int) := by omega
  have hmk : (m : Int) - (k : Int) = ((m - k : Nat) : Int) := by omega
  have c2 := fun b => calls_AWeight b (gS g) hw id i m
  have c3 := fun b => calls_AWeight b (gS g) hw id i k
  have c4 := fun b => calls_AWeight b (gS g) hw id ((i + k : Nat) : Int) ((m - k : Nat) : Int)
  have c5 := fun b => calls_AWeight b (gS g) hw id 0 (tm (gS g).E id).len
  have c6 := fun b => calls_SWeight b (gS g) id hw.small
  rw [wtRes_ok hk] at c6
  unfold wgRes at c2 c3 c4 c5
  rw [if_pos ⟨hk, by omega, by omega, by omega, by omega⟩] at c2 c3 c4 c5
  simp only [Int.toNat_natCast, show (0 : Int).toNat = 0 from rfl] at c2 c3 c4 c5
  have e5 : sub (tm (gS g).E id).txt 0 (tm (gS g).E id).len = (tm (gS g).E id).txt := sub_all _
  rw [e5] at c5
  have e2 : sub (tm (gS g).E id).txt i m = sub (tm (gS g).E id).txt i k ++ sub (tm (gS g).E id).txt (i + k) (m - k) := by
    conv => lhs; rw [show m = k + (m - k) by omega, sub_add]
  have cJ := calls_wJoin (sub (tm (gS g).E id).txt i k) (sub (tm (gS g).E id).txt (i + k) (m - k)) (by rw [sub_length (by omega), sub_length (by omega)]; unfold LM; omega)
  rw [e2] at c2
  generalize sub (tm (gS g).E id).txt i k = A at *
  generalize sub (tm (gS g).E id).txt (i + k) (m - k) = B at *
  (repeat' ((conv => whnf); first | rw [q3] | rw [hik] | rw [hmk] | (first | refine CallK_pure (.v _) (fun w hR => c0 w) ?_ | refine QCall_pure (.v _) (fun w hR => c0 w) ?_) | (first | refine CallK_pure (.v _) (fun w hR => cI w) ?_ | refine QCall_pure (.v _) (fun w hR => cI w) ?_) | (first | refine CallK_pure (.v _) (fun w hR => cJ w) ?_ | refine QCall_pure (.v _) (fun w hR => cJ w) ?_) | ((refine CallK_new (fun w hR => c1 w (hin.cast hR (by simp))) ?_); rintro _ _ ⟨b, a1, k1, a2, k2, fpb, rfl, rfl⟩; refine ⟨.v _, rfl, ?_⟩) | (refine CallK_pure (.v _) (fun w hR => cL _ _ _ _ w (In.ownR (key := 802) hR rfl)) ?_) | (refine CallK_pack (key := 77) rfl (fun w hR h0 => c2 _ _ _ _ h0) ?_; rintro _ _ ⟨rfl, fp', rfl⟩; refine ⟨.v _, rfl, ?_⟩) | (refine CallK_pack (key := 77) rfl (fun w hR h0 => c3 _ _ _ _ h0) ?_; rintro _ _ ⟨rfl, fp', rfl⟩; refine ⟨.v _, rfl, ?_⟩) | (refine CallK_pack (key := 77) rfl (fun w hR h0 => c4 _ _ _ _ h0) ?_; rintro _ _ ⟨rfl, fp', rfl⟩; refine ⟨.v _, rfl, ?_⟩) | (refine CallK_pack (key := 77) rfl (fun w hR h0 => c5 _ _ _ _ h0) ?_; rintro _ _ ⟨rfl, fp', rfl⟩; refine ⟨.v _, rfl, ?_⟩) | (refine CallK_pack (key := 77) rfl (fun w hR h0 => c6 _ _ _ _ h0) ?_; rintro _ _ ⟨rfl, fp', rfl⟩; refine ⟨.v _, rfl, ?_⟩) | (refine bcase_prop (fun h => ?_) (fun h => ?_) <;> try (exfalso; omega)) | (refine bcase_nprop (fun h => ?_) (fun h => ?_) <;> try (exfalso; omega)) | (refine bcase_intro (fun h => ?_) (fun h => ?_) <;> (try simp only [Bool.not_eq_true', Bool.not_eq_false', decide_eq_true_eq, decide_eq_false_iff_not, Bool.not_eq_true, Bool.not_eq_false, Decidable.not_not] at h)) | refine And.intro (by first | omega | exact rfl | assumption | exact ⟨rfl, rfl, rfl, rfl, rfl⟩ | exact ⟨rfl, rfl, rfl, rfl⟩ | exact ⟨rfl, by omega⟩ | exact oneAll_of rfl | exact ⟨rfl, oneAll_of rfl⟩ | exact Ref.refl _ | exact Thin.ref (.skip (Thin.refl _)) | exact Thin.ref (.skip (.skip (Thin.refl _))) | exact ⟨rfl, Nat.le_of_ble_eq_true rfl⟩ | ((try unfold maxLen); (try simp only [List.length_nil, List.length_cons, List.length_append]); omega) | (refine ⟨rfl, ?_⟩; (try simp only [List.length_nil, List.length_cons, List.length_append]); omega)) ?_ | intro _)); (all_goals (conv => whnf))
  all_goals first | (exfalso; omega) | exact ⟨rfl⟩
end Go.Proofs.Ytagoedllflalpaa
/- Weights of ranges, by the reference: the program. -/
namespace Go.Proofs.Ytagoedllflalpaa
open Go.EG
attribute [local irreducible] CallK QCall Go.Calls
set_option linter.unusedSimpArgs false
set_option linter.unusedVariables false
set_option maxRecDepth 20000
set_option maxHeartbeats 4000000

/-! ### Digests, by the reference -/

theorem calls_r5Add (a b : Nat) (ha : a < PP) (hb : b < PP) (w : World) : Calls Try.prog fn_evergreenref05_Add #[.int .u64 a, .int .u64 b] w fun e w' => e = .returned (.int .u64 ((a + b) % PP : Nat)) ∧ Ext w w' := by
  refine pure_call [.v (.int .u64 a), .v (.int .u64 b)] w ok_evergreenref05_Add (by simp) ?_
  have hP : PP = 2305843009213693951 := rfl
  have e1 : ((a : Int) + (b : Int)) % 18446744073709551616 = ((a + b : Nat) : Int) := by omega
  have e2 : ((a + b : Nat) : Int) % 2305843009213693951 = (((a + b) % PP : Nat) : Int) := by rw [hP]; omega
  (repeat' ((conv => whnf); first | rw [e1] | rw [e2] | (refine bcase_prop (fun h => ?_) (fun h => ?_) <;> try (exfalso; omega)) | (refine bcase_nprop (fun h => ?_) (fun h => ?_) <;> try (exfalso; omega)) | (refine bcase_intro (fun h => ?_) (fun h => ?_) <;> (try simp only [Bool.not_eq_true', Bool.not_eq_false', decide_eq_true_eq, decide_eq_false_iff_not, Bool.not_eq_true, Bool.not_eq_false, Decidable.not_not] at h)) | refine And.intro (by first | omega | exact rfl | assumption | exact ⟨rfl, rfl, rfl, rfl, rfl⟩ | exact ⟨rfl, rfl, rfl, rfl⟩ | exact ⟨rfl, by omega⟩ | exact oneAll_of rfl | exact ⟨rfl, oneAll_of rfl⟩ | exact Ref.refl _ | exact Thin.ref (.skip (Thin.refl _)) | exact Thin.ref (.skip (.skip (Thin.refl _))) | exact ⟨rfl, Nat.le_of_ble_eq_true rfl⟩ | ((try unfold maxLen); (try simp only [List.length_nil, List.length_cons, List.length_append]); omega) | (refine ⟨rfl, ?_⟩; (try simp only [List.length_nil, List.length_cons, List.length_append]); omega)) ?_ | intro _)); (all_goals (conv => whnf))
  exact ⟨rfl⟩
structure M5G where
  n : Nat
  a : Nat
  b : Nat
theorem calls_r5Mul (a b : Nat) (ha : a ≤ 18446744073709551615) (hb : b ≤ 18446744073709551615) (w : World) : Calls Try.prog fn_evergreenref05_Mul #[.int .u64 a, .int .u64 b] w fun e w' => e = .returned (.int .u64 (a * b % PP : Nat)) ∧ Ext w w' := by
  refine pure_call [.v (.int .u64 a), .v (.int .u64 b)] w ok_evergreenref05_Mul (by simp) ?_
  have hP : PP = 2305843009213693951 := rfl
  have e1 : (a : Int) % 2305843009213693951 = ((a % PP : Nat) : Int) := by rw [hP]; omega
  have e2 : (b : Int) % 2305843009213693951 = ((b % PP : Nat) : Int) := by rw [hP]; omega
  (repeat' ((conv => whnf); first | rw [e1] | rw [e2] | (refine bcase_prop (fun h => ?_) (fun h => ?_) <;> try (exfalso; omega)) | (refine bcase_nprop (fun h => ?_) (fun h => ?_) <;> try (exfalso; omega)) | (refine bcase_intro (fun h => ?_) (fun h => ?_) <;> (try simp only [Bool.not_eq_true', Bool.not_eq_false', decide_eq_true_eq, decide_eq_false_iff_not, Bool.not_eq_true, Bool.not_eq_false, Decidable.not_not] at h)) | refine And.intro (by first | omega | exact rfl | assumption | exact ⟨rfl, rfl, rfl, rfl, rfl⟩ | exact ⟨rfl, rfl, rfl, rfl⟩ | exact ⟨rfl, by omega⟩ | exact oneAll_of rfl | exact ⟨rfl, oneAll_of rfl⟩ | exact Ref.refl _ | exact Thin.ref (.skip (Thin.refl _)) | exact Thin.ref (.skip (.skip (Thin.refl _))) | exact ⟨rfl, Nat.le_of_ble_eq_true rfl⟩ | ((try unfold maxLen); (try simp only [List.length_nil, List.length_cons, List.length_append]); omega) | (refine ⟨rfl, ?_⟩; (try simp only [List.length_nil, List.length_cons, List.length_append]); omega)) ?_ | intro _)); (all_goals (conv => whnf))
  refine VC_loop M5G (fun x => [(0, .v (.int .u64 x.a)), (1, .v (.int .u64 x.b)), (5, .v (.int .u64 x.n))]) (fun _ => []) (fun x => x.n < PP ∧ x.a < PP ∧ x.b < PP ∧ (x.n + x.a * x.b) % PP = a * b % PP) (fun x => x.b) ⟨0, a % PP, b % PP⟩ ⟨by show 0 < PP; decide, Nat.mod_lt _ (by decide), Nat.mod_lt _ (by decide), by rw [Nat.zero_add, ← Nat.mul_mod]⟩ (by (repeat ((conv => whnf); refine And.intro (by first | exact rfl | exact vint_eq (by omega) | exact vint_eq (by (dsimp only; omega)) | exact vsl_eq (by omega) | exact vsl_eq (by first | (dsimp only; omega) | (simp; done) | (simp; omega))) ?_)); exact trivial) (Ref.refl _) ?_
  rintro ⟨n, a', b'⟩ ⟨h1, h2, h3, h4⟩
  dsimp only at h1 h2 h3 h4 ⊢
  have hbit : (b' : Int) % 2 = ((b' % 2 : Nat) : Int) := by omega
  have hhalf : (b' : Int) / 2 = ((b' / 2 : Nat) : Int) := by omega
  have c1 := calls_r5Add n a' h1 h2
  have c2 := calls_r5Add a' a' h2 h2
  have l1 := Nat.mod_lt (n + a') (show 0 < PP by decide)
  have l2 := Nat.mod_lt (a' + a') (show 0 < PP by decide)
  by_cases hb0 : b' = 0
  · subst hb0
    rw [Nat.mul_zero, Nat.add_zero, Nat.mod_eq_of_lt h1] at h4
    subst h4
    (repeat' ((conv => whnf); first | (refine bcase_prop (fun h => ?_) (fun h => ?_) <;> try (exfalso; omega)) | (refine bcase_nprop (fun h => ?_) (fun h => ?_) <;> try (exfalso; omega)) | (refine bcase_intro (fun h => ?_) (fun h => ?_) <;> (try simp only [Bool.not_eq_true', Bool.not_eq_false', decide_eq_true_eq, decide_eq_false_iff_not, Bool.not_eq_true, Bool.not_eq_false, Decidable.not_not] at h)) | refine And.intro (by first | omega | exact rfl | assumption | exact ⟨rfl, rfl, rfl, rfl, rfl⟩ | exact ⟨rfl, rfl, rfl, rfl⟩ | exact ⟨rfl, by omega⟩ | exact oneAll_of rfl | exact ⟨rfl, oneAll_of rfl⟩ | exact Ref.refl _ | exact Thin.ref (.skip (Thin.refl _)) | exact Thin.ref (.skip (.skip (Thin.refl _))) | exact ⟨rfl, Nat.le_of_ble_eq_true rfl⟩ | ((try unfold maxLen); (try simp only [List.length_nil, List.length_cons, List.length_append]); omega) | (refine ⟨rfl, ?_⟩; (try simp only [List.length_nil, List.length_cons, List.length_append]); omega)) ?_ | intro _)); (all_goals (conv => whnf))
    all_goals first | (exfalso; omega) | exact ⟨rfl⟩
  · have hd := Nat.div_add_mod b' 2
    by_cases hodd : b' % 2 = 1
    · have h5 : ((n + a') % PP + (a' + a') % PP * (b' / 2)) % PP = a * b % PP := by
        rw [← h4]
        conv => rhs; rw [← hd, hodd]
        rw [Nat.add_mod, Nat.mod_mod, Nat.mod_mul_mod, ← Nat.add_mod]
        congr 1
        rw [Nat.mul_add, Nat.mul_one, ← Nat.mul_two, Nat.mul_assoc]; omega
      rw [hP] at h1 h2 h3
      (repeat' ((conv => whnf); first | rw [hbit] | rw [hhalf] | (first | refine CallK_pure (.v _) (fun w hR => c1 w) ?_ | refine QCall_pure (.v _) (fun w hR => c1 w) ?_) | (first | refine CallK_pure (.v _) (fun w hR => c2 w) ?_ | refine QCall_pure (.v _) (fun w hR => c2 w) ?_) | (refine bcase_prop (fun h => ?_) (fun h => ?_) <;> try (exfalso; omega)) | (refine bcase_nprop (fun h => ?_) (fun h => ?_) <;> try (exfalso; omega)) | (refine bcase_intro (fun h => ?_) (fun h => ?_) <;> (try simp only [Bool.not_eq_true', Bool.not_eq_false', decide_eq_true_eq, decide_eq_false_iff_not, Bool.not_eq_true, Bool.not_eq_false, Decidable.not_not] at h)) | refine And.intro (by first | omega | exact rfl | assumption | exact ⟨rfl, rfl, rfl, rfl, rfl⟩ | exact ⟨rfl, rfl, rfl, rfl⟩ | exact ⟨rfl, by omega⟩ | exact oneAll_of rfl | exact ⟨rfl, oneAll_of rfl⟩ | exact Ref.refl _ | exact Thin.ref (.skip (Thin.refl _)) | exact Thin.ref (.skip (.skip (Thin.refl _))) | exact ⟨rfl, Nat.le_of_ble_eq_true rfl⟩ | ((try unfold maxLen); (try simp only [List.length_nil, List.length_cons, List.length_append]); omega) | (refine ⟨rfl, ?_⟩; (try simp only [List.length_nil, List.length_cons, List.length_append]); omega)) ?_ | intro _)); (all_goals (conv => whnf))
      all_goals first | (exfalso; omega) | skip
      exact loop_next ⟨(n + a') % PP, (a' + a') % PP, b' / 2⟩ ⟨l1, l2, by dsimp only; rw [hP]; omega, h5⟩ (by dsimp only; omega) (by (repeat ((conv => whnf); refine And.intro (by first | exact rfl | exact vint_eq (by omega) | exact vint_eq (by (dsimp only; omega)) | exact vsl_eq (by omega) | exact vsl_eq (by first | (dsimp only; omega) | (simp; done) | (simp; omega))) ?_)); exact trivial) (Ref.refl _)
    · have h5 : (n + (a' + a') % PP * (b' / 2)) % PP = a * b % PP := by
        rw [← h4]
        conv => rhs; rw [← hd, show b' % 2 = 0 by omega]
        rw [Nat.add_mod, Nat.mod_mul_mod, ← Nat.add_mod]
        congr 1
        rw [Nat.add_zero, ← Nat.mul_two, Nat.mul_assoc]
      rw [hP] at h1 h2 h3
      (repeat' ((conv => whnf); first | rw [hbit] | rw [hhalf] | (first | refine CallK_pure (.v _) (fun w hR => c1 w) ?_ | refine QCall_pure (.v _) (fun w hR => c1 w) ?_) | (first | refine CallK_pure (.v _) (fun w hR => c2 w) ?_ | refine QCall_pure (.v _) (fun w hR => c2 w) ?_) | (refine bcase_prop (fun h => ?_) (fun h => ?_) <;> try (exfalso; omega)) | (refine bcase_nprop (fun h => ?_) (fun h => ?_) <;> try (exfalso; omega)) | (refine bcase_intro (fun h => ?_) (fun h => ?_) <;> (try simp only [Bool.not_eq_true', Bool.not_eq_false', decide_eq_true_eq, decide_eq_false_iff_not, Bool.not_eq_true, Bool.not_eq_false, Decidable.not_not] at h)) | refine And.intro (by first | omega | exact rfl | assumption | exact ⟨rfl, rfl, rfl, rfl, rfl⟩ | exact ⟨rfl, rfl, rfl, rfl⟩ | exact ⟨rfl, by omega⟩ | exact oneAll_of rfl | exact ⟨rfl, oneAll_of rfl⟩ | exact Ref.refl _ | exact Thin.ref (.skip (Thin.refl _)) | exact Thin.ref (.skip (.skip (Thin.refl _))) | exact ⟨rfl, Nat.le_of_ble_eq_true rfl⟩ | ((try unfold maxLen); (try simp only [List.length_nil, List.length_cons, List.length_append]); omega) | (refine ⟨rfl, ?_⟩; (try simp only [List.length_nil, List.length_cons, List.length_append]); omega)) ?_ | intro _)); (all_goals (conv => whnf))
      all_goals first | (exfalso; omega) | skip
      exact loop_next ⟨n, (a' + a') % PP, b' / 2⟩ ⟨by dsimp only; rw [hP]; omega, l2, by dsimp only; rw [hP]; omega, h5⟩ (by dsimp only; omega) (by (repeat ((conv => whnf); refine And.intro (by first | exact rfl | exact vint_eq (by omega) | exact vint_eq (by (dsimp only; omega)) | exact vsl_eq (by omega) | exact vsl_eq (by first | (dsimp only; omega) | (simp; done) | (simp; omega))) ?_)); exact trivial) (Ref.refl _)

theorem val_cons (x : Nat) (s : List Nat) : valN (x :: s) = (valN s + (x + 1) * scaleN s % PP) % PP := by
  have h := valN_append [x] s
  rw [show [x] ++ s = x :: s from rfl] at h
  have h1 : valN [x] * scaleN s % PP = (x + 1) * scaleN s % PP := by
    have hp : poly [x] = x + 1 := by simp [poly, polyF]
    unfold valN
    rw [Nat.mod_mul_mod, hp]
  rw [← h, h1, Nat.add_comm]
theorem scale_cons (x : Nat) (s : List Nat) : scaleN (x :: s) = scaleN s * 1103515245 % PP := by
  have h := scaleN_append [x] s
  rw [show [x] ++ s = x :: s from rfl] at h
  have h1 : scaleN [x] = 1103515245 := by
    show BB ^ 1 % PP = _
    rw [Nat.pow_one]
    exact Nat.mod_eq_of_lt (by unfold BB PP; omega)
  rw [h1] at h
  rw [← h, Nat.mul_comm]
theorem calls_r5Of (T : List Nat) (hT : T.length ≤ 65536) (hb : ∀ x ∈ T, x < 256) (a : Option Addr) (c : Nat) (w : World) (hin : In w [] a (byC T)) :
    Calls Try.prog fn_evergreenref05_Of #[.slice a T.length c] w fun e w' => e = .returned (.agg #[.int .u64 (valN T), .int .u64 (scaleN T)]) ∧ Ext w w' := by
  refine pure_call [.v (.slice a T.length c)] w ok_evergreenref05_Of (by simp) ?_
  have hP : PP = 2305843009213693951 := rfl
  (repeat' ((conv => whnf); first | (refine bcase_prop (fun h => ?_) (fun h => ?_) <;> try (exfalso; omega)) | (refine bcase_nprop (fun h => ?_) (fun h => ?_) <;> try (exfalso; omega)) | (refine bcase_intro (fun h => ?_) (fun h => ?_) <;> (try simp only [Bool.not_eq_true', Bool.not_eq_false', decide_eq_true_eq, decide_eq_false_iff_not, Bool.not_eq_true, Bool.not_eq_false, Decidable.not_not] at h)) | refine And.intro (by first | omega | exact rfl | assumption | exact ⟨rfl, rfl, rfl, rfl, rfl⟩ | exact ⟨rfl, rfl, rfl, rfl⟩ | exact ⟨rfl, by omega⟩ | exact oneAll_of rfl | exact ⟨rfl, oneAll_of rfl⟩ | exact Ref.refl _ | exact Thin.ref (.skip (Thin.refl _)) | exact Thin.ref (.skip (.skip (Thin.refl _))) | exact ⟨rfl, Nat.le_of_ble_eq_true rfl⟩ | ((try unfold maxLen); (try simp only [List.length_nil, List.length_cons, List.length_append]); omega) | (refine ⟨rfl, ?_⟩; (try simp only [List.length_nil, List.length_cons, List.length_append]); omega)) ?_ | intro _)); (all_goals (conv => whnf))
  rename_i b2 b3
  refine VC_loop Nat (fun i => [(0, .v (.slice a T.length c)), (2, .ptr 2 b2 0), (3, .ptr 3 b3 0), (4, .v (.int .i64 ((T.length : Int) - 1 - i)))]) (fun i => [.box 3 b3 [.int .u64 (valN (T.drop (T.length - i))), .int .u64 (scaleN (T.drop (T.length - i)))] ty_api_Digest, .box 2 b2 [.int .u64 0, .int .u64 0] ty_api_Digest])
    (fun i => i ≤ T.length) (fun i => T.length - i) 0 (Nat.zero_le _) (by (repeat ((conv => whnf); refine And.intro (by first | exact rfl | exact vint_eq (by omega) | exact vint_eq (by (dsimp only; omega)) | exact vsl_eq (by omega) | exact vsl_eq (by first | (dsimp only; omega) | (simp; done) | (simp; omega))) ?_)); exact trivial) ?_ ?_
  · rw [Nat.sub_zero, List.drop_length]; exact Ref.refl _
  intro i hi
  by_cases hlt : i < T.length
  · have hj : T.length - (i + 1) < T.length := by omega
    have hd : T.drop (T.length - (i + 1)) = T.getD (T.length - (i + 1)) 0 :: T.drop (T.length - i) := by
      rw [drop_cons (d := 0) hj, show T.length - (i + 1) + 1 = T.length - i by omega]
    have rd := fun {L : List Ent} => hin.rd (L := L) (byC_at hj)
    have hne : a ≠ none := hin.ne' (k := T.length - (i + 1)) (by rw [byC_length]; exact hj)
    have hx := hb (T.getD (T.length - (i + 1)) 0) (by rw [List.getD_eq_getElem?_getD, List.getElem?_eq_getElem hj]; exact List.getElem_mem hj)
    have hv := val_cons (T.getD (T.length - (i + 1)) 0) (T.drop (T.length - i))
    have hs := scale_cons (T.getD (T.length - (i + 1)) 0) (T.drop (T.length - i))
    rw [← hd] at hv hs
    have e1 : ((T.length : Int) - 1 - (i : Int)).toNat = T.length - (i + 1) := by omega
    have l1 := valN_lt (T.drop (T.length - i))
    have l2 := scaleN_lt (T.drop (T.length - i))
    have hp : T.drop (T.length - (i + 1)) = T.drop (T.length - (i + 1)) := rfl
    generalize T.getD (T.length - (i + 1)) 0 = x at *
    have c1 := calls_r5Mul (x + 1) (scaleN (T.drop (T.length - i))) (by omega) (by rw [hP] at l2; omega)
    have c2 := calls_r5Mul (scaleN (T.drop (T.length - i))) 1103515245 (by rw [hP] at l2; omega) (by decide)
    have l3 := Nat.mod_lt ((x + 1) * scaleN (T.drop (T.length - i))) (show 0 < PP by decide)
    have c3 := calls_r5Add (valN (T.drop (T.length - i))) ((x + 1) * scaleN (T.drop (T.length - i)) % PP) l1 l3
    rw [← hv] at c3
    rw [← hs] at c2
    have e2 : ((x : Int) + 1) % 18446744073709551616 = ((x + 1 : Nat) : Int) := by omega
    have e3 : (x : Int) % 18446744073709551616 = (x : Int) := by omega
    generalize T.drop (T.length - i) = s at *
    generalize hs' : T.drop (T.length - (i + 1)) = s' at *
    (repeat' ((conv => whnf); first | rw [e1] | rw [e2] | rw [e3] | rw [Nat.mul_one] | (first | refine CallK_pure (.v _) (fun w hR => c1 w) ?_ | refine QCall_pure (.v _) (fun w hR => c1 w) ?_) | (first | refine CallK_pure (.v _) (fun w hR => c2 w) ?_ | refine QCall_pure (.v _) (fun w hR => c2 w) ?_) | (first | refine CallK_pure (.v _) (fun w hR => c3 w) ?_ | refine QCall_pure (.v _) (fun w hR => c3 w) ?_) | refine ⟨_, rd, ?_⟩ | (refine bcase_prop (fun h => ?_) (fun h => ?_) <;> try (exfalso; omega)) | (refine bcase_nprop (fun h => ?_) (fun h => ?_) <;> try (exfalso; omega)) | (refine bcase_intro (fun h => ?_) (fun h => ?_) <;> (try simp only [Bool.not_eq_true', Bool.not_eq_false', decide_eq_true_eq, decide_eq_false_iff_not, Bool.not_eq_true, Bool.not_eq_false, Decidable.not_not] at h)) | refine And.intro (by first | omega | exact rfl | assumption | exact ⟨rfl, rfl, rfl, rfl, rfl⟩ | exact ⟨rfl, rfl, rfl, rfl⟩ | exact ⟨rfl, by omega⟩ | exact oneAll_of rfl | exact ⟨rfl, oneAll_of rfl⟩ | exact Ref.refl _ | exact Thin.ref (.skip (Thin.refl _)) | exact Thin.ref (.skip (.skip (Thin.refl _))) | exact hne | exact ⟨rfl, Nat.le_of_ble_eq_true rfl⟩ | ((try unfold maxLen); (try simp only [List.length_nil, List.length_cons, List.length_append]); omega) | (refine ⟨rfl, ?_⟩; (try simp only [List.length_nil, List.length_cons, List.length_append]); omega)) ?_ | intro _)); (all_goals (conv => whnf))
    all_goals first | (exfalso; omega) | skip
    refine loop_next (i + 1) hlt (by ((try dsimp only); omega)) (by (repeat ((conv => whnf); refine And.intro (by first | exact rfl | exact vint_eq (by omega) | exact vint_eq (by (dsimp only; omega)) | exact vsl_eq (by omega) | exact vsl_eq (by first | (dsimp only; omega) | (simp; done) | (simp; omega))) ?_)); exact trivial) ?_
    rw [hs']
    exact Ref.refl _
  · have hil : i = T.length := by omega
    subst hil
    rw [Nat.sub_self, List.drop_zero]
    (repeat' ((conv => whnf); first | (refine bcase_prop (fun h => ?_) (fun h => ?_) <;> try (exfalso; omega)) | (refine bcase_nprop (fun h => ?_) (fun h => ?_) <;> try (exfalso; omega)) | (refine bcase_intro (fun h => ?_) (fun h => ?_) <;> (try simp only [Bool.not_eq_true', Bool.not_eq_false', decide_eq_true_eq, decide_eq_false_iff_not, Bool.not_eq_true, Bool.not_eq_false, Decidable.not_not] at h)) | refine And.intro (by first | omega | exact rfl | assumption | exact ⟨rfl, rfl, rfl, rfl, rfl⟩ | exact ⟨rfl, rfl, rfl, rfl⟩ | exact ⟨rfl, by omega⟩ | exact oneAll_of rfl | exact ⟨rfl, oneAll_of rfl⟩ | exact Ref.refl _ | exact Thin.ref (.skip (Thin.refl _)) | exact Thin.ref (.skip (.skip (Thin.refl _))) | exact ⟨rfl, Nat.le_of_ble_eq_true rfl⟩ | ((try unfold maxLen); (try simp only [List.length_nil, List.length_cons, List.length_append]); omega) | (refine ⟨rfl, ?_⟩; (try simp only [List.length_nil, List.length_cons, List.length_append]); omega)) ?_ | intro _)); (all_goals (conv => whnf))
    all_goals first | (exfalso; omega) | exact ⟨rfl⟩

/-! ### Weights, by the reference -/

abbrev wtB (T : List Nat) : List Value := [.int .i64 T.length, .int .i64 (linesN T), .int .i64 (headN T), .int .i64 (tailN T), .int .u64 0, .int .u64 0]
def hdI (T : List Nat) (i : Nat) : Nat := if linesN (T.take i) = 0 then T.length else headN T
def tlI (T : List Nat) (i : Nat) : Nat := if linesN (T.take i) = 0 then T.length else T.length - i + tailN (T.take i)
theorem calls_r16Weight (T : List Nat) (hT : T.length ≤ 65536) (a : Option Addr) (c : Nat) (w : World) (hin : In w [] a (byC T)) :
    Calls Try.prog fn_evergreenref16_Weight #[.slice a T.length c] w fun e w' => e = .returned (.agg (wtB T).toArray) ∧ Ext w w' := by
  refine pure_call [.v (.slice a T.length c)] w ok_evergreenref16_Weight (by simp) ?_
  (repeat' ((conv => whnf); first | (refine bcase_prop (fun h => ?_) (fun h => ?_) <;> try (exfalso; omega)) | (refine bcase_nprop (fun h => ?_) (fun h => ?_) <;> try (exfalso; omega)) | (refine bcase_intro (fun h => ?_) (fun h => ?_) <;> (try simp only [Bool.not_eq_true', Bool.not_eq_false', decide_eq_true_eq, decide_eq_false_iff_not, Bool.not_eq_true, Bool.not_eq_false, Decidable.not_not] at h)) | refine And.intro (by first | omega | exact rfl | assumption | exact ⟨rfl, rfl, rfl, rfl, rfl⟩ | exact ⟨rfl, rfl, rfl, rfl⟩ | exact ⟨rfl, by omega⟩ | exact oneAll_of rfl | exact ⟨rfl, oneAll_of rfl⟩ | exact Ref.refl _ | exact Thin.ref (.skip (Thin.refl _)) | exact Thin.ref (.skip (.skip (Thin.refl _))) | exact ⟨rfl, Nat.le_of_ble_eq_true rfl⟩ | ((try unfold maxLen); (try simp only [List.length_nil, List.length_cons, List.length_append]); omega) | (refine ⟨rfl, ?_⟩; (try simp only [List.length_nil, List.length_cons, List.length_append]); omega)) ?_ | intro _)); (all_goals (conv => whnf))
  rename_i b2 b3
  refine VC_loop Nat (fun i => [(0, .v (.slice a T.length c)), (2, .ptr 2 b2 0), (3, .ptr 3 b3 0), (13, .v (.int .i64 T.length)), (14, .v (.int .i64 i))]) (fun i => [.box 3 b3 [.int .i64 T.length, .int .i64 (linesN (T.take i)), .int .i64 (hdI T i), .int .i64 (tlI T i), .int .u64 0, .int .u64 0] ty_api_Weight, .box 2 b2 [.int .i64 0, .int .i64 0, .int .i64 0, .int .i64 0, .int .u64 0, .int .u64 0] ty_api_Weight])
    (fun i => i ≤ T.length) (fun i => T.length - i) 0 (Nat.zero_le _) (by (repeat ((conv => whnf); refine And.intro (by first | exact rfl | exact vint_eq (by omega) | exact vint_eq (by (dsimp only; omega)) | exact vsl_eq (by omega) | exact vsl_eq (by first | (dsimp only; omega) | (simp; done) | (simp; omega))) ?_)); exact trivial) ?_ ?_
  · exact Ref.refl _
  intro i hi
  have hll : linesN (T.take i) ≤ T.length := Nat.le_trans List.count_le_length (by simp; omega)
  by_cases hlt : i < T.length
  · have hn := lines_next hlt
    have htn := tail_next hlt
    have rd := fun {L : List Ent} => hin.rd (L := L) (byC_at hlt)
    have hne : a ≠ none := hin.ne' (k := i) (by rw [byC_length]; exact hlt)
    by_cases hx : T.getD i 0 = 10
    · rw [if_pos hx] at hn htn
      have h2 : tlI T (i + 1) = T.length - 1 - i := by unfold tlI; rw [hn, if_neg (by omega), htn]; omega
      have e2 : (T.length : Int) - 1 - (i : Int) = ((T.length - 1 - i : Nat) : Int) := by omega
      have hl1 : ((linesN (T.take i) : Nat) : Int) + 1 = ((linesN (T.take (i + 1)) : Nat) : Int) := by omega
      rw [hx] at rd
      by_cases h0 : linesN (T.take i) = 0
      · have h1 : hdI T (i + 1) = i := by
          unfold hdI
          rw [hn, if_neg (by omega)]
          have hd : T = T.take i ++ (10 :: T.drop (i + 1)) := by
            conv => lhs; rw [← List.take_append_drop i T]
            congr 1
            rw [List.drop_eq_getElem_cons hlt]
            congr 1
            rw [List.getD_eq_getElem?_getD, List.getElem?_eq_getElem hlt] at hx
            simpa using hx
          rw [hd, head_append, if_pos h0]
          simp [headN]; omega
        (repeat' ((conv => whnf); first | rw [e2] | rw [hl1] | rw [Int.toNat_natCast] | rw [Nat.mul_one] | refine ⟨_, rd, ?_⟩ | (refine bcase_prop (fun h => ?_) (fun h => ?_) <;> try (exfalso; omega)) | (refine bcase_nprop (fun h => ?_) (fun h => ?_) <;> try (exfalso; omega)) | (refine bcase_intro (fun h => ?_) (fun h => ?_) <;> (try simp only [Bool.not_eq_true', Bool.not_eq_false', decide_eq_true_eq, decide_eq_false_iff_not, Bool.not_eq_true, Bool.not_eq_false, Decidable.not_not] at h)) | refine And.intro (by first | omega | exact rfl | assumption | exact ⟨rfl, rfl, rfl, rfl, rfl⟩ | exact ⟨rfl, rfl, rfl, rfl⟩ | exact ⟨rfl, by omega⟩ | exact oneAll_of rfl | exact ⟨rfl, oneAll_of rfl⟩ | exact Ref.refl _ | exact Thin.ref (.skip (Thin.refl _)) | exact Thin.ref (.skip (.skip (Thin.refl _))) | exact hne | exact ⟨rfl, Nat.le_of_ble_eq_true rfl⟩ | ((try unfold maxLen); (try simp only [List.length_nil, List.length_cons, List.length_append]); omega) | (refine ⟨rfl, ?_⟩; (try simp only [List.length_nil, List.length_cons, List.length_append]); omega)) ?_ | intro _)); (all_goals (conv => whnf))
        all_goals first | (exfalso; omega) | skip
        refine loop_next (i + 1) hlt (by ((try dsimp only); omega)) (by (repeat ((conv => whnf); refine And.intro (by first | exact rfl | exact vint_eq (by omega) | exact vint_eq (by (dsimp only; omega)) | exact vsl_eq (by omega) | exact vsl_eq (by first | (dsimp only; omega) | (simp; done) | (simp; omega))) ?_)); exact trivial) ?_
        rw [h1, h2]
        exact Ref.refl _
      · have h1 : hdI T (i + 1) = hdI T i := by unfold hdI; rw [hn, if_neg (by omega), if_neg h0]
        (repeat' ((conv => whnf); first | rw [e2] | rw [hl1] | rw [Int.toNat_natCast] | rw [Nat.mul_one] | refine ⟨_, rd, ?_⟩ | (refine bcase_prop (fun h => ?_) (fun h => ?_) <;> try (exfalso; omega)) | (refine bcase_nprop (fun h => ?_) (fun h => ?_) <;> try (exfalso; omega)) | (refine bcase_intro (fun h => ?_) (fun h => ?_) <;> (try simp only [Bool.not_eq_true', Bool.not_eq_false', decide_eq_true_eq, decide_eq_false_iff_not, Bool.not_eq_true, Bool.not_eq_false, Decidable.not_not] at h)) | refine And.intro (by first | omega | exact rfl | assumption | exact ⟨rfl, rfl, rfl, rfl, rfl⟩ | exact ⟨rfl, rfl, rfl, rfl⟩ | exact ⟨rfl, by omega⟩ | exact oneAll_of rfl | exact ⟨rfl, oneAll_of rfl⟩ | exact Ref.refl _ | exact Thin.ref (.skip (Thin.refl _)) | exact Thin.ref (.skip (.skip (Thin.refl _))) | exact hne | exact ⟨rfl, Nat.le_of_ble_eq_true rfl⟩ | ((try unfold maxLen); (try simp only [List.length_nil, List.length_cons, List.length_append]); omega) | (refine ⟨rfl, ?_⟩; (try simp only [List.length_nil, List.length_cons, List.length_append]); omega)) ?_ | intro _)); (all_goals (conv => whnf))
        all_goals first | (exfalso; omega) | skip
        refine loop_next (i + 1) hlt (by ((try dsimp only); omega)) (by (repeat ((conv => whnf); refine And.intro (by first | exact rfl | exact vint_eq (by omega) | exact vint_eq (by (dsimp only; omega)) | exact vsl_eq (by omega) | exact vsl_eq (by first | (dsimp only; omega) | (simp; done) | (simp; omega))) ?_)); exact trivial) ?_
        rw [h1, h2]
        exact Ref.refl _
    · rw [if_neg hx] at hn htn
      have h1 : hdI T (i + 1) = hdI T i := by unfold hdI; rw [hn, Nat.add_zero]
      have h2 : tlI T (i + 1) = tlI T i := by
        unfold tlI
        rw [hn, Nat.add_zero, htn]
        split
        · rfl
        · omega
      have hx' : ¬ ((T.getD i 0 : Nat) : Int) = 10 := by omega
      (repeat' ((conv => whnf); first | rw [Int.toNat_natCast] | rw [Nat.mul_one] | refine ⟨_, rd, ?_⟩ | (refine bcase_prop (fun h => ?_) (fun h => ?_) <;> try (exfalso; omega)) | (refine bcase_nprop (fun h => ?_) (fun h => ?_) <;> try (exfalso; omega)) | (refine bcase_intro (fun h => ?_) (fun h => ?_) <;> (try simp only [Bool.not_eq_true', Bool.not_eq_false', decide_eq_true_eq, decide_eq_false_iff_not, Bool.not_eq_true, Bool.not_eq_false, Decidable.not_not] at h)) | refine And.intro (by first | omega | exact rfl | assumption | exact ⟨rfl, rfl, rfl, rfl, rfl⟩ | exact ⟨rfl, rfl, rfl, rfl⟩ | exact ⟨rfl, by omega⟩ | exact oneAll_of rfl | exact ⟨rfl, oneAll_of rfl⟩ | exact Ref.refl _ | exact Thin.ref (.skip (Thin.refl _)) | exact Thin.ref (.skip (.skip (Thin.refl _))) | exact hne | exact ⟨rfl, Nat.le_of_ble_eq_true rfl⟩ | ((try unfold maxLen); (try simp only [List.length_nil, List.length_cons, List.length_append]); omega) | (refine ⟨rfl, ?_⟩; (try simp only [List.length_nil, List.length_cons, List.length_append]); omega)) ?_ | intro _)); (all_goals (conv => whnf))
      all_goals first | (exfalso; omega) | skip
      refine loop_next (i + 1) hlt (by ((try dsimp only); omega)) (by (repeat ((conv => whnf); refine And.intro (by first | exact rfl | exact vint_eq (by omega) | exact vint_eq (by (dsimp only; omega)) | exact vsl_eq (by omega) | exact vsl_eq (by first | (dsimp only; omega) | (simp; done) | (simp; omega))) ?_)); exact trivial) ?_
      rw [hn, Nat.add_zero, h1, h2]
      exact Ref.refl _
  · have hil : i = T.length := by omega
    subst hil
    have h1 : hdI T T.length = headN T := by
      unfold hdI
      rw [List.take_length]
      split
      · rename_i h; rw [head_zero h]
      · rfl
    have h2 : tlI T T.length = tailN T := by
      unfold tlI
      rw [List.take_length]
      split
      · rename_i h; rw [tail_zero h]
      · omega
    rw [h1, h2, List.take_length]
    (repeat' ((conv => whnf); first | (refine bcase_prop (fun h => ?_) (fun h => ?_) <;> try (exfalso; omega)) | (refine bcase_nprop (fun h => ?_) (fun h => ?_) <;> try (exfalso; omega)) | (refine bcase_intro (fun h => ?_) (fun h => ?_) <;> (try simp only [Bool.not_eq_true', Bool.not_eq_false', decide_eq_true_eq, decide_eq_false_iff_not, Bool.not_eq_true, Bool.not_eq_false, Decidable.not_not] at h)) | refine And.intro (by first | omega | exact rfl | assumption | exact ⟨rfl, rfl, rfl, rfl, rfl⟩ | exact ⟨rfl, rfl, rfl, rfl⟩ | exact ⟨rfl, by omega⟩ | exact oneAll_of rfl | exact ⟨rfl, oneAll_of rfl⟩ | exact Ref.refl _ | exact Thin.ref (.skip (Thin.refl _)) | exact Thin.ref (.skip (.skip (Thin.refl _))) | exact ⟨rfl, Nat.le_of_ble_eq_true rfl⟩ | ((try unfold maxLen); (try simp only [List.length_nil, List.length_cons, List.length_append]); omega) | (refine ⟨rfl, ?_⟩; (try simp only [List.length_nil, List.length_cons, List.length_append]); omega)) ?_ | intro _)); (all_goals (conv => whnf))
    all_goals first | (exfalso; omega) | exact ⟨rfl⟩

theorem law_AccessWeights (w : World) (g : List Rul) (hg : MIn g) (a : Option Addr) (c : Nat) (hin : In w [] a (rulsC g)) (pick from_ n : Int) (hp : -9223372036854775808 ≤ pick ∧ pick ≤ 9223372036854775807) (hf : -9223372036854775808 ≤ from_ ∧ from_ ≤ 9223372036854775807) :
    Calls Try.prog fn_evergreenlaw16_AccessWeights #[.slice a g.length c, .int .i64 pick, .int .i64 from_, .int .i64 n] w fun e w' => e = .returned (.bool true) ∧ Ext w w' := by
  refine pure_call [.v (.slice a g.length c), .v (.int .i64 pick), .v (.int .i64 from_), .v (.int .i64 n)] w ok_evergreenlaw16_AccessWeights (by simp) ?_
  have c0 := calls_awake16
  by_cases hl : g.length ≤ 40
  case neg =>
    (repeat' ((conv => whnf); first | (first | refine CallK_pure (.v _) (fun w hR => c0 w) ?_ | refine QCall_pure (.v _) (fun w hR => c0 w) ?_) | (refine bcase_prop (fun h => ?_) (fun h => ?_) <;> try (exfalso; omega)) | (refine bcase_nprop (fun h => ?_) (fun h => ?_) <;> try (exfalso; omega)) | (refine bcase_intro (fun h => ?_) (fun h => ?_) <;> (try simp only [Bool.not_eq_true', Bool.not_eq_false', decide_eq_true_eq, decide_eq_false_iff_not, Bool.not_eq_true, Bool.not_eq_false, Decidable.not_not] at h)) | refine And.intro (by first | omega | exact rfl | assumption | exact ⟨rfl, rfl, rfl, rfl, rfl⟩ | exact ⟨rfl, rfl, rfl, rfl⟩ | exact ⟨rfl, by omega⟩ | exact oneAll_of rfl | exact ⟨rfl, oneAll_of rfl⟩ | exact Ref.refl _ | exact Thin.ref (.skip (Thin.refl _)) | exact Thin.ref (.skip (.skip (Thin.refl _))) | exact ⟨rfl, Nat.le_of_ble_eq_true rfl⟩ | ((try unfold maxLen); (try simp only [List.length_nil, List.length_cons, List.length_append]); omega) | (refine ⟨rfl, ?_⟩; (try simp only [List.length_nil, List.length_cons, List.length_append]); omega)) ?_ | intro _)); (all_goals (conv => whnf))
    all_goals first | (exfalso; omega) | exact ⟨rfl⟩
  have c1 := fun w h => calls_plain16 g hg hl pick hp a c w h
  have hw := gS_wf hg hl
  have hk := gId_known hg hl pick
  have hE := gE_len hg hl
  have hby := hw.bytes (gId g pick).toNat (gId g pick) (Nat.le_refl _) hk.2
  unfold plQ at c1
  generalize gId g pick = id at *
  have cN := fun b => calls_sLen b (gS g)
  have c7 := calls_Is 1 1 (by decide)
  have hTl : (tm (gS g).E id).len = (tm (gS g).E id).txt.length := rfl
  by_cases hs : (tm (gS g).E id).txt.length ≤ 4096
  case neg =>
    (repeat' ((conv => whnf); first | (first | refine CallK_pure (.v _) (fun w hR => c0 w) ?_ | refine QCall_pure (.v _) (fun w hR => c0 w) ?_) | ((refine CallK_new (fun w hR => c1 w (hin.cast hR (by simp))) ?_); rintro _ _ ⟨b, fpb, (⟨hq, a5, k5, hk5, rfl, rfl⟩ | ⟨hq, rfl, rfl⟩)⟩ <;> refine ⟨.v _, rfl, ?_⟩) | (refine bcase_prop (fun h => ?_) (fun h => ?_) <;> try (exfalso; omega)) | (refine bcase_nprop (fun h => ?_) (fun h => ?_) <;> try (exfalso; omega)) | (refine bcase_intro (fun h => ?_) (fun h => ?_) <;> (try simp only [Bool.not_eq_true', Bool.not_eq_false', decide_eq_true_eq, decide_eq_false_iff_not, Bool.not_eq_true, Bool.not_eq_false, Decidable.not_not] at h)) | refine And.intro (by first | omega | exact rfl | assumption | exact ⟨rfl, rfl, rfl, rfl, rfl⟩ | exact ⟨rfl, rfl, rfl, rfl⟩ | exact ⟨rfl, by omega⟩ | exact oneAll_of rfl | exact ⟨rfl, oneAll_of rfl⟩ | exact Ref.refl _ | exact Thin.ref (.skip (Thin.refl _)) | exact Thin.ref (.skip (.skip (Thin.refl _))) | exact ⟨rfl, Nat.le_of_ble_eq_true rfl⟩ | ((try unfold maxLen); (try simp only [List.length_nil, List.length_cons, List.length_append]); omega) | (refine ⟨rfl, ?_⟩; (try simp only [List.length_nil, List.length_cons, List.length_append]); omega)) ?_ | intro _)); (all_goals (conv => whnf))
    all_goals first | (exfalso; omega) | exact ⟨rfl⟩
  have cV := calls_r16Valid from_ n (tm (gS g).E id).txt.length hf (by unfold LM; omega)
  have cW := fun b => calls_AWeight b (gS g) hw id from_ n
  unfold wgRes at cW
  rw [hTl] at cW
  generalize (tm (gS g).E id).txt = T at *
  by_cases hv : 0 ≤ from_ ∧ 0 ≤ n ∧ from_ ≤ T.length ∧ n ≤ T.length - from_
  case neg =>
    rw [decide_eq_false hv] at cV
    rw [if_neg (fun h => hv h.2)] at cW
    (repeat' ((conv => whnf); first | (first | refine CallK_pure (.v _) (fun w hR => c0 w) ?_ | refine QCall_pure (.v _) (fun w hR => c0 w) ?_) | (first | refine CallK_pure (.v _) (fun w hR => c7 w) ?_ | refine QCall_pure (.v _) (fun w hR => c7 w) ?_) | (first | refine CallK_pure (.v _) (fun w hR => cV w) ?_ | refine QCall_pure (.v _) (fun w hR => cV w) ?_) | ((refine CallK_new (fun w hR => c1 w (hin.cast hR (by simp))) ?_); rintro _ _ ⟨b, fpb, (⟨hq, a5, k5, hk5, rfl, rfl⟩ | ⟨hq, rfl, rfl⟩)⟩ <;> refine ⟨.v _, rfl, ?_⟩) | (refine CallK_pack (key := 77) rfl (fun w hR h0 => cN _ _ _ _ h0) ?_; rintro _ _ ⟨rfl, fp', rfl⟩; refine ⟨.v _, rfl, ?_⟩) | (refine CallK_pack (key := 77) rfl (fun w hR h0 => cW _ _ _ _ h0) ?_; rintro _ _ ⟨rfl, fp', rfl⟩; refine ⟨.v _, rfl, ?_⟩) | (refine bcase_prop (fun h => ?_) (fun h => ?_) <;> try (exfalso; omega)) | (refine bcase_nprop (fun h => ?_) (fun h => ?_) <;> try (exfalso; omega)) | (refine bcase_intro (fun h => ?_) (fun h => ?_) <;> (try simp only [Bool.not_eq_true', Bool.not_eq_false', decide_eq_true_eq, decide_eq_false_iff_not, Bool.not_eq_true, Bool.not_eq_false, Decidable.not_not] at h)) | refine And.intro (by first | omega | exact rfl | assumption | exact ⟨rfl, rfl, rfl, rfl, rfl⟩ | exact ⟨rfl, rfl, rfl, rfl⟩ | exact ⟨rfl, by omega⟩ | exact oneAll_of rfl | exact ⟨rfl, oneAll_of rfl⟩ | exact Ref.refl _ | exact Thin.ref (.skip (Thin.refl _)) | exact Thin.ref (.skip (.skip (Thin.refl _))) | exact ⟨rfl, Nat.le_of_ble_eq_true rfl⟩ | ((try unfold maxLen); (try simp only [List.length_nil, List.length_cons, List.length_append]); omega) | (refine ⟨rfl, ?_⟩; (try simp only [List.length_nil, List.length_cons, List.length_append]); omega)) ?_ | intro _)); (all_goals (conv => whnf))
    all_goals first | (exfalso; omega) | exact ⟨rfl⟩ | (refine ⟨?_⟩; show Value.bool (decide _) = _; rw [decide_eq_true (by omega)])
  rw [decide_eq_true hv] at cV
  rw [if_pos ⟨hk, hv⟩] at cW
  obtain ⟨i, rfl⟩ := Int.eq_ofNat_of_zero_le hv.1
  obtain ⟨m, rfl⟩ := Int.eq_ofNat_of_zero_le hv.2.1
  rw [Int.toNat_natCast, Int.toNat_natCast] at cW
  have hsl : (sub T i m).length = m := sub_length (by omega)
  have him : ((i : Int) + (m : Int)).toNat - i = (sub T i m).length := by omega
  have cR := fun a c w h => calls_r16Weight (sub T i m) (by omega) a c w h
  have cO := fun a c w h => calls_r5Of (sub T i m) (by omega) (fun x hx => hby x (sub_mem hx)) a c w h
  (repeat' ((conv => whnf); first | rw [Int.toNat_natCast] | rw [him] | (first | refine CallK_pure (.v _) (fun w hR => c0 w) ?_ | refine QCall_pure (.v _) (fun w hR => c0 w) ?_) | (first | refine CallK_pure (.v _) (fun w hR => c7 w) ?_ | refine QCall_pure (.v _) (fun w hR => c7 w) ?_) | (first | refine CallK_pure (.v _) (fun w hR => cV w) ?_ | refine QCall_pure (.v _) (fun w hR => cV w) ?_) | ((refine CallK_new (fun w hR => c1 w (hin.cast hR (by simp))) ?_); rintro _ _ ⟨b, fpb, (⟨hq, a5, k5, hk5, rfl, rfl⟩ | ⟨hq, rfl, rfl⟩)⟩ <;> refine ⟨.v _, rfl, ?_⟩) | (refine CallK_pack (key := 77) rfl (fun w hR h0 => cN _ _ _ _ h0) ?_; rintro _ _ ⟨rfl, fp', rfl⟩; refine ⟨.v _, rfl, ?_⟩) | (refine CallK_pack (key := 77) rfl (fun w hR h0 => cW _ _ _ _ h0) ?_; rintro _ _ ⟨rfl, fp', rfl⟩; refine ⟨.v _, rfl, ?_⟩) | (refine CallK_pure (.v _) (fun w' hR => cR _ _ w' (inSub (In.ownR (key := 807) hR rfl) hk5)) ?_) | (refine CallK_pure (.v _) (fun w' hR => cO _ _ w' (inSub (In.ownR (key := 807) hR rfl) hk5)) ?_) | (refine bcase_prop (fun h => ?_) (fun h => ?_) <;> try (exfalso; omega)) | (refine bcase_nprop (fun h => ?_) (fun h => ?_) <;> try (exfalso; omega)) | (refine bcase_intro (fun h => ?_) (fun h => ?_) <;> (try simp only [Bool.not_eq_true', Bool.not_eq_false', decide_eq_true_eq, decide_eq_false_iff_not, Bool.not_eq_true, Bool.not_eq_false, Decidable.not_not] at h)) | refine And.intro (by first | omega | exact rfl | assumption | exact ⟨rfl, rfl, rfl, rfl, rfl⟩ | exact ⟨rfl, rfl, rfl, rfl⟩ | exact ⟨rfl, by omega⟩ | exact oneAll_of rfl | exact ⟨rfl, oneAll_of rfl⟩ | exact Ref.refl _ | exact Thin.ref (.skip (Thin.refl _)) | exact Thin.ref (.skip (.skip (Thin.refl _))) | exact ⟨rfl, Nat.le_of_ble_eq_true rfl⟩ | ((try unfold maxLen); (try simp only [List.length_nil, List.length_cons, List.length_append]); omega) | (refine ⟨rfl, ?_⟩; (try simp only [List.length_nil, List.length_cons, List.length_append]); omega)) ?_ | intro _)); (all_goals (conv => whnf))
  all_goals first | (exfalso; omega) | exact ⟨rfl⟩ | (refine ⟨?_⟩; show Value.bool (decide _) = _; rw [decide_eq_true (by omega)])
end Go.Proofs.Ytagoedllflalpaa
