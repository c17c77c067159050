/- The text of a grammar, by the reference: the program. -/
import Derived.Test.YtkkhpdkfploodaaDoorK5
import Derived.Test.YtkkhpdkfploodaaDoorK12
import Derived.Shelf.SlGeneric
import Derived.Ground.SlgmProg
import Derived.Shelf.SortM.Plain
import Derived.Test.YtkkhpdkfploodaaDoorProg
import Derived.Test.YtkkhpdkfploodaaDoorK10
import Derived.Test.YtkkhpdkfploodaaDoorK7
import Derived.Test.YtkkhpdkfploodaaDoorK11
namespace Go.Proofs.YtkkhpdkfploodaaDoor
open Go.EG
attribute [local irreducible] CallK QCall Go.Calls
set_option linter.unusedSimpArgs false
set_option linter.unusedVariables false
set_option maxRecDepth 20000
set_option maxHeartbeats 4000000

theorem gTs_pre : ∀ (g : List Rul) (ms : List Tm), ∃ t, gTs ms g = ms ++ t
  | [], ms => ⟨[], by simp [gTs]⟩
  | r :: g, ms => by
    obtain ⟨t, ht⟩ := gTs_pre g (ms ++ [gT ms r])
    exact ⟨gT ms r :: t, by rw [gTs, ht]; simp⟩
theorem gLen_of : ∀ (g : List Rul) (ms : List Tm), (∀ m ∈ gTs ms g, m.len ≤ LM) → gLen ms g = true
  | [], ms, _ => rfl
  | r :: g, ms, h => by
    obtain ⟨t, ht⟩ := gTs_pre g (ms ++ [gT ms r])
    rw [gTs] at h
    rw [gLen, gLen_of g _ h, decide_eq_true (h _ (by rw [ht]; simp))]
    rfl
theorem bytesV_append (s t : List Nat) : bytesV s ++ bytesV t = bytesV (s ++ t) := by simp [bytesV]
theorem bytesV_length (s : List Nat) : (bytesV s).length = s.length := by simp [bytesV]
theorem oneAllB_by (t : List Nat) : oneAll (bytesV t) := by
  induction t with
  | nil => exact trivial
  | cons x t ih => exact ⟨trivial, ih⟩
theorem Gr.tim {g : List Rul} {ms : List Tm} (h : Gr g ms) {i : Nat} (hi : i < g.length) : (g.getD i rul0).t ≤ 9223372036854775807 := by
  obtain ⟨hc, _, _⟩ := h.cases hi
  rcases h.ok i hi with ⟨e1, e2, e3, e4, _⟩ | ⟨e1, e2, e3, e4, e5, e6, e7⟩ | ⟨e1, e2, e3, e4, e5, e6⟩
  · omega
  · omega
  · rcases hc with ⟨k1, _⟩ | ⟨k1, _⟩ | ⟨k1, kb, p, k, p1, k2, pa, kt, ht, hs⟩
    · omega
    · omega
    · have h1 := (h.fit p (by omega)).1
      have e : mAt ms ((p : Int) + 1) = ms.getD p .nil := by
        unfold mAt
        rw [if_neg (by omega), show ((p : Int) + 1).toNat - 1 = p by omega]
      rw [e] at hs
      have := Nat.mul_le_mul_left k h1
      have hLM : LM = 1152921504606846976 := rfl
      omega

theorem calls_plain (g : List Rul) (ms : List Tm) (hg : Gr g ms) (a : Option Addr) (c : Nat) : ∀ (n : Nat), n < g.length → (mAt ms ((n : Int) + 1)).len ≤ 65536 → ∀ w, In w [] a (rulsC g) →
    Calls Tryd.prog fn_evergreenref11_plain #[.slice a g.length c, .int .i64 ((n : Int) + 1)] w (RetS ty_uint8 1 (mAt ms ((n : Int) + 1)).txt.length (bytesV (mAt ms ((n : Int) + 1)).txt) w) := by
  intro n
  induction n using Nat.strongRecOn with
  | ind n ih =>
    intro hn hlen w hin
    have hne : a ≠ none := hin.ne' (k := n * 5) (by rw [rulsC_length]; omega)
    have rd := fun {L : List Ent} => In.rdn (L := L) (vs := ruC (g.getD n rul0)) (k := n * 5) hin (Nat.succ_pos _) (rulsC_at hn)
    have hx : ((n : Int) + 1 - 1).toNat = n := by omega
    have hmost := hg.most
    obtain ⟨hc, _, _⟩ := hg.cases hn
    generalize g.getD n rul0 = r at *
    obtain ⟨rk, rl, ra, rb, rt⟩ := r
    refine slice_call [.v (.slice a g.length c), .v (.int .i64 ((n : Int) + 1))] w ok_evergreenref11_plain (by simp) ?_
    rcases hc with ⟨k1, k2, k3, l, l1, l2, l3⟩ | ⟨k1, p, q, p1, q1, pa, qb, ht, hs⟩ | ⟨k1, kb, p, k, p1, k2, pa, kt, ht, hs⟩
    · simp only at k1 k2 k3 l2
      subst k1 k2 k3 l2
      rw [l3]
      (repeat' ((conv => whnf); first | rw [hx] | rw [Int.toNat_natCast] | rw [Nat.mul_one] | refine ⟨ruC ⟨_, _, _, _, _⟩, rfl, rd, ?_⟩ | (refine bcase_prop (fun h => ?_) (fun h => ?_) <;> try (exfalso; omega)) | (refine bcase_nprop (fun h => ?_) (fun h => ?_) <;> try (exfalso; omega)) | (refine bcase_intro (fun h => ?_) (fun h => ?_) <;> (try simp only [Bool.not_eq_true', Bool.not_eq_false', decide_eq_true_eq, decide_eq_false_iff_not, Bool.not_eq_true, Bool.not_eq_false, Decidable.not_not] at h)) | refine And.intro (by first | omega | exact rfl | assumption | exact ⟨rfl, rfl, rfl, rfl, rfl⟩ | exact ⟨rfl, rfl, rfl, rfl⟩ | exact ⟨rfl, by omega⟩ | exact oneAll_of rfl | exact ⟨rfl, oneAll_of rfl⟩ | exact Ref.refl _ | exact Thin.ref (.skip (Thin.refl _)) | exact Thin.ref (.skip (.skip (Thin.refl _))) | exact hne | exact ⟨rfl, Nat.le_of_ble_eq_true rfl⟩ | ((try unfold maxLen); (try simp only [List.length_nil, List.length_cons, List.length_append]); omega) | (refine ⟨rfl, ?_⟩; (try simp only [List.length_nil, List.length_cons, List.length_append]); omega)) ?_ | intro _)); (all_goals (conv => whnf))
      all_goals first | (exfalso; omega) | skip
      exact ⟨⟨_, _, rfl, Thin.ref (.own (k' := 0) rfl rfl (.skip (.nil _)))⟩⟩
    · simp only at k1 pa qb
      subst k1 pa qb
      have hA := ih p p1 (by omega) (by unfold Tm.len at hlen ⊢; rw [ht, Tm.txt, List.length_append] at hlen; omega)
      have hB := ih q q1 (by omega) (by unfold Tm.len at hlen ⊢; rw [ht, Tm.txt, List.length_append] at hlen; omega)
      have hl : (mAt ms ((p : Int) + 1)).txt.length + (mAt ms ((q : Int) + 1)).txt.length ≤ 65536 := by unfold Tm.len at hlen; rw [ht, Tm.txt, List.length_append] at hlen; omega
      rw [ht, Tm.txt]
      generalize (mAt ms ((p : Int) + 1)).txt = s at *
      generalize (mAt ms ((q : Int) + 1)).txt = t at *
      have hone := oneAllB_by t
      (repeat' ((conv => whnf); first | rw [hx] | rw [Int.toNat_natCast] | rw [Nat.mul_one] | refine ⟨ruC ⟨_, _, _, _, _⟩, rfl, rd, ?_⟩ | refine CallK_slice 901 (fun w' hR => hA w' (hin.cast hR (by simp))) ?_ | refine CallK_slice 902 (fun w' hR => hB w' (hin.cast hR (by simp))) ?_ | refine ⟨_, ⟨rfl, trivial⟩, ?_⟩ | (refine bcase_prop (fun h => ?_) (fun h => ?_) <;> try (exfalso; omega)) | (refine bcase_nprop (fun h => ?_) (fun h => ?_) <;> try (exfalso; omega)) | (refine bcase_intro (fun h => ?_) (fun h => ?_) <;> (try simp only [Bool.not_eq_true', Bool.not_eq_false', decide_eq_true_eq, decide_eq_false_iff_not, Bool.not_eq_true, Bool.not_eq_false, Decidable.not_not] at h)) | refine And.intro (by first | omega | exact rfl | assumption | exact ⟨rfl, rfl, rfl, rfl, rfl⟩ | exact ⟨rfl, rfl, rfl, rfl⟩ | exact ⟨rfl, by omega⟩ | exact oneAll_of rfl | exact ⟨rfl, oneAll_of rfl⟩ | exact Ref.refl _ | exact Thin.ref (.skip (Thin.refl _)) | exact Thin.ref (.skip (.skip (Thin.refl _))) | exact hne | exact ⟨rfl, Nat.le_of_ble_eq_true rfl⟩ | ((try unfold maxLen); (try simp only [List.length_nil, List.length_cons, List.length_append]); omega) | (refine ⟨rfl, ?_⟩; (try simp only [List.length_nil, List.length_cons, List.length_append]); omega)) ?_ | intro _)); (all_goals (conv => whnf))
      all_goals first | (exfalso; omega) | skip
      exact ⟨⟨_, _, by rw [List.length_append], Thin.ref (.skip (.own (k' := 0) (by rw [List.length_append]) (bytesV_append _ _) (.skip (.nil _))))⟩⟩
    · simp only at k1 kb pa kt
      subst k1 kb pa kt
      have hl : k * (mAt ms ((p : Int) + 1)).txt.length ≤ 65536 := by unfold Tm.len at hlen; rw [ht, Tm.txt, rep_length] at hlen; exact hlen
      have hl2 : (mAt ms ((p : Int) + 1)).txt.length ≤ 65536 := by
        have := Nat.mul_le_mul_right (mAt ms ((p : Int) + 1)).txt.length (show 1 ≤ k by omega)
        omega
      have hkl : k ≤ 65536 := by
        have h1 := (hg.cases (show p < g.length by omega)).2.1
        have := Nat.mul_le_mul_left k h1
        unfold Tm.len at this
        omega
      have hA := ih p p1 (by omega) hl2
      rw [ht, Tm.txt]
      generalize (mAt ms ((p : Int) + 1)).txt = s at *
      have hone := oneAllB_by s
      (repeat' ((conv => whnf); first | rw [hx] | rw [Int.toNat_natCast] | rw [Nat.mul_one] | refine ⟨ruC ⟨_, _, _, _, _⟩, rfl, rd, ?_⟩ | refine CallK_slice 901 (fun w' hR => hA w' (hin.cast hR (by simp))) ?_ | refine ⟨_, ⟨rfl, trivial⟩, ?_⟩ | (refine bcase_prop (fun h => ?_) (fun h => ?_) <;> try (exfalso; omega)) | (refine bcase_nprop (fun h => ?_) (fun h => ?_) <;> try (exfalso; omega)) | (refine bcase_intro (fun h => ?_) (fun h => ?_) <;> (try simp only [Bool.not_eq_true', Bool.not_eq_false', decide_eq_true_eq, decide_eq_false_iff_not, Bool.not_eq_true, Bool.not_eq_false, Decidable.not_not] at h)) | refine And.intro (by first | omega | exact rfl | assumption | exact ⟨rfl, rfl, rfl, rfl, rfl⟩ | exact ⟨rfl, rfl, rfl, rfl⟩ | exact ⟨rfl, by omega⟩ | exact oneAll_of rfl | exact ⟨rfl, oneAll_of rfl⟩ | exact Ref.refl _ | exact Thin.ref (.skip (Thin.refl _)) | exact Thin.ref (.skip (.skip (Thin.refl _))) | exact hne | exact ⟨rfl, Nat.le_of_ble_eq_true rfl⟩ | ((try unfold maxLen); (try simp only [List.length_nil, List.length_cons, List.length_append]); omega) | (refine ⟨rfl, ?_⟩; (try simp only [List.length_nil, List.length_cons, List.length_append]); omega)) ?_ | intro _)); (all_goals (conv => whnf))
      all_goals first | (exfalso; omega) | skip
      rename_i b5 a9 c9
      refine VC_loop (Nat × Option Addr × Nat) (fun (i, a7, c7) => [(5, .ptr 5 b5 0), (6, .sl 901 a9 s.length c9), (7, .sl 910 a7 (rep i s).length c7), (8, .v (.int .i64 i))])
        (fun (i, a7, c7) => [.own 910 a7 (rep i s).length c7 ty_uint8 1 (bytesV (rep i s)), .own 901 a9 s.length c9 ty_uint8 1 (bytesV s), .box 5 b5 (ruC ⟨3, rl, (p : Int) + 1, 0, k⟩) ty_api_Rule])
        (fun (i, a7, c7) => i ≤ k) (fun (i, a7, c7) => k - i) (0, none, 0) (Nat.zero_le _) (by (repeat ((conv => whnf); refine And.intro (by first | exact rfl | exact vint_eq (by omega) | exact vint_eq (by (dsimp only; omega)) | exact vsl_eq (by omega) | exact vsl_eq (by first | (dsimp only; omega) | (simp; done) | (simp; omega))) ?_)); exact trivial) (Ref.ownNil 910 ty_uint8 1) ?_
      rintro ⟨i, a7, c7⟩ hi
      dsimp only at hi ⊢
      by_cases hlt : i < k
      · have hrs : rep (i + 1) s = rep i s ++ s := by rw [rep_add, rep_one]
        have hil := Nat.mul_le_mul_right s.length (show i + 1 ≤ k by omega)
        have hil2 := rep_length i s
        have hil3 : (i + 1) * s.length = i * s.length + s.length := Nat.succ_mul _ _
        (repeat' ((conv => whnf); first | rw [Int.toNat_natCast] | rw [Nat.mul_one] | refine ⟨_, ⟨rfl, trivial⟩, ?_⟩ | (refine bcase_prop (fun h => ?_) (fun h => ?_) <;> try (exfalso; omega)) | (refine bcase_nprop (fun h => ?_) (fun h => ?_) <;> try (exfalso; omega)) | (refine bcase_intro (fun h => ?_) (fun h => ?_) <;> (try simp only [Bool.not_eq_true', Bool.not_eq_false', decide_eq_true_eq, decide_eq_false_iff_not, Bool.not_eq_true, Bool.not_eq_false, Decidable.not_not] at h)) | refine And.intro (by first | omega | exact rfl | assumption | exact ⟨rfl, rfl, rfl, rfl, rfl⟩ | exact ⟨rfl, rfl, rfl, rfl⟩ | exact ⟨rfl, by omega⟩ | exact oneAll_of rfl | exact ⟨rfl, oneAll_of rfl⟩ | exact Ref.refl _ | exact Thin.ref (.skip (Thin.refl _)) | exact Thin.ref (.skip (.skip (Thin.refl _))) | exact ⟨rfl, Nat.le_of_ble_eq_true rfl⟩ | ((try unfold maxLen); (try simp only [List.length_nil, List.length_cons, List.length_append]); omega) | (refine ⟨rfl, ?_⟩; (try simp only [List.length_nil, List.length_cons, List.length_append]); omega)) ?_ | intro _)); (all_goals (conv => whnf))
        all_goals first | (exfalso; (dsimp only at *); omega) | skip
        rename_i a' c'
        refine loop_next (i + 1, a', c') (show i + 1 ≤ k from hlt) (show k - (i + 1) < k - i by omega) ?_ ?_
        · dsimp only
          rw [hrs, List.length_append]
          (repeat ((conv => whnf); refine And.intro (by first | exact rfl | exact vint_eq (by omega) | exact vint_eq (by (dsimp only; omega)) | exact vsl_eq (by omega) | exact vsl_eq (by first | (dsimp only; omega) | (simp; done) | (simp; omega))) ?_)); exact trivial
        · dsimp only
          rw [hrs, List.length_append, ← bytesV_append]
          exact Ref.refl _
      · have hik : i = k := by omega
        subst hik
        (repeat' ((conv => whnf); first | refine ⟨_, ⟨rfl, trivial⟩, ?_⟩ | (refine bcase_prop (fun h => ?_) (fun h => ?_) <;> try (exfalso; omega)) | (refine bcase_nprop (fun h => ?_) (fun h => ?_) <;> try (exfalso; omega)) | (refine bcase_intro (fun h => ?_) (fun h => ?_) <;> (try simp only [Bool.not_eq_true', Bool.not_eq_false', decide_eq_true_eq, decide_eq_false_iff_not, Bool.not_eq_true, Bool.not_eq_false, Decidable.not_not] at h)) | refine And.intro (by first | omega | exact rfl | assumption | exact ⟨rfl, rfl, rfl, rfl, rfl⟩ | exact ⟨rfl, rfl, rfl, rfl⟩ | exact ⟨rfl, by omega⟩ | exact oneAll_of rfl | exact ⟨rfl, oneAll_of rfl⟩ | exact Ref.refl _ | exact Thin.ref (.skip (Thin.refl _)) | exact Thin.ref (.skip (.skip (Thin.refl _))) | exact ⟨rfl, Nat.le_of_ble_eq_true rfl⟩ | ((try unfold maxLen); (try simp only [List.length_nil, List.length_cons, List.length_append]); omega) | (refine ⟨rfl, ?_⟩; (try simp only [List.length_nil, List.length_cons, List.length_append]); omega)) ?_ | intro _)); (all_goals (conv => whnf))
        all_goals first | (exfalso; (dsimp only at *); omega) | skip
        exact ⟨⟨_, _, rfl, Thin.ref (.own (k' := 0) rfl rfl (.skip (.skip (.nil _))))⟩⟩

theorem calls_plain0 (a : Option Addr) (n c : Nat) (w : World) : Calls Tryd.prog fn_evergreenref11_plain #[.slice a n c, .int .i64 0] w (RetS ty_uint8 1 0 [] w) := by
  refine slice_call [.v (.slice a n c), .v (.int .i64 0)] w ok_evergreenref11_plain (by simp) ?_
  (repeat' ((conv => whnf); first | (refine bcase_prop (fun h => ?_) (fun h => ?_) <;> try (exfalso; omega)) | (refine bcase_nprop (fun h => ?_) (fun h => ?_) <;> try (exfalso; omega)) | (refine bcase_intro (fun h => ?_) (fun h => ?_) <;> (try simp only [Bool.not_eq_true', Bool.not_eq_false', decide_eq_true_eq, decide_eq_false_iff_not, Bool.not_eq_true, Bool.not_eq_false, Decidable.not_not] at h)) | refine And.intro (by first | omega | exact rfl | assumption | exact ⟨rfl, rfl, rfl, rfl, rfl⟩ | exact ⟨rfl, rfl, rfl, rfl⟩ | exact ⟨rfl, by omega⟩ | exact oneAll_of rfl | exact ⟨rfl, oneAll_of rfl⟩ | exact Ref.refl _ | exact Thin.ref (.skip (Thin.refl _)) | exact Thin.ref (.skip (.skip (Thin.refl _))) | exact ⟨rfl, Nat.le_of_ble_eq_true rfl⟩ | ((try unfold maxLen); (try simp only [List.length_nil, List.length_cons, List.length_append]); omega) | (refine ⟨rfl, ?_⟩; (try simp only [List.length_nil, List.length_cons, List.length_append]); omega)) ?_ | intro _)); (all_goals (conv => whnf))
  all_goals first | (exfalso; omega) | skip
  exact ⟨⟨_, _, rfl, Ref.ownNil 0 ty_uint8 1⟩⟩
theorem calls_LengthsN (g : List Rul) (ms : List Tm) (hgt : gTs [] g = ms) (hz : chk 1 g = 0) (hgl : gLen [] g = true) (a : Option Addr) (c : Nat) (hl : g.length * 40 ≤ 140737488355328) (htim : ∀ i, i < g.length → (g.getD i rul0).t ≤ 9223372036854775807) (w : World) (hin : In w [] a (rulsC g)) :
    Calls Tryd.prog fn_evergreenref11_Lengths #[.slice a g.length c] w fun e w' => ∃ v L1, e = .returned v ∧ R w [] L1 w' ∧ ∃ a c, (0 < g.length → a ≠ none) ∧ v = .tuple #[.slice a g.length c, .int .i64 0] ∧ L1 = [.own 0 a g.length c ty_int 1 (ints .i64 (lensI ms))] :=
  (calls_Lengths g a c hl htim w hin).mono fun e w' ⟨v, L1, he, hR', hq, _⟩ => by
    obtain ⟨a1, c1, hv, h1⟩ := hq hz hgl
    subst h1
    rw [hgt] at hR'
    exact ⟨v, _, he, hR', a1, c1, fun h => own_ne hR' (key := 0) rfl h, hv, rfl⟩
/-- What the reference's text hands back. -/
def plnQ (T : List Nat) (v : Value) (L1 : List Ent) : Prop := ∃ a c, v = .tuple #[.slice a T.length c, .bool true] ∧ L1 = [.own 903 a T.length c ty_uint8 1 (bytesV T)]
theorem calls_Plain (g : List Rul) (ms : List Tm) (hg : Gr g ms) (hgt : gTs [] g = ms) (hlen : (mAt ms g.length).len ≤ 4096) (hn : g.length ≤ 65536) (a : Option Addr) (c : Nat) (w : World) (hin : In w [] a (rulsC g)) :
    Calls Tryd.prog fn_evergreenref11_Plain #[.slice a g.length c, .int .i64 g.length] w fun e w' => ∃ v L1, e = .returned v ∧ R w [] L1 w' ∧ plnQ (mAt ms g.length).txt v L1 := by
  refine new_call [.v (.slice a g.length c), .v (.int .i64 g.length)] ok_evergreenref11_Plain (by simp) ?_
  have hz : chk 1 g = 0 := chk_zero.2 fun i hi => by
    have := hg.ok i hi
    rwa [show (1 : Int) + (i : Int) = (i : Int) + 1 by omega]
  have hgl : gLen [] g = true := gLen_of g [] fun m hm => by
    rw [hgt] at hm
    obtain ⟨i, hi, rfl⟩ := List.getElem_of_mem hm
    have := (hg.fit i (by rw [← hg.len]; exact hi)).2
    rwa [List.getD_eq_getElem?_getD, List.getElem?_eq_getElem hi] at this
  have c0 := fun w h => calls_LengthsN g ms hgt hz hgl a c (by omega) (fun i hi => hg.tim hi) w h
  by_cases h0 : g.length = 0
  · have hg0 : g = [] := List.eq_nil_of_length_eq_zero h0
    subst hg0
    have hT : (mAt ms ((([] : List Rul).length : Nat) : Int)).txt = [] := rfl
    rw [hT]
    simp only [List.length_nil] at *
    have c2 := fun w => calls_plain0 a 0 c w
    (repeat' ((conv => whnf); first | refine ⟨_, ⟨rfl, trivial⟩, ?_⟩ | (refine CallK_new (fun w' hR => c0 w' (hin.cast hR (by simp))) ?_; rintro _ _ ⟨a1, c1, hne, rfl, rfl⟩; refine ⟨.v _, rfl, ?_⟩) | refine CallK_slice 903 (fun w' hR => c2 w') ?_ | (refine bcase_prop (fun h => ?_) (fun h => ?_) <;> try (exfalso; omega)) | (refine bcase_nprop (fun h => ?_) (fun h => ?_) <;> try (exfalso; omega)) | (refine bcase_intro (fun h => ?_) (fun h => ?_) <;> (try simp only [Bool.not_eq_true', Bool.not_eq_false', decide_eq_true_eq, decide_eq_false_iff_not, Bool.not_eq_true, Bool.not_eq_false, Decidable.not_not] at h)) | refine And.intro (by first | omega | exact rfl | assumption | exact ⟨rfl, rfl, rfl, rfl, rfl⟩ | exact ⟨rfl, rfl, rfl, rfl⟩ | exact ⟨rfl, by omega⟩ | exact oneAll_of rfl | exact ⟨rfl, oneAll_of rfl⟩ | exact Ref.refl _ | exact Thin.ref (.skip (Thin.refl _)) | exact Thin.ref (.skip (.skip (Thin.refl _))) | exact ⟨rfl, Nat.le_of_ble_eq_true rfl⟩ | ((try unfold maxLen); (try simp only [List.length_nil, List.length_cons, List.length_append]); omega) | (refine ⟨rfl, ?_⟩; (try simp only [List.length_nil, List.length_cons, List.length_append]); omega)) ?_ | intro _)); (all_goals (conv => whnf))
    all_goals first | (exfalso; omega) | skip
    exact ⟨⟨_, Thin.ref (.own (k' := 903) rfl rfl (.skip (.nil _))), _, _, rfl, rfl⟩⟩
  · have c2 := calls_plain g ms hg a c (g.length - 1) (by omega) (by rw [show ((g.length - 1 : Nat) : Int) + 1 = g.length by omega]; omega)
    rw [show ((g.length - 1 : Nat) : Int) + 1 = g.length by omega] at c2
    have la := lensI_at (ms := ms) (n := g.length) (by omega) (by rw [hg.len]; omega)
    (repeat' ((conv => whnf); first | refine ⟨_, ⟨rfl, trivial⟩, ?_⟩ | (refine CallK_new (fun w' hR => c0 w' (hin.cast hR (by simp))) ?_; rintro _ _ ⟨a1, c1, hne, rfl, rfl⟩; refine ⟨.v _, rfl, ?_⟩) | refine ⟨_, rdO 0 rfl la, ?_⟩ | rw [Nat.mul_one] | refine CallK_slice 903 (fun w' hR => c2 w' (hin.cast hR (by simp))) ?_ | (refine bcase_prop (fun h => ?_) (fun h => ?_) <;> try (exfalso; omega)) | (refine bcase_nprop (fun h => ?_) (fun h => ?_) <;> try (exfalso; omega)) | (refine bcase_intro (fun h => ?_) (fun h => ?_) <;> (try simp only [Bool.not_eq_true', Bool.not_eq_false', decide_eq_true_eq, decide_eq_false_iff_not, Bool.not_eq_true, Bool.not_eq_false, Decidable.not_not] at h)) | refine And.intro (by first | omega | exact rfl | assumption | exact ⟨rfl, rfl, rfl, rfl, rfl⟩ | exact ⟨rfl, rfl, rfl, rfl⟩ | exact ⟨rfl, by omega⟩ | exact oneAll_of rfl | exact ⟨rfl, oneAll_of rfl⟩ | exact Ref.refl _ | exact Thin.ref (.skip (Thin.refl _)) | exact Thin.ref (.skip (.skip (Thin.refl _))) | exact hne (by omega) | exact ⟨rfl, Nat.le_of_ble_eq_true rfl⟩ | ((try unfold maxLen); (try simp only [List.length_nil, List.length_cons, List.length_append]); omega) | (refine ⟨rfl, ?_⟩; (try simp only [List.length_nil, List.length_cons, List.length_append]); omega)) ?_ | intro _)); (all_goals (conv => whnf))
    all_goals first | (exfalso; omega) | skip
    exact ⟨⟨_, Thin.ref (.own (k' := 903) rfl rfl (.skip (.nil _))), _, _, rfl, rfl⟩⟩
end Go.Proofs.YtkkhpdkfploodaaDoor
/- The library's sort of a row of IDs, laid at this program (written by the kit's tool for plain words). No condition. -/
namespace Go.Proofs
open Go.Shelf
def Tryd.laysSlgm5_f86_ren : Go.Shelf.Ren := ⟨fun | 5 => 86 | 8 => 102 | 7 => 101 | 19 => 121 | 20 => 122 | 10 => 112 | 11 => 113 | 12 => 114 | 13 => 115 | 14 => 116 | 15 => 117 | 16 => 118 | 17 => 119 | 18 => 120 | 30 => 124 | 31 => 125 | 32 => 126 | 33 => 127 | 34 => 128 | 35 => 129 | 40 => 131 | n => n, fun | 23 => 57 | 25 => 27 | 3 => 3 | 32 => 45 | 22 => 57 | 0 => 0 | 44 => 191 | 46 => 99 | 4 => 4 | 36 => 184 | 35 => 183 | 41 => 177 | 5 => 5 | 9 => 9 | 53 => 193 | 57 => 197 | 63 => 199 | 64 => 162 | n => n, fun | n => n⟩
theorem Tryd.laysSlgm5_f86 : Go.Proofs.SlLaysM.n5 Tryd.prog Tryd.laysSlgm5_f86_ren := {
  mixed := by kernel_rfl
  f5 := ⟨Tryd.f86.name, by decide, Tryd.func86.trans (congrArg some (by kernel_rfl))⟩
  f7 := ⟨Tryd.f101.name, by decide, Tryd.func101.trans (congrArg some (by kernel_rfl))⟩
  f8 := Tryd.func102.trans (congrArg some (by kernel_rfl))
  f10 := ⟨Tryd.f112.name, by decide, Tryd.func112.trans (congrArg some (by kernel_rfl))⟩
  f11 := ⟨Tryd.f113.name, by decide, Tryd.func113.trans (congrArg some (by kernel_rfl))⟩
  f12 := ⟨Tryd.f114.name, by decide, Tryd.func114.trans (congrArg some (by kernel_rfl))⟩
  f13 := ⟨Tryd.f115.name, by decide, Tryd.func115.trans (congrArg some (by kernel_rfl))⟩
  f14 := ⟨Tryd.f116.name, by decide, Tryd.func116.trans (congrArg some (by kernel_rfl))⟩
  f15 := ⟨Tryd.f117.name, by decide, Tryd.func117.trans (congrArg some (by kernel_rfl))⟩
  f16 := ⟨Tryd.f118.name, by decide, Tryd.func118.trans (congrArg some (by kernel_rfl))⟩
  f17 := ⟨Tryd.f119.name, by decide, Tryd.func119.trans (congrArg some (by kernel_rfl))⟩
  f18 := ⟨Tryd.f120.name, by decide, Tryd.func120.trans (congrArg some (by kernel_rfl))⟩
  f19 := Tryd.func121.trans (congrArg some (by kernel_rfl))
  f20 := Tryd.func122.trans (congrArg some (by kernel_rfl))
  f30 := ⟨Tryd.f124.name, by decide, Tryd.func124.trans (congrArg some (by kernel_rfl))⟩
  f31 := Tryd.func125.trans (congrArg some (by kernel_rfl))
  f32 := Tryd.func126.trans (congrArg some (by kernel_rfl))
  f33 := ⟨Tryd.f127.name, by decide, Tryd.func127.trans (congrArg some (by kernel_rfl))⟩
  f34 := ⟨Tryd.f128.name, by decide, Tryd.func128.trans (congrArg some (by kernel_rfl))⟩
  f35 := ⟨Tryd.f129.name, by decide, Tryd.func129.trans (congrArg some (by kernel_rfl))⟩
  f40 := ⟨Tryd.f131.name, by decide, Tryd.func131.trans (congrArg some (by kernel_rfl))⟩
  t0 := Tryd.underlying0
  a0 := Tryd.isAgg0
  z0 := Tryd.sizeOf0
  v0 := Tryd.zeroValue0
  t3 := Tryd.underlying3
  a3 := Tryd.isAgg3
  z3 := Tryd.sizeOf3
  v3 := Tryd.zeroValue3
  t4 := Tryd.underlying4
  a4 := Tryd.isAgg4
  z4 := Tryd.sizeOf4
  v4 := Tryd.zeroValue4
  t5 := Tryd.underlying5
  a5 := Tryd.isAgg5
  z5 := Tryd.sizeOf5
  v5 := Tryd.zeroValue5
  t9 := Tryd.underlying9
  a9 := Tryd.isAgg9
  z9 := Tryd.sizeOf9
  v9 := Tryd.zeroValue9
  t22 := Tryd.underlying57
  a22 := Tryd.isAgg57
  z22 := Tryd.sizeOf57
  v22 := Tryd.zeroValue57
  t23 := Tryd.underlying57
  a23 := Tryd.isAgg57
  z23 := Tryd.sizeOf57
  v23 := Tryd.zeroValue57
  t25 := Tryd.underlying27
  a25 := Tryd.isAgg27
  z25 := Tryd.sizeOf27
  v25 := Tryd.zeroValue27
  t32 := Tryd.underlying45
  a32 := Tryd.isAgg45
  z32 := Tryd.sizeOf45
  v32 := Tryd.zeroValue45
  t35 := Tryd.underlying183
  a35 := Tryd.isAgg183
  z35 := Tryd.sizeOf183
  v35 := Tryd.zeroValue183
  t36 := Tryd.underlying184
  a36 := Tryd.isAgg184
  z36 := Tryd.sizeOf184
  v36 := Tryd.zeroValue184
  t41 := Tryd.underlying177
  a41 := Tryd.isAgg177
  z41 := Tryd.sizeOf177
  v41 := Tryd.zeroValue177
  t44 := Tryd.underlying191
  a44 := Tryd.isAgg191
  z44 := Tryd.sizeOf191
  v44 := Tryd.zeroValue191
  t46 := Tryd.underlying99
  a46 := Tryd.isAgg99
  z46 := Tryd.sizeOf99
  v46 := Tryd.zeroValue99
  t53 := Tryd.underlying193
  a53 := Tryd.isAgg193
  z53 := Tryd.sizeOf193
  v53 := Tryd.zeroValue193
  t57 := Tryd.underlying197
  a57 := Tryd.isAgg197
  z57 := Tryd.sizeOf197
  v57 := Tryd.zeroValue197
  t63 := Tryd.underlying199
  a63 := Tryd.isAgg199
  z63 := Tryd.sizeOf199
  v63 := Tryd.zeroValue199
  t64 := Tryd.underlying162
  a64 := Tryd.isAgg162
  z64 := Tryd.sizeOf162
  v64 := Tryd.zeroValue162 }
end Go.Proofs
namespace Go.Proofs.YtkkhpdkfploodaaDoor
open Go.EG
theorem sortsI : SortsI Tryd.prog fn_slices_Sort_Sl_api_ID_api_ID := fun blk off cap zs w hH hb hs => AnyM.slices_Sort_int Tryd.laysSlgm5_f86 blk off cap zs w hH hb hs
end Go.Proofs.YtkkhpdkfploodaaDoor
/- The text of a signature: the program. -/
namespace Go.Proofs.YtkkhpdkfploodaaDoor
open Go.EG
attribute [local irreducible] CallK QCall Go.Calls
set_option linter.unusedSimpArgs false
set_option linter.unusedVariables false
set_option maxRecDepth 20000
set_option maxHeartbeats 4000000

theorem calls_Bytes22 (T : List Nat) (hb : ∀ x ∈ T, x < 256) (a a' : Option Addr) (c c' : Nat) (w : World) (h1 : In w [] a (bytesV T)) (h2 : In w [] a' (bytesV T)) :
    Calls Tryd.prog fn_evergreenbase_Bytes #[.slice a T.length c, .slice a' T.length c'] w fun e w' => e = .returned (.bool true) ∧ Ext w w' := by
  refine pure_call [.v (.slice a T.length c), .v (.slice a' T.length c')] w ok_evergreenbase_Bytes (by simp) ?_
  have r1 := fun {L : List Ent} => h1.rds (L := L) (n := T.length * 1) (by rw [bytesV_length, Nat.mul_one])
  have r2 := fun {L : List Ent} => h2.rds (L := L) (n := T.length * 1) (by rw [bytesV_length, Nat.mul_one])
  have hby := bytesV_u8 hb
  (repeat' ((conv => whnf); first | refine ⟨bytesV T, r1, ?_⟩ | refine ⟨bytesV T, r2, ?_⟩ | refine ⟨T.map UInt8.ofNat, hby, ?_⟩ | (refine bcase_prop (fun h => ?_) (fun h => ?_) <;> try (exfalso; omega)) | (refine bcase_nprop (fun h => ?_) (fun h => ?_) <;> try (exfalso; omega)) | (refine bcase_intro (fun h => ?_) (fun h => ?_) <;> (try simp only [Bool.not_eq_true', Bool.not_eq_false', decide_eq_true_eq, decide_eq_false_iff_not, Bool.not_eq_true, Bool.not_eq_false, Decidable.not_not] at h)) | refine And.intro (by first | omega | exact rfl | assumption | exact ⟨rfl, rfl, rfl, rfl, rfl⟩ | exact ⟨rfl, rfl, rfl, rfl⟩ | exact ⟨rfl, by omega⟩ | exact oneAll_of rfl | exact ⟨rfl, oneAll_of rfl⟩ | exact Ref.refl _ | exact Thin.ref (.skip (Thin.refl _)) | exact Thin.ref (.skip (.skip (Thin.refl _))) | exact ⟨rfl, Nat.le_of_ble_eq_true rfl⟩ | ((try unfold maxLen); (try simp only [List.length_nil, List.length_cons, List.length_append]); omega) | (refine ⟨rfl, ?_⟩; (try simp only [List.length_nil, List.length_cons, List.length_append]); omega)) ?_ | intro _)); (all_goals (conv => whnf))
  all_goals (refine ⟨?_⟩; show Value.bool _ = Value.bool true; congr 1; show ((_ : ByteArray) == _) = true; rw [Go.beq_toListBytes]; exact beq_self_eq_true _)
theorem calls_ExportN (hs : SortsI Tryd.prog fn_slices_Sort_Sl_api_ID_api_ID) (b : Nat) (S : Sto) (hw : WF S) (id : Int) (hk : known S id) (key : Nat) (fp : List Nat) (w : World) (hR : StR w key fp b S) :
    Calls Tryd.prog fn_P_intern_Store_Export #[pS b, .int .i64 id] w fun e w' => ∃ v L1, e = .returned v ∧ R w fp L1 w' ∧ ∃ L a c fp', Rch S id L ∧ (0 < (xg S L).length → a ≠ none) ∧ v = .tuple #[.slice a (xg S L).length c, .nilIface] ∧ L1 = [packE key fp' (fS b S), .own 812 a (xg S L).length c ty_api_Rule 5 (rulsC (xg S L))] :=
  (calls_Export hs b S hw id hk key fp w hR).mono fun e w' ⟨v, L1, he, hR', L, a, c, fp', hL, hv, h1⟩ => by
    subst h1
    exact ⟨v, _, he, hR', L, a, c, fp', hL, fun h => own_ne hR'.tail (key := 812) rfl h, hv, rfl⟩
theorem all_len : ∀ (n : Nat) (L : List Int), (∀ y : Int, 1 ≤ y → y ≤ n → y ∈ L) → n ≤ L.length
  | 0, _, _ => Nat.zero_le _
  | n + 1, L, h => by
    have hm := h ((n + 1 : Nat) : Int) (by omega) (Int.le_refl _)
    have := all_len n (L.erase ((n + 1 : Nat) : Int)) fun y h1 h2 => (List.mem_erase_of_ne (by omega)).2 (h y h1 (by omega))
    rw [List.length_erase_of_mem hm] at this
    have := List.length_pos_of_mem hm
    omega
/-- All rules of a fresh store are reached. -/
theorem Out.full {S S2 : Sto} {m : Nat} {t : List Nat} (hw2 : WF S2) (hg2 : Grow S S2) (he : S2.E.length = S.E.length) (hout : Out ⟨m, []⟩ S t) {x : Int} (hx : 0 ≤ x ∧ x ≤ S.E.length) (hx0 : t = [] → x = 0) (hx1 : t ≠ [] → 1 ≤ x ∧ Sig t (tm S.E x)) (hlen : S.E.length ≤ 2 * t.length) {L : List Int} (hL : Rch S2 x L) : (xg S2 L).length = S2.E.length := by
  rw [xg_length]
  by_cases ht : t = []
  · have h1 := hx0 ht
    subst ht
    have : S.E.length = 0 := by simpa using hlen
    rcases hL.len with h | h
    · omega
    · rw [h]; simp only [List.length_nil]; omega
  · obtain ⟨h1, h2⟩ := hx1 ht
    have h3 : Sig t (tm S2.E x) := by rw [hg2.tm hx.2]; exact h2
    have h4 : Out ⟨m, []⟩ S2 t := fun y k1 k2 => by
      obtain ⟨k, hk⟩ := hout y k1 (by omega)
      exact ⟨k, by rw [hg2.tm (by omega)]; exact hk⟩
    have h5 := all_len S2.E.length L fun y k1 k2 => h4.all hw2 h1 (by omega) h3 hL (by simp only [List.length_nil]; omega) k2
    rcases hL.len with h | h
    · omega
    · have := hL.top (by omega); rw [h] at this; simp at this
/-- Parsing again. -/
theorem Out.again {S S2 : Sto} {t : List Nat} (hw : WF S) (hw2 : WF S2) (hg2 : Grow S S2) (hout : Out S S2 t) {x y : Int} (hx : 0 ≤ x ∧ x ≤ S.E.length) (hx0 : t = [] → x = 0) (hx1 : t ≠ [] → 1 ≤ x ∧ Sig t (tm S.E x)) (hy : 0 ≤ y ∧ y ≤ S2.E.length) (hy0 : t = [] → y = 0) (hy1 : t ≠ [] → 1 ≤ y ∧ Sig t (tm S2.E y)) (hlen : S2.E.length ≤ S.E.length + 2 * t.length) : y = x ∧ S2.E.length = S.E.length := by
  have hl := hg2.len
  by_cases ht : t = []
  · rw [hx0 ht, hy0 ht]
    subst ht
    simp only [List.length_nil] at hlen
    exact ⟨rfl, by omega⟩
  · obtain ⟨h1, h2⟩ := hx1 ht
    obtain ⟨k1, k2⟩ := hy1 ht
    exact hout.same hw hw2 hg2 k1 hy.2 k2 h1 hx.2 h2
theorem law_SignatureText (hs : SortsI Tryd.prog fn_slices_Sort_Sl_api_ID_api_ID) (w : World) (hG : TabF w []) (t : List Nat) (hbt : ∀ x ∈ t, x < 256) (htl : t.length ≤ 4611686018427387904) (a : Option Addr) (c : Nat) (hia : In w [] a (bytesV t)) :
    Calls Tryd.prog fn_evergreenlaw22_SignatureText #[.slice a t.length c] w fun e w' => e = .returned (.bool true) ∧ Ext w w' := by
  refine pure_call [.v (.slice a t.length c)] w ok_evergreenlaw22_SignatureText (by simp) ?_
  by_cases hs1 : t.length ≤ 1000
  case neg =>
    (repeat' ((conv => whnf); first | (refine bcase_prop (fun h => ?_) (fun h => ?_) <;> try (exfalso; omega)) | (refine bcase_nprop (fun h => ?_) (fun h => ?_) <;> try (exfalso; omega)) | (refine bcase_intro (fun h => ?_) (fun h => ?_) <;> (try simp only [Bool.not_eq_true', Bool.not_eq_false', decide_eq_true_eq, decide_eq_false_iff_not, Bool.not_eq_true, Bool.not_eq_false, Decidable.not_not] at h)) | refine And.intro (by first | omega | exact rfl | assumption | exact ⟨rfl, rfl, rfl, rfl, rfl⟩ | exact ⟨rfl, rfl, rfl, rfl⟩ | exact ⟨rfl, by omega⟩ | exact oneAll_of rfl | exact ⟨rfl, oneAll_of rfl⟩ | exact Ref.refl _ | exact Thin.ref (.skip (Thin.refl _)) | exact Thin.ref (.skip (.skip (Thin.refl _))) | exact ⟨rfl, Nat.le_of_ble_eq_true rfl⟩ | ((try unfold maxLen); (try simp only [List.length_nil, List.length_cons, List.length_append]); omega) | (refine ⟨rfl, ?_⟩; (try simp only [List.length_nil, List.length_cons, List.length_append]); omega)) ?_ | intro _)); (all_goals (conv => whnf))
    all_goals first | (exfalso; omega) | exact ⟨rfl⟩
  have c0 := fun w h => calls_awake22 w h
  have c1 := calls_New 20000 77
  have hw0 : WF ⟨20000, []⟩ := WF.new 20000 (by decide)
  have cT := fun w h => calls_copied t (by omega) a c w h
  have cB := fun a a' c c' w h h' => calls_Bytes22 t hbt a a' c c' w h h'
  have cL := fun b S => calls_sLen b S
  (repeat' ((conv => whnf); first | (refine CallK_new (fun w hR => c1 w) ?_; rintro _ _ ⟨bn, fpn, rfl, rfl⟩; refine ⟨.v _, rfl, ?_⟩) | (refine CallK_new (fun w hR => calls_newP _ ⟨20000, []⟩ w) ?_; rintro _ _ ⟨bp, bt, f1, rfl, rfl⟩; refine ⟨.v _, rfl, ?_⟩) | refine CallK_slice 901 (fun w' hR => cT w' (hia.cast hR (by simp))) ?_ | (refine CallK_sub [78, 77, 3000] rfl (fun w hR h0 => calls_OfG bp bt bn ⟨20000, []⟩ hw0 t hbt hs1 (by dsimp only [List.length_nil]; omega) _ _ _ _ _ w h0 (hG.castL hR) (In.besideL (key := 901) hR rfl)) ?_; rintro _ _ ⟨S, x, g1, g2, hw1, hg1, hx, hx0, hx1, hln, hout, rfl, rfl⟩; have hm1 := hg1.most; have cL1 := calls_sLen bn S; have hsm1 := hw1.small; dsimp only [List.length_nil] at hln hm1; refine ⟨.v _, rfl, ?_⟩) | (refine CallK_pack (key := 77) rfl (fun w hR h0 => cL1 _ _ _ h0) ?_; rintro _ _ ⟨rfl, fp', rfl⟩; refine ⟨.v _, rfl, ?_⟩) | (refine bcase_prop (fun h => ?_) (fun h => ?_) <;> try (exfalso; omega)) | (refine bcase_nprop (fun h => ?_) (fun h => ?_) <;> try (exfalso; omega)) | (refine bcase_intro (fun h => ?_) (fun h => ?_) <;> (try simp only [Bool.not_eq_true', Bool.not_eq_false', decide_eq_true_eq, decide_eq_false_iff_not, Bool.not_eq_true, Bool.not_eq_false, Decidable.not_not] at h)) | refine And.intro (by first | omega | exact rfl | assumption | exact ⟨rfl, rfl, rfl, rfl, rfl⟩ | exact ⟨rfl, rfl, rfl, rfl⟩ | exact ⟨rfl, by omega⟩ | exact oneAll_of rfl | exact ⟨rfl, oneAll_of rfl⟩ | exact Ref.refl _ | exact Thin.ref (.skip (Thin.refl _)) | exact Thin.ref (.skip (.skip (Thin.refl _))) | exact ⟨rfl, Nat.le_of_ble_eq_true rfl⟩ | ((try unfold maxLen); (try simp only [List.length_nil, List.length_cons, List.length_append]); omega) | (refine ⟨rfl, ?_⟩; (try simp only [List.length_nil, List.length_cons, List.length_append]); omega)) ?_ | intro _)); (all_goals (conv => whnf))
  all_goals first | (exfalso; omega) | skip
  (repeat' ((conv => whnf); first | (refine CallK_sub [78, 77, 3000] rfl (fun w hR h0 => calls_OfG bp bt bn S hw1 t hbt hs1 (by rw [hm1]; omega) _ _ _ _ _ w h0 (hG.castL hR) (In.besideL (key := 901) hR rfl)) ?_; rintro _ _ ⟨S2, y, g3, g4, hw2, hg2, hy, hy0, hy1, hln2, hout2, rfl, rfl⟩; obtain ⟨rfl, he2⟩ := Out.again hw1 hw2 hg2 hout2 hx hx0 hx1 hy hy0 hy1 hln2; have hk2 : known S2 y := hy; have c5 := calls_ExportN hs bn S2 hw2 y hk2; have cL2 := calls_sLen bn S2; refine ⟨.v _, rfl, ?_⟩) | (refine bcase_prop (fun h => ?_) (fun h => ?_) <;> try (exfalso; omega)) | (refine bcase_nprop (fun h => ?_) (fun h => ?_) <;> try (exfalso; omega)) | (refine bcase_intro (fun h => ?_) (fun h => ?_) <;> (try simp only [Bool.not_eq_true', Bool.not_eq_false', decide_eq_true_eq, decide_eq_false_iff_not, Bool.not_eq_true, Bool.not_eq_false, Decidable.not_not] at h)) | refine And.intro (by first | omega | exact rfl | assumption | exact ⟨rfl, rfl, rfl, rfl, rfl⟩ | exact ⟨rfl, rfl, rfl, rfl⟩ | exact ⟨rfl, by omega⟩ | exact oneAll_of rfl | exact ⟨rfl, oneAll_of rfl⟩ | exact Ref.refl _ | exact Thin.ref (.skip (Thin.refl _)) | exact Thin.ref (.skip (.skip (Thin.refl _))) | exact ⟨rfl, Nat.le_of_ble_eq_true rfl⟩ | ((try unfold maxLen); (try simp only [List.length_nil, List.length_cons, List.length_append]); omega) | (refine ⟨rfl, ?_⟩; (try simp only [List.length_nil, List.length_cons, List.length_append]); omega)) ?_ | intro _)); (all_goals (conv => whnf))
  all_goals first | (exfalso; omega) | skip
  have hgt : ∀ L, Rch S2 y L → gTs [] (xg S2 L) = L.map (tm S2.E) := fun L hL => hL.gTs hw2 hk2.2
  have hgr : ∀ L, Rch S2 y L → Gr (xg S2 L) (L.map (tm S2.E)) := fun L hL => hL.gr hw2 hk2.2
  have hfull : ∀ L, Rch S2 y L → (xg S2 L).length = S2.E.length := fun L hL => Out.full hw2 hg2 he2 hout hx hx0 hx1 (by omega) hL
  have htx : ∀ L, Rch S2 y L → (mAt (L.map (tm S2.E)) ((xg S2 L).length : Nat)).txt = t := fun L hL => by
    rw [xg_length, hL.top_ hy.1]
    by_cases ht : t = []
    · rw [hx0 ht, ht]; rfl
    · exact (hy1 ht).2.txt
  have cP := fun (L : List Int) (hL : Rch S2 y L) aL cL w h => calls_Plain (xg S2 L) (L.map (tm S2.E)) (hgr L hL) (hgt L hL) (by unfold Tm.len; rw [htx L hL]; omega) (by rw [hfull L hL]; omega) aL cL w h
  (repeat' ((conv => whnf); first | (refine CallK_pack (key := 77) rfl (fun w hR h0 => cL2 _ _ _ h0) ?_; rintro _ _ ⟨rfl, fp', rfl⟩; refine ⟨.v _, rfl, ?_⟩) | (refine CallK_pack (key := 77) rfl (fun w hR h0 => c5 _ _ _ h0) ?_; rintro _ _ ⟨L, aL, cL, fp', hL, hne, rfl, rfl⟩; have hf1 := hfull L hL; have cP1 := cP L hL; rw [htx L hL] at cP1; refine ⟨.v _, rfl, ?_⟩) | (refine CallK_pure (.v _) (fun w hR => c0 w (hG.cast hR (by simp))) ?_) | (refine CallK_new (fun w hR => cP1 _ _ w (In.ownR (key := 812) hR rfl)) ?_; rintro _ _ ⟨aP, cP2, rfl, rfl⟩; refine ⟨.v _, rfl, ?_⟩) | (refine CallK_pure (.v _) (fun w hR => cB _ _ _ _ w (In.ownR (key := 903) hR rfl) (hia.cast hR (by simp))) ?_) | (refine bcase_prop (fun h => ?_) (fun h => ?_) <;> try (exfalso; omega)) | (refine bcase_nprop (fun h => ?_) (fun h => ?_) <;> try (exfalso; omega)) | (refine bcase_intro (fun h => ?_) (fun h => ?_) <;> (try simp only [Bool.not_eq_true', Bool.not_eq_false', decide_eq_true_eq, decide_eq_false_iff_not, Bool.not_eq_true, Bool.not_eq_false, Decidable.not_not] at h)) | refine And.intro (by first | omega | exact rfl | assumption | exact ⟨rfl, rfl, rfl, rfl, rfl⟩ | exact ⟨rfl, rfl, rfl, rfl⟩ | exact ⟨rfl, by omega⟩ | exact oneAll_of rfl | exact ⟨rfl, oneAll_of rfl⟩ | exact Ref.refl _ | exact Thin.ref (.skip (Thin.refl _)) | exact Thin.ref (.skip (.skip (Thin.refl _))) | exact ⟨rfl, Nat.le_of_ble_eq_true rfl⟩ | ((try unfold maxLen); (try simp only [List.length_nil, List.length_cons, List.length_append]); omega) | (refine ⟨rfl, ?_⟩; (try simp only [List.length_nil, List.length_cons, List.length_append]); omega)) ?_ | intro _)); (all_goals (conv => whnf))
  all_goals first | (exfalso; omega) | skip
  all_goals exact ⟨rfl⟩
theorem law_SignatureTextI (w : World) (hG : TabF w []) (xs : List Int) (hx : ∀ n ∈ xs, (Lit.int .u8 n).wf = true) (hxl : xs.length ≤ 140737488351232) (a : Option Addr) (c : Nat) (hia : In w [] a (ints .u8 xs)) :
    Calls Tryd.prog fn_evergreenlaw22_SignatureText #[.slice a xs.length c] w fun e w' => e = .returned (.bool true) ∧ Ext w w' := by
  obtain ⟨e1, b1⟩ := bytes_ints hx
  rw [e1] at hia
  have := law_SignatureText sortsI w hG (xs.map Int.toNat) b1 (by simp; omega) a c hia
  rwa [List.length_map] at this
end Go.Proofs.YtkkhpdkfploodaaDoor
/- Each rule of a signature is the signature of its text: the program. -/
namespace Go.Proofs.YtkkhpdkfploodaaDoor
open Go.EG
attribute [local irreducible] CallK QCall Go.Calls
set_option linter.unusedSimpArgs false
set_option linter.unusedVariables false
set_option maxRecDepth 20000
set_option maxHeartbeats 4000000

theorem seq_mem_txt {t : List Nat} {k : Nat} {m : Tm} (h : m ∈ seqT t k) : m.len ≤ t.length ∧ ∀ x ∈ m.txt, x ∈ t := by
  have h1 := len_mem h
  have h2 := seqT_txt t k
  rw [h2] at h1
  refine ⟨h1, fun x hx => ?_⟩
  rw [← h2]
  exact List.mem_flatMap.2 ⟨m, h, hx⟩
structure PtG where
  i : Nat
  S : Sto
  f1 : List Nat
  f2 : List Nat
theorem law_SignatureParts (hs : SortsI Tryd.prog fn_slices_Sort_Sl_api_ID_api_ID) (w : World) (hG : TabF w []) (t : List Nat) (hbt : ∀ x ∈ t, x < 256) (htl : t.length ≤ 4611686018427387904) (a : Option Addr) (c : Nat) (hia : In w [] a (bytesV t)) :
    Calls Tryd.prog fn_evergreenlaw22_SignatureParts #[.slice a t.length c] w fun e w' => e = .returned (.bool true) ∧ Ext w w' := by
  refine pure_call [.v (.slice a t.length c)] w ok_evergreenlaw22_SignatureParts (by simp) ?_
  by_cases hs1 : t.length ≤ 120
  case neg =>
    (repeat' ((conv => whnf); first | (refine bcase_prop (fun h => ?_) (fun h => ?_) <;> try (exfalso; omega)) | (refine bcase_nprop (fun h => ?_) (fun h => ?_) <;> try (exfalso; omega)) | (refine bcase_intro (fun h => ?_) (fun h => ?_) <;> (try simp only [Bool.not_eq_true', Bool.not_eq_false', decide_eq_true_eq, decide_eq_false_iff_not, Bool.not_eq_true, Bool.not_eq_false, Decidable.not_not] at h)) | refine And.intro (by first | omega | exact rfl | assumption | exact ⟨rfl, rfl, rfl, rfl, rfl⟩ | exact ⟨rfl, rfl, rfl, rfl⟩ | exact ⟨rfl, by omega⟩ | exact oneAll_of rfl | exact ⟨rfl, oneAll_of rfl⟩ | exact Ref.refl _ | exact Thin.ref (.skip (Thin.refl _)) | exact Thin.ref (.skip (.skip (Thin.refl _))) | exact ⟨rfl, Nat.le_of_ble_eq_true rfl⟩ | ((try unfold maxLen); (try simp only [List.length_nil, List.length_cons, List.length_append]); omega) | (refine ⟨rfl, ?_⟩; (try simp only [List.length_nil, List.length_cons, List.length_append]); omega)) ?_ | intro _)); (all_goals (conv => whnf))
    all_goals first | (exfalso; omega) | exact ⟨rfl⟩
  have c0 := fun w h => calls_awake22 w h
  have c1 := calls_New 5000 77
  have hw0 : WF ⟨5000, []⟩ := WF.new 5000 (by decide)
  have cT := fun w h => calls_copied t (by omega) a c w h
  (repeat' ((conv => whnf); first | (refine CallK_new (fun w hR => c1 w) ?_; rintro _ _ ⟨bn, fpn, rfl, rfl⟩; refine ⟨.v _, rfl, ?_⟩) | (refine CallK_new (fun w hR => calls_newP _ ⟨5000, []⟩ w) ?_; rintro _ _ ⟨bp, bt, f1, rfl, rfl⟩; refine ⟨.v _, rfl, ?_⟩) | refine CallK_slice 901 (fun w' hR => cT w' (hia.cast hR (by simp))) ?_ | (refine CallK_sub [78, 77, 3000] rfl (fun w hR h0 => calls_OfG bp bt bn ⟨5000, []⟩ hw0 t hbt (by omega) (by dsimp only [List.length_nil]; omega) _ _ _ _ _ w h0 (hG.castL hR) (In.besideL (key := 901) hR rfl)) ?_; rintro _ _ ⟨S, x, g1, g2, hw1, hg1, hx, hx0, hx1, hln, hout, rfl, rfl⟩; have hm1 := hg1.most; have cL1 := calls_sLen bn S; have hsm1 := hw1.small; dsimp only [List.length_nil] at hln hm1; refine ⟨.v _, rfl, ?_⟩) | (refine CallK_pack (key := 77) rfl (fun w hR h0 => cL1 _ _ _ h0) ?_; rintro _ _ ⟨rfl, fp', rfl⟩; refine ⟨.v _, rfl, ?_⟩) | (refine CallK_pure (.v _) (fun w hR => c0 w (hG.cast hR (by simp))) ?_) | (refine bcase_prop (fun h => ?_) (fun h => ?_) <;> try (exfalso; omega)) | (refine bcase_nprop (fun h => ?_) (fun h => ?_) <;> try (exfalso; omega)) | (refine bcase_intro (fun h => ?_) (fun h => ?_) <;> (try simp only [Bool.not_eq_true', Bool.not_eq_false', decide_eq_true_eq, decide_eq_false_iff_not, Bool.not_eq_true, Bool.not_eq_false, Decidable.not_not] at h)) | refine And.intro (by first | omega | exact rfl | assumption | exact ⟨rfl, rfl, rfl, rfl, rfl⟩ | exact ⟨rfl, rfl, rfl, rfl⟩ | exact ⟨rfl, by omega⟩ | exact oneAll_of rfl | exact ⟨rfl, oneAll_of rfl⟩ | exact Ref.refl _ | exact Thin.ref (.skip (Thin.refl _)) | exact Thin.ref (.skip (.skip (Thin.refl _))) | exact ⟨rfl, Nat.le_of_ble_eq_true rfl⟩ | ((try unfold maxLen); (try simp only [List.length_nil, List.length_cons, List.length_append]); omega) | (refine ⟨rfl, ?_⟩; (try simp only [List.length_nil, List.length_cons, List.length_append]); omega)) ?_ | intro _)); (all_goals (conv => whnf))
  all_goals first | (exfalso; omega) | skip
  refine VC_loop PtG (fun y => [(3, .v (pS bn)), (4, .v (pS bp)), (7, .v (.int .i64 S.E.length)), (8, .v (.int .i64 y.i))]) (fun y => fP bp bt bn y.S y.f1 y.f2)
    (fun y => 1 ≤ y.i ∧ y.i ≤ S.E.length + 1 ∧ WF y.S ∧ Grow S y.S ∧ y.S.E.length = S.E.length) (fun y => S.E.length + 1 - y.i) ⟨1, S, _, _⟩ ⟨Nat.le_refl _, by ((try dsimp only); omega), hw1, Grow.refl _, rfl⟩ (by (repeat ((conv => whnf); refine And.intro (by first | exact rfl | exact vint_eq (by omega) | exact vint_eq (by (dsimp only; omega)) | exact vsl_eq (by omega) | exact vsl_eq (by first | (dsimp only; omega) | (simp; done) | (simp; omega))) ?_)); exact trivial) (Ref.takes [78, 77, 3000] rfl (Thin.refl _)) ?_
  rintro ⟨i, S1, f1, f2⟩ ⟨i1, i2, hwS, hgS, heS⟩
  dsimp only at i1 i2 hwS hgS heS ⊢
  have cL2 := calls_sLen bn S1
  by_cases hi : i ≤ S.E.length
  · have hk2 : known S1 (i : Int) := ⟨by omega, by omega⟩
    have c5 := calls_ExportN hs bn S1 hwS (i : Int) hk2
    obtain ⟨k, hk⟩ := hout (i : Int) (by dsimp only [List.length_nil]; omega) (by omega)
    rw [← hgS.tm (by omega)] at hk
    obtain ⟨q1, q2⟩ := seq_mem_txt hk
    have hpl : 1 ≤ (tm S1.E (i : Int)).txt.length := hwS.pos1 (n := (i : Int)) (by omega) (by omega)
    have hsg := mem_sig hpl hk
    have hgt : ∀ L, Rch S1 i L → gTs [] (xg S1 L) = L.map (tm S1.E) := fun L hL => hL.gTs hwS hk2.2
    have hgr : ∀ L, Rch S1 i L → Gr (xg S1 L) (L.map (tm S1.E)) := fun L hL => hL.gr hwS hk2.2
    have htx : ∀ L, Rch S1 i L → (mAt (L.map (tm S1.E)) ((xg S1 L).length : Nat)) = tm S1.E i := fun L hL => by rw [xg_length, hL.top_ (by omega)]
    have hll : ∀ L, Rch S1 i L → (xg S1 L).length ≤ 65536 := fun L hL => by
      rw [xg_length]
      rcases hL.len with h | h
      · omega
      · rw [h]; exact Nat.zero_le _
    have cP := fun (L : List Int) (hL : Rch S1 i L) aL cL w h => calls_Plain (xg S1 L) (L.map (tm S1.E)) (hgr L hL) (hgt L hL) (by rw [htx L hL]; omega) (hll L hL) aL cL w h
    have q3 : (tm S1.E (i : Int)).txt.length ≤ 120 := Nat.le_trans q1 hs1
    have q4 : (tm S1.E (i : Int)).txt ≠ [] := fun h => by rw [h] at hpl; simp at hpl
    have hm2 := hgS.most
    have q5 := fun y hy => hbt y (q2 y hy)
    generalize hT : (tm S1.E (i : Int)).txt = T at *
    (repeat' ((conv => whnf); first | (refine CallK_pack (key := 77) rfl (fun w hR h0 => c5 _ _ _ h0) ?_; rintro _ _ ⟨L, aL, cL, fp', hL, hne, rfl, rfl⟩; have cP1 := cP L hL; rw [htx L hL, hT] at cP1; refine ⟨.v _, rfl, ?_⟩) | (refine CallK_new (fun w hR => cP1 _ _ w (In.ownR (key := 812) hR rfl)) ?_; rintro _ _ ⟨aP, cP2, rfl, rfl⟩; refine ⟨.v _, rfl, ?_⟩) | (refine CallK_sub [78, 77, 3000] rfl (fun w hR h0 => calls_OfG bp bt bn S1 hwS T q5 (by omega) (by rw [hm2, hm1]; omega) _ _ _ _ _ w h0 (hG.castL hR) (In.besideL (key := 903) hR rfl)) ?_; rintro _ _ ⟨S2, y, g3, g4, hw2, hg2, hy, hy0, hy1, hln2, hout2, rfl, rfl⟩; obtain ⟨rfl, he2⟩ := hout2.same hwS hw2 hg2 (hy1 q4).1 hy.2 (hy1 q4).2 (show (1 : Int) ≤ i by omega) hk2.2 hsg; refine ⟨.v _, rfl, ?_⟩) | (refine bcase_prop (fun h => ?_) (fun h => ?_) <;> try (exfalso; omega)) | (refine bcase_nprop (fun h => ?_) (fun h => ?_) <;> try (exfalso; omega)) | (refine bcase_intro (fun h => ?_) (fun h => ?_) <;> (try simp only [Bool.not_eq_true', Bool.not_eq_false', decide_eq_true_eq, decide_eq_false_iff_not, Bool.not_eq_true, Bool.not_eq_false, Decidable.not_not] at h)) | refine And.intro (by first | omega | exact rfl | assumption | exact ⟨rfl, rfl, rfl, rfl, rfl⟩ | exact ⟨rfl, rfl, rfl, rfl⟩ | exact ⟨rfl, by omega⟩ | exact oneAll_of rfl | exact ⟨rfl, oneAll_of rfl⟩ | exact Ref.refl _ | exact Thin.ref (.skip (Thin.refl _)) | exact Thin.ref (.skip (.skip (Thin.refl _))) | exact ⟨rfl, Nat.le_of_ble_eq_true rfl⟩ | ((try unfold maxLen); (try simp only [List.length_nil, List.length_cons, List.length_append]); omega) | (refine ⟨rfl, ?_⟩; (try simp only [List.length_nil, List.length_cons, List.length_append]); omega)) ?_ | intro _)); (all_goals (conv => whnf))
    all_goals first | (exfalso; omega) | skip
    exact loop_next ⟨i + 1, S2, g3, g4⟩ ⟨by ((try dsimp only); omega), by ((try dsimp only); omega), hw2, hgS.trans hg2, he2.trans heS⟩ (by ((try dsimp only); omega)) (by (repeat ((conv => whnf); refine And.intro (by first | exact rfl | exact vint_eq (by omega) | exact vint_eq (by (dsimp only; omega)) | exact vsl_eq (by omega) | exact vsl_eq (by first | (dsimp only; omega) | (simp; done) | (simp; omega))) ?_)); exact trivial) (Ref.takes [78, 77, 3000] rfl (Thin.refl _))
  · (repeat' ((conv => whnf); first | (refine CallK_pack (key := 77) rfl (fun w hR h0 => cL2 _ _ _ h0) ?_; rintro _ _ ⟨rfl, fp', rfl⟩; refine ⟨.v _, rfl, ?_⟩) | (refine bcase_prop (fun h => ?_) (fun h => ?_) <;> try (exfalso; omega)) | (refine bcase_nprop (fun h => ?_) (fun h => ?_) <;> try (exfalso; omega)) | (refine bcase_intro (fun h => ?_) (fun h => ?_) <;> (try simp only [Bool.not_eq_true', Bool.not_eq_false', decide_eq_true_eq, decide_eq_false_iff_not, Bool.not_eq_true, Bool.not_eq_false, Decidable.not_not] at h)) | refine And.intro (by first | omega | exact rfl | assumption | exact ⟨rfl, rfl, rfl, rfl, rfl⟩ | exact ⟨rfl, rfl, rfl, rfl⟩ | exact ⟨rfl, by omega⟩ | exact oneAll_of rfl | exact ⟨rfl, oneAll_of rfl⟩ | exact Ref.refl _ | exact Thin.ref (.skip (Thin.refl _)) | exact Thin.ref (.skip (.skip (Thin.refl _))) | exact ⟨rfl, Nat.le_of_ble_eq_true rfl⟩ | ((try unfold maxLen); (try simp only [List.length_nil, List.length_cons, List.length_append]); omega) | (refine ⟨rfl, ?_⟩; (try simp only [List.length_nil, List.length_cons, List.length_append]); omega)) ?_ | intro _)); (all_goals (conv => whnf))
    all_goals first | (exfalso; omega) | skip
    refine ⟨?_⟩
    show Value.bool (decide _) = _
    rw [decide_eq_true (by omega)]
theorem law_SignaturePartsI (w : World) (hG : TabF w []) (xs : List Int) (hx : ∀ n ∈ xs, (Lit.int .u8 n).wf = true) (hxl : xs.length ≤ 140737488351232) (a : Option Addr) (c : Nat) (hia : In w [] a (ints .u8 xs)) :
    Calls Tryd.prog fn_evergreenlaw22_SignatureParts #[.slice a xs.length c] w fun e w' => e = .returned (.bool true) ∧ Ext w w' := by
  obtain ⟨e1, b1⟩ := bytes_ints hx
  rw [e1] at hia
  have := law_SignatureParts sortsI w hG (xs.map Int.toNat) b1 (by simp; omega) a c hia
  rwa [List.length_map] at this
end Go.Proofs.YtkkhpdkfploodaaDoor
