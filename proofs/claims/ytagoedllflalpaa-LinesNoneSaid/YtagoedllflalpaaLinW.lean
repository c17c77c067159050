/- Lines: the program. -/
import Derived.Test.YtagoedllflalpaaWtW
import Derived.Test.YtagoedllflalpaaLinM
namespace Go.Proofs.Ytagoedllflalpaa
open Go.EG
attribute [local irreducible] CallK QCall Go.Calls
set_option linter.unusedSimpArgs false
set_option linter.unusedVariables false
set_option maxRecDepth 20000
set_option maxHeartbeats 2000000

structure FeedG where
  id : Int
  i : Nat
  at_ : Nat
  fp : List Nat
theorem calls_feedAt (b : Nat) (S : Sto) (hw : WF S) (n : Int) (i : Nat) (hn1 : 1 ≤ n) (hn2 : n ≤ S.E.length) (hi : i < linesN (tm S.E n).txt) : SC fn_lines_feedAt #[pS b, .int .i64 n, .int .i64 i] b S S (.tuple #[.int .i64 (feedN (tm S.E n).txt i), .nilIface]) := by
  intro key fp w hR
  refine part_call [.v (pS b), .v (.int .i64 n), .v (.int .i64 i)] ok_lines_feedAt (by simp) (hR.key 77) ?_
  have hsm := hw.small
  have hF := (feed_lt hi).1
  have hFl := hw.le hn2
  have hFm : linesN (tm S.E n).txt ≤ (tm S.E n).txt.length := List.count_le_length
  unfold LM Tm.len at hFl
  generalize hFF : feedN (tm S.E n).txt i = F at *
  (repeat' ((conv => whnf); first | (refine bcase_prop (fun h => ?_) (fun h => ?_) <;> try (exfalso; omega)) | (refine bcase_nprop (fun h => ?_) (fun h => ?_) <;> try (exfalso; omega)) | (refine bcase_intro (fun h => ?_) (fun h => ?_) <;> (try simp only [Bool.not_eq_true', Bool.not_eq_false', decide_eq_true_eq, decide_eq_false_iff_not, Bool.not_eq_true, Bool.not_eq_false, Decidable.not_not] at h)) | refine And.intro (by first | omega | exact rfl | assumption | exact ⟨rfl, rfl, rfl, rfl, rfl⟩ | exact ⟨rfl, rfl, rfl, rfl⟩ | exact ⟨rfl, by omega⟩ | exact oneAll_of rfl | exact ⟨rfl, oneAll_of rfl⟩ | exact Ref.refl _ | exact Thin.ref (.skip (Thin.refl _)) | exact Thin.ref (.skip (.skip (Thin.refl _))) | exact ⟨rfl, Nat.le_of_ble_eq_true rfl⟩ | ((try unfold maxLen); (try simp only [List.length_nil, List.length_cons, List.length_append]); omega) | (refine ⟨rfl, ?_⟩; (try simp only [List.length_nil, List.length_cons, List.length_append]); omega)) ?_ | intro _)); (all_goals (conv => whnf))
  refine VC_loop FeedG (fun x => [(0, .v (pS b)), (1, .v (.int .i64 x.id)), (2, .v (.int .i64 x.i)), (8, .v (.int .i64 x.at_))]) (fun x => [packE 77 x.fp (fS b S)])
    (fun x => 1 ≤ x.id ∧ x.id ≤ S.E.length ∧ x.i < linesN (tm S.E x.id).txt ∧ x.at_ + feedN (tm S.E x.id).txt x.i = F) (fun x => x.id.toNat) ⟨n, i, 0, fp⟩ ⟨hn1, hn2, hi, by dsimp only; omega⟩ (by (repeat ((conv => whnf); refine And.intro (by first | exact rfl | exact vint_eq (by omega) | exact vint_eq (by (dsimp only; omega)) | exact vsl_eq (by omega) | exact vsl_eq (by first | (dsimp only; omega) | (simp; done) | (simp; omega))) ?_)); exact trivial) (Thin.ref (by (repeat (first | exact Thin.nil _ | exact Thin.refl _ | refine Thin.keep rfl (fun _ h => h) ?_ | refine Thin.skip ?_)))) ?_
  rintro ⟨m, j, at_, fpx⟩ ⟨h1, h2, h3, h4⟩
  dsimp only at h1 h2 h3 h4 ⊢
  have c1 := calls_Rule b S m hsm
  rw [ruleV_ok h1 h2] at c1
  have hlm := hw.le h2
  have hlm2 : linesN (tm S.E m).txt ≤ (tm S.E m).txt.length := List.count_le_length
  have hlet := (hw.at_ h1 h2).2.1
  unfold LM Tm.len at hlm
  have h7 : j ≤ 1152921504606846976 := by omega
  rcases hw.below h1 h2 with ⟨hk1, ht⟩ | ⟨hk1, ht, a1, a2, b1, b2⟩ | ⟨hk1, ht, a1, a2, t2⟩
  · rw [ht] at h3 h4
    rw [Tm.txt, lines_cons] at h3
    have hz : linesN [] = 0 := rfl
    have hl : (atE S.E m).r.l.toNat = 10 := by
      by_cases h : (atE S.E m).r.l.toNat = 10
      · exact h
      · rw [if_neg h] at h3; omega
    rw [if_pos hl] at h3
    have hj : j = 0 := by omega
    subst hj
    have he : at_ = F := by
      rw [Tm.txt, feedN, if_pos hl, if_pos rfl] at h4; omega
    (repeat' ((conv => whnf); first | (refine CallK_pack (key := 77) rfl (fun w hR h0 => c1 _ _ _ h0) ?_; rintro _ _ ⟨rfl, fp', rfl⟩; refine ⟨.v _, rfl, ?_⟩) | (refine bcase_prop (fun h => ?_) (fun h => ?_) <;> try (exfalso; omega)) | (refine bcase_nprop (fun h => ?_) (fun h => ?_) <;> try (exfalso; omega)) | (refine bcase_intro (fun h => ?_) (fun h => ?_) <;> (try simp only [Bool.not_eq_true', Bool.not_eq_false', decide_eq_true_eq, decide_eq_false_iff_not, Bool.not_eq_true, Bool.not_eq_false, Decidable.not_not] at h)) | refine And.intro (by first | omega | exact rfl | assumption | exact ⟨rfl, rfl, rfl, rfl, rfl⟩ | exact ⟨rfl, rfl, rfl, rfl⟩ | exact ⟨rfl, by omega⟩ | exact oneAll_of rfl | exact ⟨rfl, oneAll_of rfl⟩ | exact Ref.refl _ | exact Thin.ref (.skip (Thin.refl _)) | exact Thin.ref (.skip (.skip (Thin.refl _))) | exact ⟨rfl, Nat.le_of_ble_eq_true rfl⟩ | ((try unfold maxLen); (try simp only [List.length_nil, List.length_cons, List.length_append]); omega) | (refine ⟨rfl, ?_⟩; (try simp only [List.length_nil, List.length_cons, List.length_append]); omega)) ?_ | intro _)); (all_goals (conv => whnf))
    exact ⟨endP (by (repeat (first | exact Thin.nil _ | exact Thin.refl _ | refine Thin.keep rfl (fun _ h => h) ?_ | refine Thin.skip ?_))) (by rw [he])⟩
  · have c2 := calls_SWeight b S (atE S.E m).r.a hsm
    rw [wtRes_ok ⟨by omega, by omega⟩] at c2
    have hp := hw.pos1 a1 (by omega)
    have hla := hw.le (n := (atE S.E m).r.a) (by omega)
    have hla2 : linesN (tm S.E (atE S.E m).r.a).txt ≤ (tm S.E (atE S.E m).r.a).txt.length := List.count_le_length
    unfold LM at hla; unfold Tm.len at hla hp
    rw [ht, Tm.txt, lines_append] at h3
    rw [ht, Tm.txt] at h4
    by_cases hlt : j < linesN (tm S.E (atE S.E m).r.a).txt
    · rw [feed_left _ hlt] at h4
      (repeat' ((conv => whnf); first | (refine CallK_pack (key := 77) rfl (fun w hR h0 => c1 _ _ _ h0) ?_; rintro _ _ ⟨rfl, fp', rfl⟩; refine ⟨.v _, rfl, ?_⟩) | (refine CallK_pack (key := 77) rfl (fun w hR h0 => c2 _ _ _ h0) ?_; rintro _ _ ⟨rfl, fp', rfl⟩; refine ⟨.v _, rfl, ?_⟩) | (refine bcase_prop (fun h => ?_) (fun h => ?_) <;> try (exfalso; omega)) | (refine bcase_nprop (fun h => ?_) (fun h => ?_) <;> try (exfalso; omega)) | (refine bcase_intro (fun h => ?_) (fun h => ?_) <;> (try simp only [Bool.not_eq_true', Bool.not_eq_false', decide_eq_true_eq, decide_eq_false_iff_not, Bool.not_eq_true, Bool.not_eq_false, Decidable.not_not] at h)) | refine And.intro (by first | omega | exact rfl | assumption | exact ⟨rfl, rfl, rfl, rfl, rfl⟩ | exact ⟨rfl, rfl, rfl, rfl⟩ | exact ⟨rfl, by omega⟩ | exact oneAll_of rfl | exact ⟨rfl, oneAll_of rfl⟩ | exact Ref.refl _ | exact Thin.ref (.skip (Thin.refl _)) | exact Thin.ref (.skip (.skip (Thin.refl _))) | exact ⟨rfl, Nat.le_of_ble_eq_true rfl⟩ | ((try unfold maxLen); (try simp only [List.length_nil, List.length_cons, List.length_append]); omega) | (refine ⟨rfl, ?_⟩; (try simp only [List.length_nil, List.length_cons, List.length_append]); omega)) ?_ | intro _)); (all_goals (conv => whnf))
      exact loop_next ⟨(atE S.E m).r.a, j, at_, fp'⟩ ⟨a1, by dsimp only; omega, hlt, h4⟩ (by ((try dsimp only); omega)) (by (repeat ((conv => whnf); refine And.intro (by first | exact rfl | exact vint_eq (by omega) | exact vint_eq (by (dsimp only; omega)) | exact vsl_eq (by omega) | exact vsl_eq (by first | (dsimp only; omega) | (simp; done) | (simp; omega))) ?_)); exact trivial) (Thin.ref (by (repeat (first | exact Thin.nil _ | exact Thin.refl _ | refine Thin.keep rfl (fun _ h => h) ?_ | refine Thin.skip ?_))))
    · rw [feed_right _ (by omega)] at h4
      (repeat' ((conv => whnf); first | (refine CallK_pack (key := 77) rfl (fun w hR h0 => c1 _ _ _ h0) ?_; rintro _ _ ⟨rfl, fp', rfl⟩; refine ⟨.v _, rfl, ?_⟩) | (refine CallK_pack (key := 77) rfl (fun w hR h0 => c2 _ _ _ h0) ?_; rintro _ _ ⟨rfl, fp', rfl⟩; refine ⟨.v _, rfl, ?_⟩) | (refine bcase_prop (fun h => ?_) (fun h => ?_) <;> try (exfalso; omega)) | (refine bcase_nprop (fun h => ?_) (fun h => ?_) <;> try (exfalso; omega)) | (refine bcase_intro (fun h => ?_) (fun h => ?_) <;> (try simp only [Bool.not_eq_true', Bool.not_eq_false', decide_eq_true_eq, decide_eq_false_iff_not, Bool.not_eq_true, Bool.not_eq_false, Decidable.not_not] at h)) | refine And.intro (by first | omega | exact rfl | assumption | exact ⟨rfl, rfl, rfl, rfl, rfl⟩ | exact ⟨rfl, rfl, rfl, rfl⟩ | exact ⟨rfl, by omega⟩ | exact oneAll_of rfl | exact ⟨rfl, oneAll_of rfl⟩ | exact Ref.refl _ | exact Thin.ref (.skip (Thin.refl _)) | exact Thin.ref (.skip (.skip (Thin.refl _))) | exact ⟨rfl, Nat.le_of_ble_eq_true rfl⟩ | ((try unfold maxLen); (try simp only [List.length_nil, List.length_cons, List.length_append]); omega) | (refine ⟨rfl, ?_⟩; (try simp only [List.length_nil, List.length_cons, List.length_append]); omega)) ?_ | intro _)); (all_goals (conv => whnf))
      exact loop_next ⟨(atE S.E m).r.b, j - linesN (tm S.E (atE S.E m).r.a).txt, at_ + (tm S.E (atE S.E m).r.a).txt.length, fp'⟩ ⟨b1, by dsimp only; omega, by dsimp only; omega, by dsimp only; omega⟩ (by ((try dsimp only); omega)) (by (repeat ((conv => whnf); refine And.intro (by first | exact rfl | exact vint_eq (by omega) | exact vint_eq (by (dsimp only; omega)) | exact vsl_eq (by omega) | exact vsl_eq (by first | (dsimp only; omega) | (simp; done) | (simp; omega))) ?_)); exact trivial) (Thin.ref (by (repeat (first | exact Thin.nil _ | exact Thin.refl _ | refine Thin.keep rfl (fun _ h => h) ?_ | refine Thin.skip ?_))))
  · have c2 := calls_SWeight b S (atE S.E m).r.a hsm
    rw [wtRes_ok ⟨by omega, by omega⟩] at c2
    have hp := hw.pos1 a1 (by omega)
    have hla := hw.le (n := (atE S.E m).r.a) (by omega)
    have hla2 : linesN (tm S.E (atE S.E m).r.a).txt ≤ (tm S.E (atE S.E m).r.a).txt.length := List.count_le_length
    unfold LM at hla; unfold Tm.len at hla hp
    rw [ht, Tm.txt, rep_lines] at h3
    rw [ht, Tm.txt] at h4
    have hl0 : 0 < linesN (tm S.E (atE S.E m).r.a).txt := by
      rcases Nat.eq_zero_or_pos (linesN (tm S.E (atE S.E m).r.a).txt) with h | h
      · rw [h, Nat.mul_zero] at h3; omega
      · exact h
    rw [feed_rep hl0 h3] at h4
    have h5 := Nat.mod_lt j hl0
    have h6 := Nat.div_le_self j (linesN (tm S.E (atE S.E m).r.a).txt)
    have q1 : (j : Int) / (linesN (tm S.E (atE S.E m).r.a).txt : Int) = ((j / linesN (tm S.E (atE S.E m).r.a).txt : Nat) : Int) := (Int.natCast_ediv _ _).symm
    have q2 : (j : Int) % (linesN (tm S.E (atE S.E m).r.a).txt : Int) = ((j % linesN (tm S.E (atE S.E m).r.a).txt : Nat) : Int) := (Int.natCast_emod _ _).symm
    have q3 : ((j / linesN (tm S.E (atE S.E m).r.a).txt : Nat) : Int) * ((tm S.E (atE S.E m).r.a).txt.length : Int) = ((j / linesN (tm S.E (atE S.E m).r.a).txt * (tm S.E (atE S.E m).r.a).txt.length : Nat) : Int) := (Int.natCast_mul _ _).symm
    generalize j / linesN (tm S.E (atE S.E m).r.a).txt * (tm S.E (atE S.E m).r.a).txt.length = pr at *
    (repeat' ((conv => whnf); first | (refine CallK_pack (key := 77) rfl (fun w hR h0 => c1 _ _ _ h0) ?_; rintro _ _ ⟨rfl, fp', rfl⟩; refine ⟨.v _, rfl, ?_⟩) | (refine CallK_pack (key := 77) rfl (fun w hR h0 => c2 _ _ _ h0) ?_; rintro _ _ ⟨rfl, fp', rfl⟩; refine ⟨.v _, rfl, ?_⟩) | rw [q1] | rw [q2] | rw [q3] | (refine bcase_prop (fun h => ?_) (fun h => ?_) <;> try (exfalso; omega)) | (refine bcase_nprop (fun h => ?_) (fun h => ?_) <;> try (exfalso; omega)) | (refine bcase_intro (fun h => ?_) (fun h => ?_) <;> (try simp only [Bool.not_eq_true', Bool.not_eq_false', decide_eq_true_eq, decide_eq_false_iff_not, Bool.not_eq_true, Bool.not_eq_false, Decidable.not_not] at h)) | refine And.intro (by first | omega | exact rfl | assumption | exact ⟨rfl, rfl, rfl, rfl, rfl⟩ | exact ⟨rfl, rfl, rfl, rfl⟩ | exact ⟨rfl, by omega⟩ | exact oneAll_of rfl | exact ⟨rfl, oneAll_of rfl⟩ | exact Ref.refl _ | exact Thin.ref (.skip (Thin.refl _)) | exact Thin.ref (.skip (.skip (Thin.refl _))) | exact ⟨by omega, by omega, by omega⟩ | exact ⟨rfl, Nat.le_of_ble_eq_true rfl⟩ | ((try unfold maxLen); (try simp only [List.length_nil, List.length_cons, List.length_append]); omega) | (refine ⟨rfl, ?_⟩; (try simp only [List.length_nil, List.length_cons, List.length_append]); omega)) ?_ | intro _)); (all_goals (conv => whnf))
    exact loop_next ⟨(atE S.E m).r.a, j % linesN (tm S.E (atE S.E m).r.a).txt, at_ + pr, fp'⟩ ⟨a1, by dsimp only; omega, h5, by dsimp only; omega⟩ (by ((try dsimp only); omega)) (by (repeat ((conv => whnf); refine And.intro (by first | exact rfl | exact vint_eq (by omega) | exact vint_eq (by (dsimp only; omega)) | exact vsl_eq (by omega) | exact vsl_eq (by first | (dsimp only; omega) | (simp; done) | (simp; omega))) ?_)); exact trivial) (Thin.ref (by (repeat (first | exact Thin.nil _ | exact Thin.refl _ | refine Thin.keep rfl (fun _ h => h) ?_ | refine Thin.skip ?_))))

theorem one_of_lines {S : Sto} {n : Int} (hk : known S n) (h : 0 < linesN (tm S.E n).txt) : 1 ≤ n := by
  have := hk.1
  by_cases h0 : n = 0
  · subst h0; rw [tm_zero] at h; simp [Tm.txt, linesN] at h
  · omega
def cntRes (S : Sto) (n : Int) : Value := if known S n then .tuple #[.int .i64 (linesN (tm S.E n).txt + 1 : Nat), .nilIface] else .tuple #[.int .i64 0, errV 1]
theorem calls_LCount (b : Nat) (S : Sto) (hw : WF S) (n : Int) : SC fn_lines_Count #[pS b, .int .i64 n] b S S (cntRes S n) := by
  intro key fp w hR
  refine part_call [.v (pS b), .v (.int .i64 n)] ok_lines_Count (by simp) (hR.key 77) ?_
  have c0 := calls_SWeight b S n hw.small
  unfold wtRes at c0
  unfold cntRes
  by_cases hk : known S n
  · rw [if_pos hk] at c0 ⊢
    have hl := hw.le hk.2
    have hl2 : linesN (tm S.E n).txt ≤ (tm S.E n).txt.length := List.count_le_length
    unfold LM Tm.len at hl
    (repeat' ((conv => whnf); first | (refine CallK_pack (key := 77) rfl (fun w hR h0 => c0 _ _ _ h0) ?_; rintro _ _ ⟨rfl, fp', rfl⟩; refine ⟨.v _, rfl, ?_⟩) | (refine bcase_prop (fun h => ?_) (fun h => ?_) <;> try (exfalso; omega)) | (refine bcase_nprop (fun h => ?_) (fun h => ?_) <;> try (exfalso; omega)) | (refine bcase_intro (fun h => ?_) (fun h => ?_) <;> (try simp only [Bool.not_eq_true', Bool.not_eq_false', decide_eq_true_eq, decide_eq_false_iff_not, Bool.not_eq_true, Bool.not_eq_false, Decidable.not_not] at h)) | refine And.intro (by first | omega | exact rfl | assumption | exact ⟨rfl, rfl, rfl, rfl, rfl⟩ | exact ⟨rfl, rfl, rfl, rfl⟩ | exact ⟨rfl, by omega⟩ | exact oneAll_of rfl | exact ⟨rfl, oneAll_of rfl⟩ | exact Ref.refl _ | exact Thin.ref (.skip (Thin.refl _)) | exact Thin.ref (.skip (.skip (Thin.refl _))) | exact ⟨rfl, Nat.le_of_ble_eq_true rfl⟩ | ((try unfold maxLen); (try simp only [List.length_nil, List.length_cons, List.length_append]); omega) | (refine ⟨rfl, ?_⟩; (try simp only [List.length_nil, List.length_cons, List.length_append]); omega)) ?_ | intro _)); (all_goals (conv => whnf))
    exact ⟨endP (by (repeat (first | exact Thin.nil _ | exact Thin.refl _ | refine Thin.keep rfl (fun _ h => h) ?_ | refine Thin.skip ?_))) rfl⟩
  · rw [if_neg hk] at c0 ⊢
    (repeat' ((conv => whnf); first | (refine CallK_pack (key := 77) rfl (fun w hR h0 => c0 _ _ _ h0) ?_; rintro _ _ ⟨rfl, fp', rfl⟩; refine ⟨.v _, rfl, ?_⟩) | (refine bcase_prop (fun h => ?_) (fun h => ?_) <;> try (exfalso; omega)) | (refine bcase_nprop (fun h => ?_) (fun h => ?_) <;> try (exfalso; omega)) | (refine bcase_intro (fun h => ?_) (fun h => ?_) <;> (try simp only [Bool.not_eq_true', Bool.not_eq_false', decide_eq_true_eq, decide_eq_false_iff_not, Bool.not_eq_true, Bool.not_eq_false, Decidable.not_not] at h)) | refine And.intro (by first | omega | exact rfl | assumption | exact ⟨rfl, rfl, rfl, rfl, rfl⟩ | exact ⟨rfl, rfl, rfl, rfl⟩ | exact ⟨rfl, by omega⟩ | exact oneAll_of rfl | exact ⟨rfl, oneAll_of rfl⟩ | exact Ref.refl _ | exact Thin.ref (.skip (Thin.refl _)) | exact Thin.ref (.skip (.skip (Thin.refl _))) | exact ⟨rfl, Nat.le_of_ble_eq_true rfl⟩ | ((try unfold maxLen); (try simp only [List.length_nil, List.length_cons, List.length_append]); omega) | (refine ⟨rfl, ?_⟩; (try simp only [List.length_nil, List.length_cons, List.length_append]); omega)) ?_ | intro _)); (all_goals (conv => whnf))
    exact ⟨endP (by (repeat (first | exact Thin.nil _ | exact Thin.refl _ | refine Thin.keep rfl (fun _ h => h) ?_ | refine Thin.skip ?_))) rfl⟩
def begRes (S : Sto) (n i : Int) : Value := if known S n ∧ 0 ≤ i ∧ i ≤ linesN (tm S.E n).txt then .tuple #[.int .i64 (lineS (tm S.E n).txt i.toNat), .nilIface] else .tuple #[.int .i64 0, errV 1]
theorem calls_LStart (b : Nat) (S : Sto) (hw : WF S) (n i : Int) : SC fn_lines_Start #[pS b, .int .i64 n, .int .i64 i] b S S (begRes S n i) := by
  intro key fp w hR
  refine part_call [.v (pS b), .v (.int .i64 n), .v (.int .i64 i)] ok_lines_Start (by simp) (hR.key 77) ?_
  have c0 := calls_SWeight b S n hw.small
  unfold wtRes at c0
  unfold begRes
  by_cases hk : known S n
  case neg =>
    rw [if_neg hk] at c0
    rw [if_neg (fun h => hk h.1)]
    (repeat' ((conv => whnf); first | (refine CallK_pack (key := 77) rfl (fun w hR h0 => c0 _ _ _ h0) ?_; rintro _ _ ⟨rfl, fp', rfl⟩; refine ⟨.v _, rfl, ?_⟩) | (refine bcase_prop (fun h => ?_) (fun h => ?_) <;> try (exfalso; omega)) | (refine bcase_nprop (fun h => ?_) (fun h => ?_) <;> try (exfalso; omega)) | (refine bcase_intro (fun h => ?_) (fun h => ?_) <;> (try simp only [Bool.not_eq_true', Bool.not_eq_false', decide_eq_true_eq, decide_eq_false_iff_not, Bool.not_eq_true, Bool.not_eq_false, Decidable.not_not] at h)) | refine And.intro (by first | omega | exact rfl | assumption | exact ⟨rfl, rfl, rfl, rfl, rfl⟩ | exact ⟨rfl, rfl, rfl, rfl⟩ | exact ⟨rfl, by omega⟩ | exact oneAll_of rfl | exact ⟨rfl, oneAll_of rfl⟩ | exact Ref.refl _ | exact Thin.ref (.skip (Thin.refl _)) | exact Thin.ref (.skip (.skip (Thin.refl _))) | exact ⟨rfl, Nat.le_of_ble_eq_true rfl⟩ | ((try unfold maxLen); (try simp only [List.length_nil, List.length_cons, List.length_append]); omega) | (refine ⟨rfl, ?_⟩; (try simp only [List.length_nil, List.length_cons, List.length_append]); omega)) ?_ | intro _)); (all_goals (conv => whnf))
    exact ⟨endP (by (repeat (first | exact Thin.nil _ | exact Thin.refl _ | refine Thin.keep rfl (fun _ h => h) ?_ | refine Thin.skip ?_))) rfl⟩
  rw [if_pos hk] at c0
  have hl := hw.le hk.2
  have hl2 : linesN (tm S.E n).txt ≤ (tm S.E n).txt.length := List.count_le_length
  unfold LM Tm.len at hl
  by_cases hi : 0 ≤ i ∧ i ≤ linesN (tm S.E n).txt
  case neg =>
    rw [if_neg (fun h => hi h.2)]
    (repeat' ((conv => whnf); first | (refine CallK_pack (key := 77) rfl (fun w hR h0 => c0 _ _ _ h0) ?_; rintro _ _ ⟨rfl, fp', rfl⟩; refine ⟨.v _, rfl, ?_⟩) | (refine bcase_prop (fun h => ?_) (fun h => ?_) <;> try (exfalso; omega)) | (refine bcase_nprop (fun h => ?_) (fun h => ?_) <;> try (exfalso; omega)) | (refine bcase_intro (fun h => ?_) (fun h => ?_) <;> (try simp only [Bool.not_eq_true', Bool.not_eq_false', decide_eq_true_eq, decide_eq_false_iff_not, Bool.not_eq_true, Bool.not_eq_false, Decidable.not_not] at h)) | refine And.intro (by first | omega | exact rfl | assumption | exact ⟨rfl, rfl, rfl, rfl, rfl⟩ | exact ⟨rfl, rfl, rfl, rfl⟩ | exact ⟨rfl, by omega⟩ | exact oneAll_of rfl | exact ⟨rfl, oneAll_of rfl⟩ | exact Ref.refl _ | exact Thin.ref (.skip (Thin.refl _)) | exact Thin.ref (.skip (.skip (Thin.refl _))) | exact ⟨rfl, Nat.le_of_ble_eq_true rfl⟩ | ((try unfold maxLen); (try simp only [List.length_nil, List.length_cons, List.length_append]); omega) | (refine ⟨rfl, ?_⟩; (try simp only [List.length_nil, List.length_cons, List.length_append]); omega)) ?_ | intro _)); (all_goals (conv => whnf))
    all_goals first | (exfalso; omega) | exact ⟨endP (by (repeat (first | exact Thin.nil _ | exact Thin.refl _ | refine Thin.keep rfl (fun _ h => h) ?_ | refine Thin.skip ?_))) rfl⟩
  rw [if_pos ⟨hk, hi⟩]
  obtain ⟨j, rfl⟩ := Int.eq_ofNat_of_zero_le hi.1
  rw [Int.toNat_natCast]
  by_cases h0 : j = 0
  · subst h0
    (repeat' ((conv => whnf); first | (refine CallK_pack (key := 77) rfl (fun w hR h0 => c0 _ _ _ h0) ?_; rintro _ _ ⟨rfl, fp', rfl⟩; refine ⟨.v _, rfl, ?_⟩) | (refine bcase_prop (fun h => ?_) (fun h => ?_) <;> try (exfalso; omega)) | (refine bcase_nprop (fun h => ?_) (fun h => ?_) <;> try (exfalso; omega)) | (refine bcase_intro (fun h => ?_) (fun h => ?_) <;> (try simp only [Bool.not_eq_true', Bool.not_eq_false', decide_eq_true_eq, decide_eq_false_iff_not, Bool.not_eq_true, Bool.not_eq_false, Decidable.not_not] at h)) | refine And.intro (by first | omega | exact rfl | assumption | exact ⟨rfl, rfl, rfl, rfl, rfl⟩ | exact ⟨rfl, rfl, rfl, rfl⟩ | exact ⟨rfl, by omega⟩ | exact oneAll_of rfl | exact ⟨rfl, oneAll_of rfl⟩ | exact Ref.refl _ | exact Thin.ref (.skip (Thin.refl _)) | exact Thin.ref (.skip (.skip (Thin.refl _))) | exact ⟨rfl, Nat.le_of_ble_eq_true rfl⟩ | ((try unfold maxLen); (try simp only [List.length_nil, List.length_cons, List.length_append]); omega) | (refine ⟨rfl, ?_⟩; (try simp only [List.length_nil, List.length_cons, List.length_append]); omega)) ?_ | intro _)); (all_goals (conv => whnf))
    exact ⟨endP (by (repeat (first | exact Thin.nil _ | exact Thin.refl _ | refine Thin.keep rfl (fun _ h => h) ?_ | refine Thin.skip ?_))) rfl⟩
  have hj : j - 1 < linesN (tm S.E n).txt := by omega
  have c1 := calls_feedAt b S hw n (j - 1) (one_of_lines hk (by omega)) hk.2 hj
  have hf := (feed_lt hj).1
  rw [show lineS (tm S.E n).txt j = feedN (tm S.E n).txt (j - 1) + 1 from if_neg h0]
  have q : (j : Int) - 1 = ((j - 1 : Nat) : Int) := by omega
  generalize feedN (tm S.E n).txt (j - 1) = fd at *
  (repeat' ((conv => whnf); first | (refine CallK_pack (key := 77) rfl (fun w hR h0 => c0 _ _ _ h0) ?_; rintro _ _ ⟨rfl, fp', rfl⟩; refine ⟨.v _, rfl, ?_⟩) | rw [q] | (refine CallK_pack (key := 77) rfl (fun w hR h0 => c1 _ _ _ h0) ?_; rintro _ _ ⟨rfl, fp', rfl⟩; refine ⟨.v _, rfl, ?_⟩) | (refine bcase_prop (fun h => ?_) (fun h => ?_) <;> try (exfalso; omega)) | (refine bcase_nprop (fun h => ?_) (fun h => ?_) <;> try (exfalso; omega)) | (refine bcase_intro (fun h => ?_) (fun h => ?_) <;> (try simp only [Bool.not_eq_true', Bool.not_eq_false', decide_eq_true_eq, decide_eq_false_iff_not, Bool.not_eq_true, Bool.not_eq_false, Decidable.not_not] at h)) | refine And.intro (by first | omega | exact rfl | assumption | exact ⟨rfl, rfl, rfl, rfl, rfl⟩ | exact ⟨rfl, rfl, rfl, rfl⟩ | exact ⟨rfl, by omega⟩ | exact oneAll_of rfl | exact ⟨rfl, oneAll_of rfl⟩ | exact Ref.refl _ | exact Thin.ref (.skip (Thin.refl _)) | exact Thin.ref (.skip (.skip (Thin.refl _))) | exact ⟨rfl, Nat.le_of_ble_eq_true rfl⟩ | ((try unfold maxLen); (try simp only [List.length_nil, List.length_cons, List.length_append]); omega) | (refine ⟨rfl, ?_⟩; (try simp only [List.length_nil, List.length_cons, List.length_append]); omega)) ?_ | intro _)); (all_goals (conv => whnf))
  exact ⟨endP (by (repeat (first | exact Thin.nil _ | exact Thin.refl _ | refine Thin.keep rfl (fun _ h => h) ?_ | refine Thin.skip ?_))) rfl⟩
def linRes (S : Sto) (n i : Int) : Value := if known S n ∧ 0 ≤ i ∧ i ≤ linesN (tm S.E n).txt then .tuple #[.agg #[.int .i64 (lineS (tm S.E n).txt i.toNat), .int .i64 (lineE (tm S.E n).txt i.toNat - lineS (tm S.E n).txt i.toNat : Nat)], .nilIface] else .tuple #[.agg #[.int .i64 0, .int .i64 0], errV 1]
theorem calls_LLine (b : Nat) (S : Sto) (hw : WF S) (n i : Int) : SC fn_lines_Line #[pS b, .int .i64 n, .int .i64 i] b S S (linRes S n i) := by
  intro key fp w hR
  refine part_call [.v (pS b), .v (.int .i64 n), .v (.int .i64 i)] ok_lines_Line (by simp) (hR.key 77) ?_
  have c0 := calls_LStart b S hw n i
  unfold begRes at c0
  unfold linRes
  by_cases hk : known S n ∧ 0 ≤ i ∧ i ≤ linesN (tm S.E n).txt
  case neg =>
    rw [if_neg hk] at c0 ⊢
    (repeat' ((conv => whnf); first | (refine CallK_pack (key := 77) rfl (fun w hR h0 => c0 _ _ _ h0) ?_; rintro _ _ ⟨rfl, fp', rfl⟩; refine ⟨.v _, rfl, ?_⟩) | (refine bcase_prop (fun h => ?_) (fun h => ?_) <;> try (exfalso; omega)) | (refine bcase_nprop (fun h => ?_) (fun h => ?_) <;> try (exfalso; omega)) | (refine bcase_intro (fun h => ?_) (fun h => ?_) <;> (try simp only [Bool.not_eq_true', Bool.not_eq_false', decide_eq_true_eq, decide_eq_false_iff_not, Bool.not_eq_true, Bool.not_eq_false, Decidable.not_not] at h)) | refine And.intro (by first | omega | exact rfl | assumption | exact ⟨rfl, rfl, rfl, rfl, rfl⟩ | exact ⟨rfl, rfl, rfl, rfl⟩ | exact ⟨rfl, by omega⟩ | exact oneAll_of rfl | exact ⟨rfl, oneAll_of rfl⟩ | exact Ref.refl _ | exact Thin.ref (.skip (Thin.refl _)) | exact Thin.ref (.skip (.skip (Thin.refl _))) | exact ⟨rfl, Nat.le_of_ble_eq_true rfl⟩ | ((try unfold maxLen); (try simp only [List.length_nil, List.length_cons, List.length_append]); omega) | (refine ⟨rfl, ?_⟩; (try simp only [List.length_nil, List.length_cons, List.length_append]); omega)) ?_ | intro _)); (all_goals (conv => whnf))
    exact ⟨endP (by (repeat (first | exact Thin.nil _ | exact Thin.refl _ | refine Thin.keep rfl (fun _ h => h) ?_ | refine Thin.skip ?_))) rfl⟩
  rw [if_pos hk] at c0 ⊢
  obtain ⟨hk, hi⟩ := hk
  have c1 := calls_SWeight b S n hw.small
  rw [wtRes_ok hk] at c1
  have hl := hw.le hk.2
  have hl2 : linesN (tm S.E n).txt ≤ (tm S.E n).txt.length := List.count_le_length
  unfold LM Tm.len at hl
  obtain ⟨j, rfl⟩ := Int.eq_ofNat_of_zero_le hi.1
  rw [Int.toNat_natCast] at *
  have hle := line_le (t := (tm S.E n).txt) (i := j) (by omega)
  have q : ((lineE (tm S.E n).txt j : Nat) : Int) - ((lineS (tm S.E n).txt j : Nat) : Int) = ((lineE (tm S.E n).txt j - lineS (tm S.E n).txt j : Nat) : Int) := by omega
  by_cases hj : j < linesN (tm S.E n).txt
  · have c2 := calls_feedAt b S hw n j (one_of_lines hk (by omega)) hk.2 hj
    rw [show feedN (tm S.E n).txt j = lineE (tm S.E n).txt j from (if_pos hj).symm] at c2
    generalize lineE (tm S.E n).txt j = le at *
    generalize lineS (tm S.E n).txt j = ls at *
    (repeat' ((conv => whnf); first | (refine CallK_pack (key := 77) rfl (fun w hR h0 => c0 _ _ _ h0) ?_; rintro _ _ ⟨rfl, fp', rfl⟩; refine ⟨.v _, rfl, ?_⟩) | (refine CallK_pack (key := 77) rfl (fun w hR h0 => c1 _ _ _ h0) ?_; rintro _ _ ⟨rfl, fp', rfl⟩; refine ⟨.v _, rfl, ?_⟩) | (refine CallK_pack (key := 77) rfl (fun w hR h0 => c2 _ _ _ h0) ?_; rintro _ _ ⟨rfl, fp', rfl⟩; refine ⟨.v _, rfl, ?_⟩) | rw [q] | (refine bcase_prop (fun h => ?_) (fun h => ?_) <;> try (exfalso; omega)) | (refine bcase_nprop (fun h => ?_) (fun h => ?_) <;> try (exfalso; omega)) | (refine bcase_intro (fun h => ?_) (fun h => ?_) <;> (try simp only [Bool.not_eq_true', Bool.not_eq_false', decide_eq_true_eq, decide_eq_false_iff_not, Bool.not_eq_true, Bool.not_eq_false, Decidable.not_not] at h)) | refine And.intro (by first | omega | exact rfl | assumption | exact ⟨rfl, rfl, rfl, rfl, rfl⟩ | exact ⟨rfl, rfl, rfl, rfl⟩ | exact ⟨rfl, by omega⟩ | exact oneAll_of rfl | exact ⟨rfl, oneAll_of rfl⟩ | exact Ref.refl _ | exact Thin.ref (.skip (Thin.refl _)) | exact Thin.ref (.skip (.skip (Thin.refl _))) | exact ⟨rfl, Nat.le_of_ble_eq_true rfl⟩ | ((try unfold maxLen); (try simp only [List.length_nil, List.length_cons, List.length_append]); omega) | (refine ⟨rfl, ?_⟩; (try simp only [List.length_nil, List.length_cons, List.length_append]); omega)) ?_ | intro _)); (all_goals (conv => whnf))
    exact ⟨endP (by (repeat (first | exact Thin.nil _ | exact Thin.refl _ | refine Thin.keep rfl (fun _ h => h) ?_ | refine Thin.skip ?_))) rfl⟩
  · rw [show lineE (tm S.E n).txt j = (tm S.E n).txt.length from if_neg hj] at *
    generalize lineS (tm S.E n).txt j = ls at *
    (repeat' ((conv => whnf); first | (refine CallK_pack (key := 77) rfl (fun w hR h0 => c0 _ _ _ h0) ?_; rintro _ _ ⟨rfl, fp', rfl⟩; refine ⟨.v _, rfl, ?_⟩) | (refine CallK_pack (key := 77) rfl (fun w hR h0 => c1 _ _ _ h0) ?_; rintro _ _ ⟨rfl, fp', rfl⟩; refine ⟨.v _, rfl, ?_⟩) | rw [q] | (refine bcase_prop (fun h => ?_) (fun h => ?_) <;> try (exfalso; omega)) | (refine bcase_nprop (fun h => ?_) (fun h => ?_) <;> try (exfalso; omega)) | (refine bcase_intro (fun h => ?_) (fun h => ?_) <;> (try simp only [Bool.not_eq_true', Bool.not_eq_false', decide_eq_true_eq, decide_eq_false_iff_not, Bool.not_eq_true, Bool.not_eq_false, Decidable.not_not] at h)) | refine And.intro (by first | omega | exact rfl | assumption | exact ⟨rfl, rfl, rfl, rfl, rfl⟩ | exact ⟨rfl, rfl, rfl, rfl⟩ | exact ⟨rfl, by omega⟩ | exact oneAll_of rfl | exact ⟨rfl, oneAll_of rfl⟩ | exact Ref.refl _ | exact Thin.ref (.skip (Thin.refl _)) | exact Thin.ref (.skip (.skip (Thin.refl _))) | exact ⟨rfl, Nat.le_of_ble_eq_true rfl⟩ | ((try unfold maxLen); (try simp only [List.length_nil, List.length_cons, List.length_append]); omega) | (refine ⟨rfl, ?_⟩; (try simp only [List.length_nil, List.length_cons, List.length_append]); omega)) ?_ | intro _)); (all_goals (conv => whnf))
    exact ⟨endP (by (repeat (first | exact Thin.nil _ | exact Thin.refl _ | refine Thin.keep rfl (fun _ h => h) ?_ | refine Thin.skip ?_))) rfl⟩
def posRes (S : Sto) (n i : Int) : Value := if known S n ∧ 0 ≤ i ∧ i ≤ (tm S.E n).len then .tuple #[.int .i64 (linesN ((tm S.E n).txt.take i.toNat)), .int .i64 (tailN ((tm S.E n).txt.take i.toNat)), .nilIface] else .tuple #[.int .i64 0, .int .i64 0, errV 1]
theorem sub_take (t : List Nat) (m : Nat) : sub t 0 m = t.take m := by simp [sub]
theorem calls_LPosition (b : Nat) (S : Sto) (hw : WF S) (n i : Int) : SC fn_lines_Position #[pS b, .int .i64 n, .int .i64 i] b S S (posRes S n i) := by
  intro key fp w hR
  refine part_call [.v (pS b), .v (.int .i64 n), .v (.int .i64 i)] ok_lines_Position (by simp) (hR.key 77) ?_
  have c0 := calls_AWeight b S hw n 0 i
  unfold wgRes at c0
  unfold posRes
  by_cases hk : known S n ∧ 0 ≤ i ∧ i ≤ (tm S.E n).len
  · rw [if_pos ⟨hk.1, by omega, hk.2.1, by omega, by omega⟩, show (0 : Int).toNat = 0 from rfl, sub_take] at c0
    rw [if_pos hk]
    (repeat' ((conv => whnf); first | (refine CallK_pack (key := 77) rfl (fun w hR h0 => c0 _ _ _ h0) ?_; rintro _ _ ⟨rfl, fp', rfl⟩; refine ⟨.v _, rfl, ?_⟩) | (refine bcase_prop (fun h => ?_) (fun h => ?_) <;> try (exfalso; omega)) | (refine bcase_nprop (fun h => ?_) (fun h => ?_) <;> try (exfalso; omega)) | (refine bcase_intro (fun h => ?_) (fun h => ?_) <;> (try simp only [Bool.not_eq_true', Bool.not_eq_false', decide_eq_true_eq, decide_eq_false_iff_not, Bool.not_eq_true, Bool.not_eq_false, Decidable.not_not] at h)) | refine And.intro (by first | omega | exact rfl | assumption | exact ⟨rfl, rfl, rfl, rfl, rfl⟩ | exact ⟨rfl, rfl, rfl, rfl⟩ | exact ⟨rfl, by omega⟩ | exact oneAll_of rfl | exact ⟨rfl, oneAll_of rfl⟩ | exact Ref.refl _ | exact Thin.ref (.skip (Thin.refl _)) | exact Thin.ref (.skip (.skip (Thin.refl _))) | exact ⟨rfl, Nat.le_of_ble_eq_true rfl⟩ | ((try unfold maxLen); (try simp only [List.length_nil, List.length_cons, List.length_append]); omega) | (refine ⟨rfl, ?_⟩; (try simp only [List.length_nil, List.length_cons, List.length_append]); omega)) ?_ | intro _)); (all_goals (conv => whnf))
    exact ⟨endP (by (repeat (first | exact Thin.nil _ | exact Thin.refl _ | refine Thin.keep rfl (fun _ h => h) ?_ | refine Thin.skip ?_))) rfl⟩
  · rw [if_neg (fun h => hk ⟨h.1, h.2.2.1, by omega⟩)] at c0
    rw [if_neg hk]
    (repeat' ((conv => whnf); first | (refine CallK_pack (key := 77) rfl (fun w hR h0 => c0 _ _ _ h0) ?_; rintro _ _ ⟨rfl, fp', rfl⟩; refine ⟨.v _, rfl, ?_⟩) | (refine bcase_prop (fun h => ?_) (fun h => ?_) <;> try (exfalso; omega)) | (refine bcase_nprop (fun h => ?_) (fun h => ?_) <;> try (exfalso; omega)) | (refine bcase_intro (fun h => ?_) (fun h => ?_) <;> (try simp only [Bool.not_eq_true', Bool.not_eq_false', decide_eq_true_eq, decide_eq_false_iff_not, Bool.not_eq_true, Bool.not_eq_false, Decidable.not_not] at h)) | refine And.intro (by first | omega | exact rfl | assumption | exact ⟨rfl, rfl, rfl, rfl, rfl⟩ | exact ⟨rfl, rfl, rfl, rfl⟩ | exact ⟨rfl, by omega⟩ | exact oneAll_of rfl | exact ⟨rfl, oneAll_of rfl⟩ | exact Ref.refl _ | exact Thin.ref (.skip (Thin.refl _)) | exact Thin.ref (.skip (.skip (Thin.refl _))) | exact ⟨rfl, Nat.le_of_ble_eq_true rfl⟩ | ((try unfold maxLen); (try simp only [List.length_nil, List.length_cons, List.length_append]); omega) | (refine ⟨rfl, ?_⟩; (try simp only [List.length_nil, List.length_cons, List.length_append]); omega)) ?_ | intro _)); (all_goals (conv => whnf))
    exact ⟨endP (by (repeat (first | exact Thin.nil _ | exact Thin.refl _ | refine Thin.keep rfl (fun _ h => h) ?_ | refine Thin.skip ?_))) rfl⟩
def offRes (S : Sto) (n i c : Int) : Value := if known S n ∧ (0 ≤ i ∧ i ≤ linesN (tm S.E n).txt) ∧ 0 ≤ c ∧ c ≤ (lineE (tm S.E n).txt i.toNat - lineS (tm S.E n).txt i.toNat : Nat) then .tuple #[.int .i64 (lineS (tm S.E n).txt i.toNat + c.toNat : Nat), .nilIface] else .tuple #[.int .i64 0, errV 1]
theorem calls_LOffset (b : Nat) (S : Sto) (hw : WF S) (n i c : Int) : SC fn_lines_Offset #[pS b, .int .i64 n, .int .i64 i, .int .i64 c] b S S (offRes S n i c) := by
  intro key fp w hR
  refine part_call [.v (pS b), .v (.int .i64 n), .v (.int .i64 i), .v (.int .i64 c)] ok_lines_Offset (by simp) (hR.key 77) ?_
  have c0 := calls_LLine b S hw n i
  unfold linRes at c0
  unfold offRes
  by_cases hk : known S n ∧ 0 ≤ i ∧ i ≤ linesN (tm S.E n).txt
  case neg =>
    rw [if_neg hk] at c0
    rw [if_neg (fun h => hk ⟨h.1, h.2.1⟩)]
    (repeat' ((conv => whnf); first | (refine CallK_pack (key := 77) rfl (fun w hR h0 => c0 _ _ _ h0) ?_; rintro _ _ ⟨rfl, fp', rfl⟩; refine ⟨.v _, rfl, ?_⟩) | (refine bcase_prop (fun h => ?_) (fun h => ?_) <;> try (exfalso; omega)) | (refine bcase_nprop (fun h => ?_) (fun h => ?_) <;> try (exfalso; omega)) | (refine bcase_intro (fun h => ?_) (fun h => ?_) <;> (try simp only [Bool.not_eq_true', Bool.not_eq_false', decide_eq_true_eq, decide_eq_false_iff_not, Bool.not_eq_true, Bool.not_eq_false, Decidable.not_not] at h)) | refine And.intro (by first | omega | exact rfl | assumption | exact ⟨rfl, rfl, rfl, rfl, rfl⟩ | exact ⟨rfl, rfl, rfl, rfl⟩ | exact ⟨rfl, by omega⟩ | exact oneAll_of rfl | exact ⟨rfl, oneAll_of rfl⟩ | exact Ref.refl _ | exact Thin.ref (.skip (Thin.refl _)) | exact Thin.ref (.skip (.skip (Thin.refl _))) | exact ⟨rfl, Nat.le_of_ble_eq_true rfl⟩ | ((try unfold maxLen); (try simp only [List.length_nil, List.length_cons, List.length_append]); omega) | (refine ⟨rfl, ?_⟩; (try simp only [List.length_nil, List.length_cons, List.length_append]); omega)) ?_ | intro _)); (all_goals (conv => whnf))
    exact ⟨endP (by (repeat (first | exact Thin.nil _ | exact Thin.refl _ | refine Thin.keep rfl (fun _ h => h) ?_ | refine Thin.skip ?_))) rfl⟩
  rw [if_pos hk] at c0
  have hl := hw.le hk.1.2
  unfold LM Tm.len at hl
  have hle := line_le (t := (tm S.E n).txt) (i := i.toNat) (by omega)
  generalize hle' : lineE (tm S.E n).txt i.toNat = le at *
  generalize hls' : lineS (tm S.E n).txt i.toNat = ls at *
  by_cases hc : 0 ≤ c ∧ c ≤ (le - ls : Nat)
  · rw [if_pos ⟨hk.1, hk.2, hc⟩]
    have q : (ls : Int) + c = ((ls + c.toNat : Nat) : Int) := by omega
    (repeat' ((conv => whnf); first | (refine CallK_pack (key := 77) rfl (fun w hR h0 => c0 _ _ _ h0) ?_; rintro _ _ ⟨rfl, fp', rfl⟩; refine ⟨.v _, rfl, ?_⟩) | rw [q] | (refine bcase_prop (fun h => ?_) (fun h => ?_) <;> try (exfalso; omega)) | (refine bcase_nprop (fun h => ?_) (fun h => ?_) <;> try (exfalso; omega)) | (refine bcase_intro (fun h => ?_) (fun h => ?_) <;> (try simp only [Bool.not_eq_true', Bool.not_eq_false', decide_eq_true_eq, decide_eq_false_iff_not, Bool.not_eq_true, Bool.not_eq_false, Decidable.not_not] at h)) | refine And.intro (by first | omega | exact rfl | assumption | exact ⟨rfl, rfl, rfl, rfl, rfl⟩ | exact ⟨rfl, rfl, rfl, rfl⟩ | exact ⟨rfl, by omega⟩ | exact oneAll_of rfl | exact ⟨rfl, oneAll_of rfl⟩ | exact Ref.refl _ | exact Thin.ref (.skip (Thin.refl _)) | exact Thin.ref (.skip (.skip (Thin.refl _))) | exact ⟨rfl, Nat.le_of_ble_eq_true rfl⟩ | ((try unfold maxLen); (try simp only [List.length_nil, List.length_cons, List.length_append]); omega) | (refine ⟨rfl, ?_⟩; (try simp only [List.length_nil, List.length_cons, List.length_append]); omega)) ?_ | intro _)); (all_goals (conv => whnf))
    all_goals first | (exfalso; omega) | exact ⟨endP (by (repeat (first | exact Thin.nil _ | exact Thin.refl _ | refine Thin.keep rfl (fun _ h => h) ?_ | refine Thin.skip ?_))) rfl⟩
  · rw [if_neg (fun h => hc h.2.2)]
    (repeat' ((conv => whnf); first | (refine CallK_pack (key := 77) rfl (fun w hR h0 => c0 _ _ _ h0) ?_; rintro _ _ ⟨rfl, fp', rfl⟩; refine ⟨.v _, rfl, ?_⟩) | (refine bcase_prop (fun h => ?_) (fun h => ?_) <;> try (exfalso; omega)) | (refine bcase_nprop (fun h => ?_) (fun h => ?_) <;> try (exfalso; omega)) | (refine bcase_intro (fun h => ?_) (fun h => ?_) <;> (try simp only [Bool.not_eq_true', Bool.not_eq_false', decide_eq_true_eq, decide_eq_false_iff_not, Bool.not_eq_true, Bool.not_eq_false, Decidable.not_not] at h)) | refine And.intro (by first | omega | exact rfl | assumption | exact ⟨rfl, rfl, rfl, rfl, rfl⟩ | exact ⟨rfl, rfl, rfl, rfl⟩ | exact ⟨rfl, by omega⟩ | exact oneAll_of rfl | exact ⟨rfl, oneAll_of rfl⟩ | exact Ref.refl _ | exact Thin.ref (.skip (Thin.refl _)) | exact Thin.ref (.skip (.skip (Thin.refl _))) | exact ⟨rfl, Nat.le_of_ble_eq_true rfl⟩ | ((try unfold maxLen); (try simp only [List.length_nil, List.length_cons, List.length_append]); omega) | (refine ⟨rfl, ?_⟩; (try simp only [List.length_nil, List.length_cons, List.length_append]); omega)) ?_ | intro _)); (all_goals (conv => whnf))
    all_goals first | (exfalso; omega) | exact ⟨endP (by (repeat (first | exact Thin.nil _ | exact Thin.refl _ | refine Thin.keep rfl (fun _ h => h) ?_ | refine Thin.skip ?_))) rfl⟩
def feeRes (S : Sto) (n i m : Int) : Value := if known S n ∧ 0 ≤ i ∧ 0 ≤ m ∧ i ≤ (tm S.E n).len ∧ m ≤ (tm S.E n).len - i then .tuple #[.int .i64 (linesN (sub (tm S.E n).txt i.toNat m.toNat)), .nilIface] else .tuple #[.int .i64 0, errV 1]
theorem calls_LFeeds (b : Nat) (S : Sto) (hw : WF S) (n i m : Int) : SC fn_lines_Feeds #[pS b, .int .i64 n, .int .i64 i, .int .i64 m] b S S (feeRes S n i m) := by
  intro key fp w hR
  refine part_call [.v (pS b), .v (.int .i64 n), .v (.int .i64 i), .v (.int .i64 m)] ok_lines_Feeds (by simp) (hR.key 77) ?_
  have c0 := calls_AWeight b S hw n i m
  unfold wgRes at c0
  unfold feeRes
  by_cases hk : known S n ∧ 0 ≤ i ∧ 0 ≤ m ∧ i ≤ (tm S.E n).len ∧ m ≤ (tm S.E n).len - i
  · rw [if_pos hk] at c0 ⊢
    (repeat' ((conv => whnf); first | (refine CallK_pack (key := 77) rfl (fun w hR h0 => c0 _ _ _ h0) ?_; rintro _ _ ⟨rfl, fp', rfl⟩; refine ⟨.v _, rfl, ?_⟩) | (refine bcase_prop (fun h => ?_) (fun h => ?_) <;> try (exfalso; omega)) | (refine bcase_nprop (fun h => ?_) (fun h => ?_) <;> try (exfalso; omega)) | (refine bcase_intro (fun h => ?_) (fun h => ?_) <;> (try simp only [Bool.not_eq_true', Bool.not_eq_false', decide_eq_true_eq, decide_eq_false_iff_not, Bool.not_eq_true, Bool.not_eq_false, Decidable.not_not] at h)) | refine And.intro (by first | omega | exact rfl | assumption | exact ⟨rfl, rfl, rfl, rfl, rfl⟩ | exact ⟨rfl, rfl, rfl, rfl⟩ | exact ⟨rfl, by omega⟩ | exact oneAll_of rfl | exact ⟨rfl, oneAll_of rfl⟩ | exact Ref.refl _ | exact Thin.ref (.skip (Thin.refl _)) | exact Thin.ref (.skip (.skip (Thin.refl _))) | exact ⟨rfl, Nat.le_of_ble_eq_true rfl⟩ | ((try unfold maxLen); (try simp only [List.length_nil, List.length_cons, List.length_append]); omega) | (refine ⟨rfl, ?_⟩; (try simp only [List.length_nil, List.length_cons, List.length_append]); omega)) ?_ | intro _)); (all_goals (conv => whnf))
    exact ⟨endP (by (repeat (first | exact Thin.nil _ | exact Thin.refl _ | refine Thin.keep rfl (fun _ h => h) ?_ | refine Thin.skip ?_))) rfl⟩
  · rw [if_neg hk] at c0 ⊢
    (repeat' ((conv => whnf); first | (refine CallK_pack (key := 77) rfl (fun w hR h0 => c0 _ _ _ h0) ?_; rintro _ _ ⟨rfl, fp', rfl⟩; refine ⟨.v _, rfl, ?_⟩) | (refine bcase_prop (fun h => ?_) (fun h => ?_) <;> try (exfalso; omega)) | (refine bcase_nprop (fun h => ?_) (fun h => ?_) <;> try (exfalso; omega)) | (refine bcase_intro (fun h => ?_) (fun h => ?_) <;> (try simp only [Bool.not_eq_true', Bool.not_eq_false', decide_eq_true_eq, decide_eq_false_iff_not, Bool.not_eq_true, Bool.not_eq_false, Decidable.not_not] at h)) | refine And.intro (by first | omega | exact rfl | assumption | exact ⟨rfl, rfl, rfl, rfl, rfl⟩ | exact ⟨rfl, rfl, rfl, rfl⟩ | exact ⟨rfl, by omega⟩ | exact oneAll_of rfl | exact ⟨rfl, oneAll_of rfl⟩ | exact Ref.refl _ | exact Thin.ref (.skip (Thin.refl _)) | exact Thin.ref (.skip (.skip (Thin.refl _))) | exact ⟨rfl, Nat.le_of_ble_eq_true rfl⟩ | ((try unfold maxLen); (try simp only [List.length_nil, List.length_cons, List.length_append]); omega) | (refine ⟨rfl, ?_⟩; (try simp only [List.length_nil, List.length_cons, List.length_append]); omega)) ?_ | intro _)); (all_goals (conv => whnf))
    exact ⟨endP (by (repeat (first | exact Thin.nil _ | exact Thin.refl _ | refine Thin.keep rfl (fun _ h => h) ?_ | refine Thin.skip ?_))) rfl⟩

/-! ### Without a store -/
theorem calls_AWeightNil (n i m : Int) (w : World) : Calls Try.prog fn_access_Weight #[.pointer none, .int .i64 n, .int .i64 i, .int .i64 m] w fun e w' => e = .returned (.tuple #[wt0, errV 5]) ∧ Ext w w' := by
  refine pure_call [.v (.pointer none), .v (.int .i64 n), .v (.int .i64 i), .v (.int .i64 m)] w ok_access_Weight (by simp) ?_
  have c0 := calls_SWeightNil n
  (repeat' ((conv => whnf); first | refine ⟨.v _, ⟨rfl, trivial⟩, ?_⟩ | (first | refine CallK_pure (.v _) (fun w hR => c0 w) ?_ | refine QCall_pure (.v _) (fun w hR => c0 w) ?_) | (refine bcase_prop (fun h => ?_) (fun h => ?_) <;> try (exfalso; omega)) | (refine bcase_nprop (fun h => ?_) (fun h => ?_) <;> try (exfalso; omega)) | (refine bcase_intro (fun h => ?_) (fun h => ?_) <;> (try simp only [Bool.not_eq_true', Bool.not_eq_false', decide_eq_true_eq, decide_eq_false_iff_not, Bool.not_eq_true, Bool.not_eq_false, Decidable.not_not] at h)) | refine And.intro (by first | omega | exact rfl | assumption | exact ⟨rfl, rfl, rfl, rfl, rfl⟩ | exact ⟨rfl, rfl, rfl, rfl⟩ | exact ⟨rfl, by omega⟩ | exact oneAll_of rfl | exact ⟨rfl, oneAll_of rfl⟩ | exact Ref.refl _ | exact Thin.ref (.skip (Thin.refl _)) | exact Thin.ref (.skip (.skip (Thin.refl _))) | exact ⟨rfl, Nat.le_of_ble_eq_true rfl⟩ | ((try unfold maxLen); (try simp only [List.length_nil, List.length_cons, List.length_append]); omega) | (refine ⟨rfl, ?_⟩; (try simp only [List.length_nil, List.length_cons, List.length_append]); omega)) ?_ | intro _)); (all_goals (conv => whnf))
  exact ⟨rfl⟩
theorem calls_LCountNil (n : Int) (w : World) : Calls Try.prog fn_lines_Count #[.pointer none, .int .i64 n] w fun e w' => e = .returned (.tuple #[.int .i64 0, errV 5]) ∧ Ext w w' := by
  refine pure_call [.v (.pointer none), .v (.int .i64 n)] w ok_lines_Count (by simp) ?_
  have c0 := calls_SWeightNil n
  (repeat' ((conv => whnf); first | (first | refine CallK_pure (.v _) (fun w hR => c0 w) ?_ | refine QCall_pure (.v _) (fun w hR => c0 w) ?_) | (refine bcase_prop (fun h => ?_) (fun h => ?_) <;> try (exfalso; omega)) | (refine bcase_nprop (fun h => ?_) (fun h => ?_) <;> try (exfalso; omega)) | (refine bcase_intro (fun h => ?_) (fun h => ?_) <;> (try simp only [Bool.not_eq_true', Bool.not_eq_false', decide_eq_true_eq, decide_eq_false_iff_not, Bool.not_eq_true, Bool.not_eq_false, Decidable.not_not] at h)) | refine And.intro (by first | omega | exact rfl | assumption | exact ⟨rfl, rfl, rfl, rfl, rfl⟩ | exact ⟨rfl, rfl, rfl, rfl⟩ | exact ⟨rfl, by omega⟩ | exact oneAll_of rfl | exact ⟨rfl, oneAll_of rfl⟩ | exact Ref.refl _ | exact Thin.ref (.skip (Thin.refl _)) | exact Thin.ref (.skip (.skip (Thin.refl _))) | exact ⟨rfl, Nat.le_of_ble_eq_true rfl⟩ | ((try unfold maxLen); (try simp only [List.length_nil, List.length_cons, List.length_append]); omega) | (refine ⟨rfl, ?_⟩; (try simp only [List.length_nil, List.length_cons, List.length_append]); omega)) ?_ | intro _)); (all_goals (conv => whnf))
  exact ⟨rfl⟩
theorem calls_LStartNil (n i : Int) (w : World) : Calls Try.prog fn_lines_Start #[.pointer none, .int .i64 n, .int .i64 i] w fun e w' => e = .returned (.tuple #[.int .i64 0, errV 5]) ∧ Ext w w' := by
  refine pure_call [.v (.pointer none), .v (.int .i64 n), .v (.int .i64 i)] w ok_lines_Start (by simp) ?_
  have c0 := calls_SWeightNil n
  (repeat' ((conv => whnf); first | (first | refine CallK_pure (.v _) (fun w hR => c0 w) ?_ | refine QCall_pure (.v _) (fun w hR => c0 w) ?_) | (refine bcase_prop (fun h => ?_) (fun h => ?_) <;> try (exfalso; omega)) | (refine bcase_nprop (fun h => ?_) (fun h => ?_) <;> try (exfalso; omega)) | (refine bcase_intro (fun h => ?_) (fun h => ?_) <;> (try simp only [Bool.not_eq_true', Bool.not_eq_false', decide_eq_true_eq, decide_eq_false_iff_not, Bool.not_eq_true, Bool.not_eq_false, Decidable.not_not] at h)) | refine And.intro (by first | omega | exact rfl | assumption | exact ⟨rfl, rfl, rfl, rfl, rfl⟩ | exact ⟨rfl, rfl, rfl, rfl⟩ | exact ⟨rfl, by omega⟩ | exact oneAll_of rfl | exact ⟨rfl, oneAll_of rfl⟩ | exact Ref.refl _ | exact Thin.ref (.skip (Thin.refl _)) | exact Thin.ref (.skip (.skip (Thin.refl _))) | exact ⟨rfl, Nat.le_of_ble_eq_true rfl⟩ | ((try unfold maxLen); (try simp only [List.length_nil, List.length_cons, List.length_append]); omega) | (refine ⟨rfl, ?_⟩; (try simp only [List.length_nil, List.length_cons, List.length_append]); omega)) ?_ | intro _)); (all_goals (conv => whnf))
  exact ⟨rfl⟩
theorem calls_LLineNil (n i : Int) (w : World) : Calls Try.prog fn_lines_Line #[.pointer none, .int .i64 n, .int .i64 i] w fun e w' => e = .returned (.tuple #[.agg #[.int .i64 0, .int .i64 0], errV 5]) ∧ Ext w w' := by
  refine pure_call [.v (.pointer none), .v (.int .i64 n), .v (.int .i64 i)] w ok_lines_Line (by simp) ?_
  have c0 := calls_LStartNil n i
  (repeat' ((conv => whnf); first | (first | refine CallK_pure (.v _) (fun w hR => c0 w) ?_ | refine QCall_pure (.v _) (fun w hR => c0 w) ?_) | (refine bcase_prop (fun h => ?_) (fun h => ?_) <;> try (exfalso; omega)) | (refine bcase_nprop (fun h => ?_) (fun h => ?_) <;> try (exfalso; omega)) | (refine bcase_intro (fun h => ?_) (fun h => ?_) <;> (try simp only [Bool.not_eq_true', Bool.not_eq_false', decide_eq_true_eq, decide_eq_false_iff_not, Bool.not_eq_true, Bool.not_eq_false, Decidable.not_not] at h)) | refine And.intro (by first | omega | exact rfl | assumption | exact ⟨rfl, rfl, rfl, rfl, rfl⟩ | exact ⟨rfl, rfl, rfl, rfl⟩ | exact ⟨rfl, by omega⟩ | exact oneAll_of rfl | exact ⟨rfl, oneAll_of rfl⟩ | exact Ref.refl _ | exact Thin.ref (.skip (Thin.refl _)) | exact Thin.ref (.skip (.skip (Thin.refl _))) | exact ⟨rfl, Nat.le_of_ble_eq_true rfl⟩ | ((try unfold maxLen); (try simp only [List.length_nil, List.length_cons, List.length_append]); omega) | (refine ⟨rfl, ?_⟩; (try simp only [List.length_nil, List.length_cons, List.length_append]); omega)) ?_ | intro _)); (all_goals (conv => whnf))
  exact ⟨rfl⟩
theorem calls_LPositionNil (n i : Int) (w : World) : Calls Try.prog fn_lines_Position #[.pointer none, .int .i64 n, .int .i64 i] w fun e w' => e = .returned (.tuple #[.int .i64 0, .int .i64 0, errV 5]) ∧ Ext w w' := by
  refine pure_call [.v (.pointer none), .v (.int .i64 n), .v (.int .i64 i)] w ok_lines_Position (by simp) ?_
  have c0 := calls_AWeightNil n 0 i
  (repeat' ((conv => whnf); first | (first | refine CallK_pure (.v _) (fun w hR => c0 w) ?_ | refine QCall_pure (.v _) (fun w hR => c0 w) ?_) | (refine bcase_prop (fun h => ?_) (fun h => ?_) <;> try (exfalso; omega)) | (refine bcase_nprop (fun h => ?_) (fun h => ?_) <;> try (exfalso; omega)) | (refine bcase_intro (fun h => ?_) (fun h => ?_) <;> (try simp only [Bool.not_eq_true', Bool.not_eq_false', decide_eq_true_eq, decide_eq_false_iff_not, Bool.not_eq_true, Bool.not_eq_false, Decidable.not_not] at h)) | refine And.intro (by first | omega | exact rfl | assumption | exact ⟨rfl, rfl, rfl, rfl, rfl⟩ | exact ⟨rfl, rfl, rfl, rfl⟩ | exact ⟨rfl, by omega⟩ | exact oneAll_of rfl | exact ⟨rfl, oneAll_of rfl⟩ | exact Ref.refl _ | exact Thin.ref (.skip (Thin.refl _)) | exact Thin.ref (.skip (.skip (Thin.refl _))) | exact ⟨rfl, Nat.le_of_ble_eq_true rfl⟩ | ((try unfold maxLen); (try simp only [List.length_nil, List.length_cons, List.length_append]); omega) | (refine ⟨rfl, ?_⟩; (try simp only [List.length_nil, List.length_cons, List.length_append]); omega)) ?_ | intro _)); (all_goals (conv => whnf))
  exact ⟨rfl⟩
theorem calls_LOffsetNil (n i c : Int) (w : World) : Calls Try.prog fn_lines_Offset #[.pointer none, .int .i64 n, .int .i64 i, .int .i64 c] w fun e w' => e = .returned (.tuple #[.int .i64 0, errV 5]) ∧ Ext w w' := by
  refine pure_call [.v (.pointer none), .v (.int .i64 n), .v (.int .i64 i), .v (.int .i64 c)] w ok_lines_Offset (by simp) ?_
  have c0 := calls_LLineNil n i
  (repeat' ((conv => whnf); first | (first | refine CallK_pure (.v _) (fun w hR => c0 w) ?_ | refine QCall_pure (.v _) (fun w hR => c0 w) ?_) | (refine bcase_prop (fun h => ?_) (fun h => ?_) <;> try (exfalso; omega)) | (refine bcase_nprop (fun h => ?_) (fun h => ?_) <;> try (exfalso; omega)) | (refine bcase_intro (fun h => ?_) (fun h => ?_) <;> (try simp only [Bool.not_eq_true', Bool.not_eq_false', decide_eq_true_eq, decide_eq_false_iff_not, Bool.not_eq_true, Bool.not_eq_false, Decidable.not_not] at h)) | refine And.intro (by first | omega | exact rfl | assumption | exact ⟨rfl, rfl, rfl, rfl, rfl⟩ | exact ⟨rfl, rfl, rfl, rfl⟩ | exact ⟨rfl, by omega⟩ | exact oneAll_of rfl | exact ⟨rfl, oneAll_of rfl⟩ | exact Ref.refl _ | exact Thin.ref (.skip (Thin.refl _)) | exact Thin.ref (.skip (.skip (Thin.refl _))) | exact ⟨rfl, Nat.le_of_ble_eq_true rfl⟩ | ((try unfold maxLen); (try simp only [List.length_nil, List.length_cons, List.length_append]); omega) | (refine ⟨rfl, ?_⟩; (try simp only [List.length_nil, List.length_cons, List.length_append]); omega)) ?_ | intro _)); (all_goals (conv => whnf))
  exact ⟨rfl⟩
theorem calls_LFeedsNil (n i m : Int) (w : World) : Calls Try.prog fn_lines_Feeds #[.pointer none, .int .i64 n, .int .i64 i, .int .i64 m] w fun e w' => e = .returned (.tuple #[.int .i64 0, errV 5]) ∧ Ext w w' := by
  refine pure_call [.v (.pointer none), .v (.int .i64 n), .v (.int .i64 i), .v (.int .i64 m)] w ok_lines_Feeds (by simp) ?_
  have c0 := calls_AWeightNil n i m
  (repeat' ((conv => whnf); first | (first | refine CallK_pure (.v _) (fun w hR => c0 w) ?_ | refine QCall_pure (.v _) (fun w hR => c0 w) ?_) | (refine bcase_prop (fun h => ?_) (fun h => ?_) <;> try (exfalso; omega)) | (refine bcase_nprop (fun h => ?_) (fun h => ?_) <;> try (exfalso; omega)) | (refine bcase_intro (fun h => ?_) (fun h => ?_) <;> (try simp only [Bool.not_eq_true', Bool.not_eq_false', decide_eq_true_eq, decide_eq_false_iff_not, Bool.not_eq_true, Bool.not_eq_false, Decidable.not_not] at h)) | refine And.intro (by first | omega | exact rfl | assumption | exact ⟨rfl, rfl, rfl, rfl, rfl⟩ | exact ⟨rfl, rfl, rfl, rfl⟩ | exact ⟨rfl, by omega⟩ | exact oneAll_of rfl | exact ⟨rfl, oneAll_of rfl⟩ | exact Ref.refl _ | exact Thin.ref (.skip (Thin.refl _)) | exact Thin.ref (.skip (.skip (Thin.refl _))) | exact ⟨rfl, Nat.le_of_ble_eq_true rfl⟩ | ((try unfold maxLen); (try simp only [List.length_nil, List.length_cons, List.length_append]); omega) | (refine ⟨rfl, ?_⟩; (try simp only [List.length_nil, List.length_cons, List.length_append]); omega)) ?_ | intro _)); (all_goals (conv => whnf))
  exact ⟨rfl⟩
end Go.Proofs.Ytagoedllflalpaa
